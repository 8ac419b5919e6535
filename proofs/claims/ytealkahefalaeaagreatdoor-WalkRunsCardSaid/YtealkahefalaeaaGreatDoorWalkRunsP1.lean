/-
  PLAIN LEAN, no program in sight: what the pure functions answer.
-/
import Derived.Test.YtealkahefalaeaaGreatDoorWalkRunsD1
import Derived.Test.YtealkahefalaeaaGreatDoorProg
namespace Go.Proofs.YtealkahefalaeaaGreatDoor
open Go Go.Eng Go.Cr
set_option maxRecDepth 100000
theorem runX : XOk Tryz.prog ⟨261, 282, 1000000, 0⟩ := ⟨⟨_, Tryz.func261, by kernel_rfl, by kernel_rfl, by kernel_rfl, by kernel_rfl⟩, ⟨_, Tryz.func282, by kernel_rfl, by kernel_rfl, by kernel_rfl, by kernel_rfl⟩, .inl (by kernel_rfl)⟩
theorem runM : Tryz.prog.follows .mixedOrders = true := by kernel_rfl
end Go.Proofs.YtealkahefalaeaaGreatDoor
namespace Go.Proofs.YtealkahefalaeaaGreatDoor
open Go Go.Eng Go.Cr
set_option maxRecDepth 100000
theorem run22 : isTrue (run Tryz.prog ⟨261, 282, 1000000, 0⟩ 1000 (.f 22 []) [] (h0T 18 .u8 tab_math_bits_deBruijn64tab)) = true := by kernel_rfl
theorem runC22 : RunC Tryz.prog 22 (fun ρ => GTab ρ 18 .u8 tab_math_bits_deBruijn64tab) := runCT runX runM run22 ⟨_, _, Tryz.func22, by kernel_rfl, rfl⟩ (by decide) (by decide)
end Go.Proofs.YtealkahefalaeaaGreatDoor
namespace Go.Eng
open Go
theorem iterO_for {σ τ : Type} {f : σ → Option (σ ⊕ τ)} {r : τ} (st : Nat → σ) : ∀ (n : Nat) {N k : Nat}, n < N → (∀ i, k ≤ i → i < k + n → f (st i) = some (.inl (st (i + 1)))) → f (st (k + n)) = some (.inr r) → iterO N f (st k) = some r
  | 0, 0, _, h, _, _ => absurd h (Nat.not_lt_zero _)
  | 0, N + 1, k, _, _, he => by simp only [iterO]; rw [show f (st k) = _ from he]
  | n + 1, 0, _, h, _, _ => absurd h (Nat.not_lt_zero _)
  | n + 1, N + 1, k, h, hs, he => by
    simp only [iterO]
    rw [hs k (Nat.le_refl _) (by omega)]
    exact iterO_for st n (by omega) (fun i h1 h2 => hs i (by omega) (by omega)) (by rw [show k + 1 + n = k + (n + 1) by omega]; exact he)
theorem iterO_for0 {σ τ : Type} {f : σ → Option (σ ⊕ τ)} {r : τ} {s : σ} (st : Nat → σ) (n : Nat) {N : Nat} (h0 : st 0 = s) (hN : n < N) (hs : ∀ i, i < n → f (st i) = some (.inl (st (i + 1)))) (he : f (st n) = some (.inr r)) : iterO N f s = some r := by
  subst h0
  exact iterO_for st n hN (fun i _ h => hs i (by omega)) (by rw [Nat.zero_add]; exact he)
theorem iterO_while {σ τ : Type} {f : σ → Option (σ ⊕ τ)} (I : σ → Prop) (μ : σ → Nat) (Q : τ → Prop) (step : ∀ s, I s → (∃ s', f s = some (.inl s') ∧ I s' ∧ μ s' < μ s) ∨ ∃ r, f s = some (.inr r) ∧ Q r) :
    ∀ {N : Nat} {s : σ}, I s → μ s < N → ∃ r, iterO N f s = some r ∧ Q r
  | 0, _, _, h => absurd h (Nat.not_lt_zero _)
  | N + 1, s, hI, h => by
    rcases step s hI with ⟨s', h1, h2, h3⟩ | ⟨r, h1, h2⟩
    · obtain ⟨r, h4, h5⟩ := iterO_while I μ Q step (N := N) h2 (by omega)
      exact ⟨r, by simp only [iterO, h1]; exact h4, h5⟩
    · exact ⟨r, by simp only [iterO, h1], h2⟩
theorem wrap64 {x : Int} (h1 : -9223372036854775808 ≤ x) (h2 : x ≤ 9223372036854775807) : IntKind.wrap .i64 x = x := by
  simp only [IntKind.wrap, IntKind.signed, IntKind.bits]
  simp
  omega
theorem wrapU64 {x : Int} (h1 : 0 ≤ x) (h2 : x ≤ 18446744073709551615) : IntKind.wrap .u64 x = x := by
  simp only [IntKind.wrap, IntKind.signed, IntKind.bits]
  simp
  omega
theorem w64_succ {n : Nat} (h : n < 9223372036854775807) : w64 ((n : Int) + 1) = ((n + 1 : Nat) : Int) := by
  rw [w64, wrap64] <;> omega
theorem idx_nat {α : Type} {xs : List α} {i : Nat} (h : i < xs.length) : idx xs (i : Int) = some xs[i] := by simp [idx, h]
theorem idx_int {α : Type} {xs : List α} {i : Int} (h0 : 0 ≤ i) (h : i.toNat < xs.length) : idx xs i = some xs[i.toNat] := by simp [idx, h, h0]
theorem idx_of {α : Type} {xs : List α} {i : Nat} {x : α} (h : xs[i]? = some x) : idx xs (i : Int) = some x := by simp [idx, h]
theorem setI_nat {α : Type} {xs : List α} {i : Nat} {x : α} (h : i < xs.length) : setI xs (i : Int) x = some (xs.set i x) := by simp [setI, h]
theorem app_eq {α : Type} {xs ys : List α} (h : xs.length + ys.length ≤ 4294967296) : app xs ys = some (xs ++ ys) := by simp [app, h]
theorem mk_eq {α : Type} {z : α} {n : Nat} (h : n ≤ 4294967296) : mk z (n : Int) = some (List.replicate n z) := by
  simp [mk]; omega
/-- a loop over xs that leaves with g at the first element that p fits -/
theorem loop_find {α τ : Type} {f : Int → Option (Int ⊕ (Unit ⊕ τ))} (xs : List α) (p : α → Bool) (g : Nat → τ) {N : Nat} (hN : xs.length < N)
    (hb : ∀ (i : Nat) (x : α), xs[i]? = some x → f (i : Int) = if p x then some (.inr (.inr (g i))) else some (.inl ((i + 1 : Nat) : Int))) (he : f (xs.length : Int) = some (.inr (.inl ()))) :
    iterO N f 0 = some (match xs.findIdx? p with | some i => .inr (g i) | none => .inl ()) := by
  cases h : xs.findIdx? p with
  | none =>
    have h' := List.findIdx?_eq_none_iff.1 h
    refine iterO_for0 (fun i => (i : Int)) xs.length rfl hN (fun i hi => ?_) he
    rw [hb i xs[i] (List.getElem?_eq_getElem hi), h' _ (List.getElem_mem hi)]
    simp
  | some k =>
    obtain ⟨hk, hp, hlt⟩ := List.findIdx?_eq_some_iff_getElem.1 h
    refine iterO_for0 (fun i => (i : Int)) k rfl (by omega) (fun i hi => ?_) ?_
    · rw [hb i _ (List.getElem?_eq_getElem (by omega))]
      have := hlt i hi
      simp [this]
    · rw [hb k _ (List.getElem?_eq_getElem hk)]
      simp [hp]
/-- .. that leaves with b -/
theorem loop_any {α τ : Type} {f : Int → Option (Int ⊕ (Unit ⊕ τ))} (xs : List α) (p : α → Bool) (b : τ) {N : Nat} (hN : xs.length < N)
    (hb : ∀ (i : Nat) (x : α), xs[i]? = some x → f (i : Int) = if p x then some (.inr (.inr b)) else some (.inl ((i + 1 : Nat) : Int))) (he : f (xs.length : Int) = some (.inr (.inl ()))) :
    iterO N f 0 = some (if xs.any p then .inr b else .inl ()) := by
  rw [loop_find xs p (fun _ => b) hN hb he]
  cases h : xs.findIdx? p with
  | none =>
    have h' := List.findIdx?_eq_none_iff.1 h
    have : xs.any p = false := by rw [List.any_eq_false]; intro x hx; rw [h' x hx]; simp
    simp [this]
  | some k =>
    obtain ⟨hk, hp, hlt⟩ := List.findIdx?_eq_some_iff_getElem.1 h
    have : xs.any p = true := List.any_eq_true.2 ⟨_, List.getElem_mem hk, hp⟩
    simp [this]
/-- a loop over xs, by an invariant -/
theorem loop_inv {α σ τ ι : Type} {f : ι → Option (ι ⊕ τ)} (st : Nat → σ → ι) (out : σ → τ) (xs : List α) (I : Nat → σ → Prop) {N : Nat} {s : σ} (hN : xs.length < N)
    (hI : I 0 s) (hb : ∀ (i : Nat) (x : α) (s : σ), xs[i]? = some x → I i s → ∃ s', f (st i s) = some (.inl (st (i + 1) s')) ∧ I (i + 1) s') (he : ∀ s, I xs.length s → f (st xs.length s) = some (.inr (out s))) :
    ∃ s', iterO N f (st 0 s) = some (out s') ∧ I xs.length s' := by
  have key : ∀ (k i : Nat) (s : σ) (M : Nat), i + k = xs.length → k < M → I i s → ∃ s', iterO M f (st i s) = some (out s') ∧ I xs.length s' := by
    intro k
    induction k with
    | zero =>
      intro i s M hi hM h
      obtain ⟨M, rfl⟩ : ∃ m, M = m + 1 := ⟨M - 1, by omega⟩
      obtain rfl : i = xs.length := by omega
      exact ⟨s, by simp only [iterO]; rw [he s h], h⟩
    | succ k ih =>
      intro i s M hi hM h
      obtain ⟨M, rfl⟩ : ∃ m, M = m + 1 := ⟨M - 1, by omega⟩
      obtain ⟨s', h1, h2⟩ := hb i _ s (List.getElem?_eq_getElem (by omega)) h
      obtain ⟨s'', h3, h4⟩ := ih (i + 1) s' M (by omega) (by omega) h2
      exact ⟨s'', by simp only [iterO]; rw [h1]; exact h3, h4⟩
  exact key xs.length 0 s N (by omega) hN hI
end Go.Eng
namespace Go.Proofs.YtealkahefalaeaaGreatDoor
open Go Go.Eng
theorem lt_len {α : Type} {xs : List α} {i : Nat} {x : α} (h : xs[i]? = some x) : i < xs.length := (List.getElem?_eq_some_iff.1 h).1
end Go.Proofs.YtealkahefalaeaaGreatDoor
namespace Go.Proofs.YtealkahefalaeaaGreatDoor
open Go Go.Eng
theorem range_get {n i x : Nat} (h : (List.range n)[i]? = some x) : i < n ∧ x = i := by
  have hl := lt_len h
  simp at hl
  rw [List.getElem?_range hl] at h
  exact ⟨hl, (Option.some.inj h).symm⟩
theorem sameInts_spec {N : Nat} {a b : List Int} (hN : 4294967296 ≤ N) (ha : a.length < 4294967296) : F_doffernum_SameInts N a b = some (decide (a = b)) := by
  unfold F_doffernum_SameInts
  by_cases h : a.length = b.length
  case neg =>
    have : ((a.length : Int) != (b.length : Int)) = true := by simp; omega
    have hne : a ≠ b := fun e => h (by rw [e])
    simp [this, hne]
  have e0 : ((a.length : Int) != (b.length : Int)) = false := by simp [h]
  simp only [e0, Bool.false_eq_true, if_false]
  rw [loop_any (List.range a.length) (fun i => a.getD i 0 != b.getD i 0) false (by simp; omega) (fun i x hx => by
    obtain ⟨hi, rfl⟩ := range_get hx
    have hib : x < b.length := by omega
    unfold F_doffernum_SameInts_l0
    have g1 : a.getD x 0 = a[x] := by simp [List.getD, List.getElem?_eq_getElem hi]
    have g2 : b.getD x 0 = b[x] := by simp [List.getD, List.getElem?_eq_getElem hib]
    rw [g1, g2]
    simp only [show ((x : Int) < (a.length : Int)) by omega, decide_true, if_true, idx_nat hi, idx_nat hib, bind, Option.bind_some]
    rw [w64_succ (by omega)]) (by simp [F_doffernum_SameInts_l0])]
  by_cases c : ((List.range a.length).any fun i => a.getD i 0 != b.getD i 0) = true
  · have : a ≠ b := by
      obtain ⟨i, _, hp⟩ := List.any_eq_true.1 c
      intro e
      simp [e] at hp
    rw [if_pos c]
    simp [this]
  · have : a = b := by
      apply List.ext_getElem h
      intro i h1 h2
      have h3 := List.any_eq_false.1 (by simpa using c : ((List.range a.length).any fun i => a.getD i 0 != b.getD i 0) = false) i (by simpa using h1)
      have g1 : a.getD i 0 = a[i] := by simp [List.getD, List.getElem?_eq_getElem h1]
      have g2 : b.getD i 0 = b[i] := by simp [List.getD, List.getElem?_eq_getElem h2]
      rw [g1, g2] at h3
      simpa using h3
    rw [if_neg c]
    simp [this]
end Go.Proofs.YtealkahefalaeaaGreatDoor
namespace Go.Proofs.YtealkahefalaeaaGreatDoor
open Go Go.Eng
theorem iand_u64 {a b : Nat} (ha : a < 18446744073709551616) (hb : b < 18446744073709551616) : iand .u64 (a : Int) (b : Int) = ((a &&& b : Nat) : Int) := by
  have h : a &&& b < 18446744073709551616 := Nat.and_lt_two_pow (n := 64) _ hb
  show IntKind.wrap .u64 ((BitVec.ofInt 64 (a : Int) &&& BitVec.ofInt 64 (b : Int)).toNat : Int) = _
  rw [BitVec.ofInt_natCast, BitVec.ofInt_natCast, BitVec.toNat_and, BitVec.toNat_ofNat, BitVec.toNat_ofNat, Nat.mod_eq_of_lt ha, Nat.mod_eq_of_lt hb, wrapU64] <;> omega
theorem ior_u64 {a b : Nat} (ha : a < 18446744073709551616) (hb : b < 18446744073709551616) : ior .u64 (a : Int) (b : Int) = ((a ||| b : Nat) : Int) := by
  have h : a ||| b < 18446744073709551616 := Nat.or_lt_two_pow (n := 64) ha hb
  show IntKind.wrap .u64 ((BitVec.ofInt 64 (a : Int) ||| BitVec.ofInt 64 (b : Int)).toNat : Int) = _
  rw [BitVec.ofInt_natCast, BitVec.ofInt_natCast, BitVec.toNat_or, BitVec.toNat_ofNat, BitVec.toNat_ofNat, Nat.mod_eq_of_lt ha, Nat.mod_eq_of_lt hb, wrapU64] <;> omega
theorem shl_one {k : Nat} (h : k < 64) : shlI .u64 1 (k : Int) = ((2 ^ k : Nat) : Int) := by
  have h1 : (2 : Nat) ^ k ≤ 2 ^ 63 := Nat.pow_le_pow_right (by omega) (by omega)
  have h2 : (2 : Nat) ^ 63 = 9223372036854775808 := by decide
  simp only [shlI, IntKind.bits, Int.toNat_natCast, Nat.min_eq_left (show k ≤ 64 by omega), Int.one_mul]
  have e : ((2 : Int) ^ k) = ((2 ^ k : Nat) : Int) := by simp
  rw [e]
  generalize 2 ^ k = p at *
  rw [wrapU64] <;> omega
/-- bit i -/
def has (m : List Int) (i : Nat) : Bool := (m.getD (i / 64) 0).toNat.testBit (i % 64)
structure MkR (n : Nat) (m : List Int) : Prop where
  len : m.length = (n + 63) / 64
  rng : ∀ w ∈ m, 0 ≤ w ∧ w < 18446744073709551616
theorem new_spec {N n : Nat} (h : n ≤ 65536) : ∃ m, F_marks_New N (n : Int) = some (.inr m) ∧ MkR n m ∧ ∀ j, has m j = false := by
  refine ⟨List.replicate ((n + 63) / 64) 0, ?_, ⟨by simp, fun w hw => by rw [List.eq_of_mem_replicate hw]; omega⟩, fun j => ?_⟩
  · unfold F_marks_New
    have a1 : ¬ ((n : Int) < 0) := by omega
    have a2 : ¬ ((n : Int) > 65536) := by omega
    have e1 : w64 ((n : Int) + 64) = ((n + 64 : Nat) : Int) := by rw [w64, wrap64] <;> omega
    have e2 : w64 (((n + 64 : Nat) : Int) - 1) = ((n + 63 : Nat) : Int) := by rw [w64, wrap64] <;> omega
    have e3 : w64 (((n + 63 : Nat) : Int).tdiv 64) = (((n + 63) / 64 : Nat) : Int) := by
      have : ((n + 63 : Nat) : Int).tdiv 64 = (((n + 63) / 64 : Nat) : Int) := by rw [Int.tdiv_eq_ediv_of_nonneg (by omega)]; omega
      rw [this, w64, wrap64] <;> omega
    simp only [decide_eq_false a1, decide_eq_false a2, bind, Option.bind_some, Bool.false_eq_true, if_false, e1, e2, e3]
    rw [mk_eq (by omega)]
    rfl
  · simp [has, List.getD, List.getElem?_replicate]
    split <;> simp
theorem at_spec {N n i : Nat} {m : List Int} (hi : i < 9223372036854775808) : F_marks_Marks_at N m (n : Int) (i : Int) = some (((i / 64 : Nat) : Int), ((2 ^ (i % 64) : Nat) : Int), decide (i < n)) := by
  unfold F_marks_Marks_at
  have e0 : IntKind.wrap .u64 (i : Int) = i := by rw [wrapU64] <;> omega
  have e1 : (i : Int).tmod 64 = ((i % 64 : Nat) : Int) := by rw [Int.tmod_eq_emod_of_nonneg (by omega)]; omega
  have e2 : w64 ((i : Int).tdiv 64) = ((i / 64 : Nat) : Int) := by
    have : (i : Int).tdiv 64 = ((i / 64 : Nat) : Int) := by rw [Int.tdiv_eq_ediv_of_nonneg (by omega)]; omega
    rw [this, w64, wrap64] <;> omega
  have e3 : nn ((i % 64 : Nat) : Int) = some () := by simp [nn]; omega
  have e4 : (i : Int) ≥ 0 := by omega
  rw [e0, e1, e2, shl_one (by omega), e3]
  simp [e4, F_marks_Marks_Size]
theorem put_spec {N n i : Nat} {m : List Int} (hm : MkR n m) (hi : i < n) (hn : n ≤ 65536) :
    ∃ m', F_marks_Marks_Put N m (n : Int) (i : Int) = some (m', !has m i) ∧ MkR n m' ∧ (∀ j, has m' j = (has m j || j == i)) ∧ m' = if has m i then m else m.set (i / 64) (((m.getD (i / 64) 0).toNat ||| 2 ^ (i % 64) : Nat) : Int) := by
  have hl : i / 64 < m.length := by rw [hm.len]; omega
  have hw := hm.rng _ (List.getElem_mem hl)
  have hp : (2 : Nat) ^ (i % 64) < 18446744073709551616 := by
    have h1 : (2 : Nat) ^ (i % 64) ≤ 2 ^ 63 := Nat.pow_le_pow_right (by omega) (by omega)
    have h2 : (2 : Nat) ^ 63 = 9223372036854775808 := by decide
    omega
  obtain ⟨a, ha⟩ : ∃ a : Nat, m[i / 64] = (a : Int) := ⟨m[i / 64].toNat, by omega⟩
  have hx : m[i / 64]? = some (a : Int) := by rw [List.getElem?_eq_getElem hl, ha]
  have ha' : a < 18446744073709551616 := by omega
  have hh : has m i = a.testBit (i % 64) := by simp [has, List.getD, hx]
  unfold F_marks_Marks_Put
  rw [at_spec (by omega)]
  simp only [bind, Option.bind_some, decide_eq_true hi, Bool.not_true, Bool.false_eq_true, if_false, idx_of hx, iand_u64 ha' hp, ior_u64 ha' hp]
  have hand : (a &&& 2 ^ (i % 64) = 0) ↔ a.testBit (i % 64) = false := by
    constructor
    · intro h
      have := congrArg (·.testBit (i % 64)) h
      simpa [Nat.testBit_and, Nat.testBit_two_pow_self] using this
    · intro h
      apply Nat.eq_of_testBit_eq
      intro j
      rw [Nat.testBit_and, Nat.testBit_two_pow]
      by_cases hj : i % 64 = j
      · subst hj; simp [h]
      · simp [hj]
  by_cases hb : a.testBit (i % 64) = true
  · have h1 : ¬ (a &&& 2 ^ (i % 64) = 0) := fun h => by rw [hand.1 h] at hb; cases hb
    have h2 : (((a &&& 2 ^ (i % 64) : Nat) : Int) != 0) = true := by simp; omega
    refine ⟨m, by rw [h2, hh, hb]; rfl, hm, fun j => ?_, by rw [hh, hb]; rfl⟩
    by_cases hj : j = i
    · subst hj; simp [hh, hb]
    · simp [hj]
  · have hb : a.testBit (i % 64) = false := by simpa using hb
    have h2 : (((a &&& 2 ^ (i % 64) : Nat) : Int) != 0) = false := by rw [hand.2 hb]; rfl
    refine ⟨m.set (i / 64) ((a ||| 2 ^ (i % 64) : Nat) : Int), by rw [h2, hh, hb]; simp only [Bool.false_eq_true, if_false]; rw [setI_nat hl]; rfl, ⟨by simp [hm.len], fun w hw' => ?_⟩, fun j => ?_, ?_⟩
    rotate_right
    · rw [hh, hb, List.getD, hx]; rfl
    · rcases List.mem_or_eq_of_mem_set hw' with h | rfl
      · exact hm.rng w h
      · have := Nat.or_lt_two_pow (n := 64) ha' hp
        omega
    · by_cases hq : j / 64 = i / 64
      · have e1 : has m j = a.testBit (j % 64) := by simp [has, hq, List.getD, hx]
        have e2 : has (m.set (i / 64) ((a ||| 2 ^ (i % 64) : Nat) : Int)) j = (a ||| 2 ^ (i % 64)).testBit (j % 64) := by
          simp [has, hq, List.getD, List.getElem?_set_self hl]
        rw [e1, e2, Nat.testBit_or, Nat.testBit_two_pow]
        congr 1
        by_cases hj : j = i
        · simp [hj]
        · have : ¬ (i % 64 = j % 64) := by omega
          simp [hj, this]
      · have hj : ¬ j = i := fun h => hq (by rw [h])
        have hq' : ¬ (i / 64 = j / 64) := fun h => hq h.symm
        simp [has, List.getD, hq', hj]
end Go.Proofs.YtealkahefalaeaaGreatDoor
namespace Go.Proofs.YtealkahefalaeaaGreatDoor
open Go Go.Eng
theorem shr_u64 {a : Nat} {k : Nat} (hk : k < 64) : shrI .u64 (a : Int) (k : Int) = ((a / 2 ^ k : Nat) : Int) := by
  simp only [shrI, IntKind.bits, Int.toNat_natCast, Nat.min_eq_left (show k ≤ 64 by omega)]
  rw [Int.fdiv_eq_ediv_of_nonneg _ (Int.le_of_lt (Int.pow_pos (by decide)))]
  push_cast
  rfl
theorem wrapN {a : Nat} (h : a < 18446744073709551616) : IntKind.wrap .u64 (a : Int) = (a : Int) := by rw [wrapU64] <;> omega
theorem low_bit : ∀ {x : Nat}, x ≠ 0 → ∃ k, x.testBit k = true ∧ ∀ j, j < k → x.testBit j = false := by
  intro x hx
  obtain ⟨i, hi⟩ := Nat.exists_testBit_of_ne_zero hx
  induction i using Nat.strongRecOn with
  | ind i ih =>
    by_cases h : ∃ j, j < i ∧ x.testBit j = true
    · obtain ⟨j, hj, hb⟩ := h
      exact ih j hj hb
    · refine ⟨i, hi, fun j hj => ?_⟩
      cases hb : x.testBit j with
      | false => rfl
      | true => exact absurd ⟨j, hj, hb⟩ h
theorem low_shape {x k : Nat} (h1 : x.testBit k = true) (h2 : ∀ j, j < k → x.testBit j = false) : ∃ q, x = 2 ^ k * (2 * q + 1) := by
  have hm : x % 2 ^ k = 0 := by
    apply Nat.eq_of_testBit_eq
    intro j
    rw [Nat.testBit_mod_two_pow, Nat.zero_testBit]
    by_cases hj : j < k
    · simp [h2 j hj]
    · simp [hj]
  have ho : x / 2 ^ k % 2 = 1 := by
    rw [Nat.testBit_eq_decide_div_mod_eq] at h1
    simpa using h1
  refine ⟨x / 2 ^ k / 2, ?_⟩
  have e1 : 2 * (x / 2 ^ k / 2) + 1 = x / 2 ^ k := by omega
  rw [e1]
  have := Nat.div_add_mod x (2 ^ k)
  omega
theorem and_neg {x k : Nat} (hx : x < 18446744073709551616) (h1 : x.testBit k = true) (h2 : ∀ j, j < k → x.testBit j = false) : x &&& (18446744073709551616 - x) = 2 ^ k := by
  obtain ⟨q, hq⟩ := low_shape h1 h2
  have hp : 0 < 2 ^ k := Nat.pow_pos (by omega)
  have hpos : 0 < x := by rw [hq]; exact Nat.mul_pos hp (by omega)
  have hk : k < 64 := by
    apply Nat.lt_of_not_le
    intro h
    have := Nat.testBit_lt_two_pow (x := x) (i := k) (Nat.lt_of_lt_of_le hx (by
      have := Nat.pow_le_pow_right (n := 2) (by omega) h
      have e : (2 : Nat) ^ 64 = 18446744073709551616 := by decide
      omega))
    rw [this] at h1; cases h1
  have hy : x - 1 = 2 ^ k * (2 * q) + (2 ^ k - 1) := by
    rw [hq, Nat.mul_add, Nat.mul_one]; omega
  have hx' : x = 2 ^ k * (2 * q + 1) + 0 := by rw [hq]; rfl
  have e64 : (18446744073709551616 : Nat) - x = 2 ^ 64 - ((x - 1) + 1) := by
    have e : (2 : Nat) ^ 64 = 18446744073709551616 := by decide
    omega
  rw [e64]
  apply Nat.eq_of_testBit_eq
  intro i
  rw [Nat.testBit_and, Nat.testBit_two_pow_sub_succ (by have e : (2 : Nat) ^ 64 = 18446744073709551616 := by decide
                                                        omega), Nat.testBit_two_pow]
  by_cases hi : i < k
  · rw [h2 i hi]
    have : ¬ k = i := by omega
    simp [this]
  · have ey : (x - 1).testBit i = (2 * q).testBit (i - k) := by
      rw [hy, Nat.testBit_two_pow_mul_add _ (by omega), if_neg hi]
    have ex : x.testBit i = (2 * q + 1).testBit (i - k) := by
      rw [hx', Nat.testBit_two_pow_mul_add _ hp, if_neg hi]
    rw [ex, ey]
    by_cases hik : i = k
    · subst hik
      have : i < 64 := hk
      simp [this, Nat.testBit_zero]
    · obtain ⟨j, hj⟩ : ∃ j, i - k = j + 1 := ⟨i - k - 1, by omega⟩
      have hne : ¬ k = i := by omega
      rw [hj, Nat.testBit_succ, Nat.testBit_succ]
      have e1 : (2 * q + 1) / 2 = q := by omega
      have e2 : 2 * q / 2 = q := by omega
      rw [e1, e2]
      have h64 : q.testBit j = true → i < 64 := fun h => by
        apply Nat.lt_of_not_le
        intro hge
        have e : (2 : Nat) ^ 64 = 18446744073709551616 := by decide
        have hxi := Nat.testBit_lt_two_pow (x := x) (i := i) (Nat.lt_of_lt_of_le hx (by
          have := Nat.pow_le_pow_right (n := 2) (by omega) hge
          omega))
        rw [ex, hj, Nat.testBit_succ, e1, h] at hxi
        cases hxi
      cases hq : q.testBit j with
      | false => simp [hne]
      | true => simp [hne, h64 hq]
theorem tab_all : ∀ k : Fin 64, tab_math_bits_deBruijn64tab[(2 ^ k.val * 285870213051353865 % 18446744073709551616) / 288230376151711744]? = some (k.val : Int) := by decide +kernel
theorem tz_spec {N x k : Nat} (hx : x < 18446744073709551616) (h1 : x.testBit k = true) (h2 : ∀ j, j < k → x.testBit j = false) (hk : k < 64) : F_math_bits_TrailingZeros64 N (x : Int) = some (k : Int) := by
  have h0 : x ≠ 0 := fun h => by rw [h] at h1; simp at h1
  have hn : (((x : Int)) == 0) = false := by simp; exact h0
  have e1 : IntKind.wrap .u64 (0 - (x : Int)) = ((18446744073709551616 - x : Nat) : Int) := by
    simp only [IntKind.wrap, IntKind.signed, IntKind.bits]
    simp
    omega
  have hp : (2 : Nat) ^ k ≤ 2 ^ 63 := Nat.pow_le_pow_right (by omega) (by omega)
  have e2 : IntKind.wrap .u64 (((2 ^ k : Nat) : Int) * 285870213051353865) = ((2 ^ k * 285870213051353865 % 18446744073709551616 : Nat) : Int) := by
    simp only [IntKind.wrap, IntKind.signed, IntKind.bits]
    simp
  unfold F_math_bits_TrailingZeros64
  rw [hn]
  simp only [Bool.false_eq_true, if_false, e1]
  rw [iand_u64 hx (by omega), and_neg hx h1 h2, e2]
  have e3 := shr_u64 (a := 2 ^ k * 285870213051353865 % 18446744073709551616) (k := 58) (by omega)
  rw [show ((58 : Nat) : Int) = 58 from rfl] at e3
  simp only [Nat.reducePow] at e3
  rw [e3]
  have e4 := tab_all ⟨k, hk⟩
  simp only at e4
  simp only [idx_of e4, bind, Option.bind_some]
  rw [wrap64 (by omega) (by omega)]
theorem has_big {j : Nat} {m : List Int} (h : m.length ≤ j / 64) : has m j = false := by
  unfold has
  rw [List.getD, List.getElem?_eq_none h]; simp
theorem after_spec {N n : Nat} {i : Int} {m : List Int} (hN : 4294967296 ≤ N) (hm : MkR n m) (hn : n ≤ 65536) (h1 : -1 ≤ i) (h2 : i < n) :
    ∃ r, F_marks_Marks_After N m (n : Int) i = some r ∧ ((r = -1 ∧ ∀ j : Nat, i < (j : Int) → has m j = false) ∨ ∃ j : Nat, r = (j : Int) ∧ i < (j : Int) ∧ has m j = true ∧ ∀ j' : Nat, i < (j' : Int) → j' < j → has m j' = false) := by
  obtain ⟨p, hp⟩ : ∃ p : Nat, i + 1 = (p : Int) := ⟨(i + 1).toNat, by omega⟩
  have e1 : w64 (imax i (-1) + 1) = (p : Int) := by
    have : imax i (-1) = i := by
      unfold imax
      by_cases h : -1 > i
      · omega
      · rw [if_neg h]
    rw [this, hp, w64, wrap64] <;> omega
  have e2 : w64 ((p : Int).tdiv 64) = ((p / 64 : Nat) : Int) := by
    have : (p : Int).tdiv 64 = ((p / 64 : Nat) : Int) := by rw [Int.tdiv_eq_ediv_of_nonneg (by omega)]; omega
    rw [this, w64, wrap64] <;> omega
  have e3 : w64 ((p : Int).tmod 64) = ((p % 64 : Nat) : Int) ∧ (p : Int).tmod 64 = ((p % 64 : Nat) : Int) := by
    have : (p : Int).tmod 64 = ((p % 64 : Nat) : Int) := by rw [Int.tmod_eq_emod_of_nonneg (by omega)]; omega
    refine ⟨?_, this⟩
    rw [this, w64, wrap64] <;> omega
  have hml : m.length ≤ 1024 := by rw [hm.len]; omega
  unfold F_marks_Marks_After
  have hlt : ¬ i ≥ (n : Int) := by omega
  simp only [F_marks_Marks_Size, bind, Option.bind_some, decide_eq_false hlt, Bool.false_eq_true, if_false, e1, e2]
  obtain ⟨r, hr, hq⟩ := iterO_while (f := fun s => F_marks_Marks_After_l0 N m (n : Int) i s) (fun s => ∃ k : Nat, s = (k : Int) ∧ p / 64 ≤ k ∧ k ≤ m.length + p / 64 ∧ ∀ j' : Nat, p ≤ j' → j' < 64 * k → has m j' = false)
    (fun s => m.length + p / 64 - s.toNat) (fun (r : Unit ⊕ Int) => match r with
      | .inl _ => ∀ j : Nat, i < (j : Int) → has m j = false
      | .inr z => ∃ j : Nat, z = (j : Int) ∧ i < (j : Int) ∧ has m j = true ∧ ∀ j' : Nat, i < (j' : Int) → j' < j → has m j' = false) (fun s hI => by
      obtain ⟨k, rfl, hk1, hk2, hk3⟩ := hI
      unfold F_marks_Marks_After_l0
      simp only [F_marks_Marks_own, bind, Option.bind_some, e1, e2]
      by_cases hkl : k < m.length
      · have hw := hm.rng _ (List.getElem_mem hkl)
        obtain ⟨a, ha⟩ : ∃ a : Nat, m[k] = (a : Int) := ⟨m[k].toNat, by omega⟩
        have hx : m[k]? = some (a : Int) := by rw [List.getElem?_eq_getElem hkl, ha]
        have ha' : a < 18446744073709551616 := by omega
        have hhas : ∀ c, c < 64 → has m (64 * k + c) = a.testBit c := fun c hc => by
          have q1 : (64 * k + c) / 64 = k := by omega
          have q2 : (64 * k + c) % 64 = c := by omega
          simp [has, q1, q2, List.getD, hx]
        -- the word, its lower bits struck in the first one
        obtain ⟨b, hb, hb2, hbt⟩ : ∃ b : Nat, (if ((k : Int) == ((p / 64 : Nat) : Int)) = true then (nn ((p : Int).tmod 64) >>= fun _ => nn ((p : Int).tmod 64) >>= fun _ => some (shlI .u64 (shrI .u64 (a : Int) ((p : Int).tmod 64)) ((p : Int).tmod 64))) else some (a : Int)) = some (b : Int) ∧ b < 18446744073709551616 ∧
            ∀ c, c < 64 → b.testBit c = (decide (p ≤ 64 * k + c) && a.testBit c) := by
          by_cases hk0 : k = p / 64
          · have q : ((k : Int) == ((p / 64 : Nat) : Int)) = true := by simp [hk0]
            have hnn : nn ((p % 64 : Nat) : Int) = some () := by unfold nn; rw [if_pos (by omega)]
            have hle : a / 2 ^ (p % 64) * 2 ^ (p % 64) ≤ a := Nat.div_mul_le_self _ _
            refine ⟨a / 2 ^ (p % 64) * 2 ^ (p % 64), ?_, by omega, fun c hc => ?_⟩
            · rw [if_pos q, e3.2, hnn, shr_u64 (by omega)]
              simp only [bind, Option.bind_some, shlI, IntKind.bits, Int.toNat_natCast, Nat.min_eq_left (show p % 64 ≤ 64 by omega)]
              have e4 : (((a / 2 ^ (p % 64) : Nat) : Int) * 2 ^ (p % 64)) = ((a / 2 ^ (p % 64) * 2 ^ (p % 64) : Nat) : Int) := by push_cast; rfl
              rw [e4, wrapN (by omega)]
            · rw [Nat.testBit_mul_two_pow, Nat.testBit_div_two_pow]
              by_cases hc2 : p % 64 ≤ c
              · have q3 : p % 64 + (c - p % 64) = c := by omega
                have q4 : p ≤ 64 * k + c := by omega
                rw [show c - p % 64 + p % 64 = c by omega]
                simp [hc2, q4]
              · have q4 : ¬ p ≤ 64 * k + c := by omega
                simp [hc2, q4]
          · have q : ((k : Int) == ((p / 64 : Nat) : Int)) = false := by simp; omega
            refine ⟨a, by rw [q]; rfl, ha', fun c hc => ?_⟩
            have q4 : p ≤ 64 * k + c := by omega
            simp [q4]
        simp only [show ((k : Int) < (m.length : Int)) by omega, decide_true, if_true, idx_of hx, Option.bind_some]
        simp only [bind] at hb
        rw [hb]
        simp only [Option.bind_some]
        by_cases hb0 : b = 0
        · left
          subst hb0
          refine ⟨((k + 1 : Nat) : Int), ?_, ⟨k + 1, rfl, by omega, by omega, fun j' h3 h4 => ?_⟩, by simp; omega⟩
          · simp only [show ((((0 : Nat) : Int)) != 0) = false from rfl, Bool.false_eq_true, if_false, Option.bind_some]
            rw [w64_succ (by omega)]
          · by_cases hj : j' < 64 * k
            · exact hk3 j' h3 hj
            · obtain ⟨c, rfl⟩ : ∃ c, j' = 64 * k + c := ⟨j' - 64 * k, by omega⟩
              have := hbt c (by omega)
              rw [Nat.zero_testBit] at this
              rw [hhas c (by omega)]
              have q4 : decide (p ≤ 64 * k + c) = true := by simp; omega
              rw [q4] at this
              simpa using this.symm
        · right
          obtain ⟨c, hc1, hc2⟩ := low_bit hb0
          have hc : c < 64 := by
            apply Nat.lt_of_not_le
            intro h
            have := Nat.testBit_lt_two_pow (x := b) (i := c) (Nat.lt_of_lt_of_le hb2 (by
              have := Nat.pow_le_pow_right (n := 2) (by omega) h
              have e : (2 : Nat) ^ 64 = 18446744073709551616 := by decide
              omega))
            rw [this] at hc1; cases hc1
          have hbc := hbt c hc
          rw [hc1] at hbc
          have hbc' := (Bool.and_eq_true _ _).mp hbc.symm
          have hpc : p ≤ 64 * k + c := by simpa using hbc'.1
          refine ⟨.inr (((64 * k + c : Nat)) : Int), ?_, 64 * k + c, rfl, by omega, by rw [hhas c hc]; exact hbc'.2, fun j' h3 h4 => ?_⟩
          · have q5 : (((b : Nat) : Int) != 0) = true := by simp; omega
            have e5 : w64 (64 * (k : Int)) = ((64 * k : Nat) : Int) := by rw [w64, wrap64] <;> omega
            have e6 : w64 (((64 * k : Nat) : Int) + (c : Int)) = ((64 * k + c : Nat) : Int) := by rw [w64, wrap64] <;> omega
            simp only [q5, if_true, tz_spec (N := N) hb2 hc1 hc2 hc, Option.bind_some, e5, e6]
          · by_cases hj : j' < 64 * k
            · exact hk3 j' (by omega) hj
            · obtain ⟨c', rfl⟩ : ∃ c', j' = 64 * k + c' := ⟨j' - 64 * k, by omega⟩
              have := hbt c' (by omega)
              rw [hc2 c' (by omega)] at this
              rw [hhas c' (by omega)]
              have q4 : decide (p ≤ 64 * k + c') = true := by simp; omega
              rw [q4] at this
              simpa using this.symm
      · right
        refine ⟨.inl (), by simp [show ¬ ((k : Int) < (m.length : Int)) by omega], fun j hj => ?_⟩
        by_cases hj2 : j < 64 * k
        · exact hk3 j (by omega) hj2
        · exact has_big (by omega))
    (N := N) (s := ((p / 64 : Nat) : Int)) ⟨p / 64, rfl, by omega, by omega, fun j' h3 h4 => by omega⟩ (by simp; omega)
  rw [hr]
  cases r with
  | inl u => exact ⟨-1, rfl, .inl ⟨rfl, hq⟩⟩
  | inr z => exact ⟨z, rfl, .inr hq⟩
/-- the marked numbers below n -/
def lst (f : Nat → Bool) (n : Nat) : List Int := ((List.range n).filter f).map fun (j : Nat) => (j : Int)
theorem lst_succ (f : Nat → Bool) (n : Nat) : lst f (n + 1) = if f n then lst f n ++ [(n : Int)] else lst f n := by
  unfold lst
  rw [List.range_succ, List.filter_append, List.map_append]
  cases hf : f n <;> simp [hf]
theorem lst_gap {f : Nat → Bool} {a : Nat} (ha : f a = true) : ∀ {b : Nat}, a < b → (∀ c, a < c → c < b → f c = false) → lst f b = lst f a ++ [(a : Int)]
  | 0, h, _ => by omega
  | b + 1, h, hg => by
    rw [lst_succ]
    by_cases hb : b = a
    · subst hb; simp [ha]
    · rw [hg b (by omega) (by omega)]
      simp only [Bool.false_eq_true, if_false]
      exact lst_gap ha (by omega) fun c h1 h2 => hg c h1 (by omega)
end Go.Proofs.YtealkahefalaeaaGreatDoor
namespace Go.Proofs.YtealkahefalaeaaGreatDoor
open Go Go.Eng
/-- a state: free steps, set, where to, rule -/
abbrev Stt := List Int × (Int × Int × Int × Int) × Int × Int
structure NRt (S : List Stt) (E : List Int) : Prop where
  n1 : 1 ≤ S.length
  n2 : S.length ≤ 4000
  e1 : 1 ≤ E.length
  e2 : E.length ≤ 8
  ent : ∀ x ∈ E, 0 ≤ x ∧ x < (S.length : Int)
  to : ∀ s ∈ S, -1 ≤ s.2.2.1 ∧ s.2.2.1 < (S.length : Int)
  set0 : ∀ s ∈ S, s.2.2.1 = -1 → s.2.1 = (0, 0, 0, 0)
  rul : ∀ s ∈ S, -1 ≤ s.2.2.2 ∧ s.2.2.2 ≤ 47
  free : ∀ s ∈ S, ∀ x ∈ s.1, 0 ≤ x ∧ x < (S.length : Int)
def outN (n x : Int) : Bool := decide (x < 0) || decide (x ≥ n)
def badS (n : Int) (s : Stt) : Bool :=
  (decide (s.2.2.1 < -1) || decide (s.2.2.1 ≥ n) || decide (s.2.2.2 < -1) || decide (s.2.2.2 > 47) || (s.2.2.1 == -1 && ([s.2.1.1, s.2.1.2.1, s.2.1.2.2.1, s.2.1.2.2.2] : List Int) != [0, 0, 0, 0])) || s.1.any (outN n)
def rtB (S : List Stt) (E : List Int) : Bool :=
  decide (1 ≤ S.length) && decide (S.length ≤ 4000) && decide (1 ≤ E.length) && decide (E.length ≤ 8) && !(E.any (outN S.length)) && !(S.any (badS S.length))
theorem outN_f {n x : Int} (h : outN n x = false) : 0 ≤ x ∧ x < n := by
  unfold outN at h
  simp at h; omega
theorem outN_of {n x : Int} (h : 0 ≤ x ∧ x < n) : outN n x = false := by
  unfold outN
  simp; omega
theorem rtB_iff (S : List Stt) (E : List Int) : rtB S E = true ↔ NRt S E := by
  unfold rtB
  simp only [Bool.and_eq_true, decide_eq_true_eq, Bool.not_eq_true', List.any_eq_false]
  constructor
  · rintro ⟨⟨⟨⟨⟨a1, a2⟩, a3⟩, a4⟩, a5⟩, a6⟩
    have h6 : ∀ s ∈ S, (-1 ≤ s.2.2.1 ∧ s.2.2.1 < (S.length : Int)) ∧ (-1 ≤ s.2.2.2 ∧ s.2.2.2 ≤ 47) ∧ (s.2.2.1 = -1 → s.2.1 = (0, 0, 0, 0)) ∧ ∀ x ∈ s.1, 0 ≤ x ∧ x < (S.length : Int) := by
      intro s hs
      have := a6 s hs
      unfold badS at this
      rw [Bool.not_eq_true, Bool.or_eq_false_iff, List.any_eq_false] at this
      obtain ⟨b1, b2⟩ := this
      simp only [Bool.or_eq_false_iff, decide_eq_false_iff_not] at b1
      obtain ⟨⟨⟨⟨c1, c2⟩, c3⟩, c4⟩, c5⟩ := b1
      refine ⟨by omega, by omega, fun h => ?_, fun x hx => outN_f (by simpa using b2 x hx)⟩
      rw [h] at c5
      obtain ⟨_, ⟨a, b, c, d⟩, _, _⟩ := s
      simpa using c5
    exact ⟨a1, a2, a3, a4, fun x hx => outN_f (by simpa using a5 x hx), fun s hs => (h6 s hs).1, fun s hs => (h6 s hs).2.2.1, fun s hs => (h6 s hs).2.1, fun s hs => (h6 s hs).2.2.2⟩
  · intro h
    refine ⟨⟨⟨⟨⟨h.n1, h.n2⟩, h.e1⟩, h.e2⟩, fun x hx => by rw [outN_of (h.ent x hx)]; simp⟩, fun s hs => ?_⟩
    have h1 := h.to s hs
    have h2 := h.rul s hs
    have h3 := h.set0 s hs
    have h4 : s.1.any (outN S.length) = false := by
      rw [List.any_eq_false]
      intro x hx
      rw [outN_of (h.free s hs x hx)]; simp
    unfold badS
    rw [h4]
    obtain ⟨_, ⟨a, b, c, d⟩, to, ru⟩ := s
    simp only at h1 h2 h3 ⊢
    have g1 : ¬ to < -1 := by omega
    have g2 : ¬ to ≥ (S.length : Int) := by omega
    have g3 : ¬ ru < -1 := by omega
    have g4 : ¬ ru > 47 := by omega
    by_cases g5 : to = -1
    · have := h3 g5
      simp only [Prod.mk.injEq] at this
      obtain ⟨rfl, rfl, rfl, rfl⟩ := this
      simp [g3, g4, g5]; omega
    · simp [g1, g2, g3, g4, g5]
section
variable {N : Nat} {S : List Stt} {E : List Int}
theorem nright1 (x n : Int) : F_nfa_Right_1 N x n = some (outN n x) := by
  unfold F_nfa_Right_1 outN
  by_cases h : x < 0 <;> simp [h]
theorem ncontains {xs : List Int} {n : Int} (hN : 4294967296 ≤ N) (hl : xs.length < 4294967296) : F_slices_ContainsFunc_int_int_2 N xs n = some (xs.any (outN n)) := by
  unfold F_slices_ContainsFunc_int_int_2 F_slices_IndexFunc_int_int_2
  rw [loop_find xs (outN n) (fun i => (i : Int)) (by omega) (fun i x hx => by
    have hi := lt_len hx
    unfold F_slices_IndexFunc_int_int_2_l0
    simp only [show ((i : Int) < (xs.length : Int)) by omega, decide_true, if_true, idx_of hx, nright1, bind, Option.bind_some]
    rw [w64_succ (by omega)]) (by unfold F_slices_IndexFunc_int_int_2_l0; simp)]
  cases h : xs.findIdx? (outN n) with
  | none =>
    have : xs.any (outN n) = false := List.any_eq_false.2 fun x hx => by rw [List.findIdx?_eq_none_iff.1 h x hx]; simp
    simp [this]
  | some k =>
    obtain ⟨hk, hp, _⟩ := List.findIdx?_eq_some_iff_getElem.1 h
    have : xs.any (outN n) = true := List.any_eq_true.2 ⟨_, List.getElem_mem hk, hp⟩
    rw [this]
    simp
/-- lists of a length that memory bears -/
structure NSz (S : List Stt) (E : List Int) : Prop where
  a : S.length < 4294967296
  b : E.length < 4294967296
  c : ∀ s ∈ S, s.1.length < 4294967296
theorem nfaRight_spec (hN : 4294967296 ≤ N) (hs : NSz S E) : F_nfa_Right N S E = some (rtB S E) := by
  unfold F_nfa_Right
  rw [loop_any S (badS S.length) false (by have := hs.a; omega) (fun i s hx => by
    have hi := lt_len hx
    have hc := hs.c s (List.mem_of_getElem? hx)
    have ha := hs.a
    obtain ⟨fr, ⟨a, b, c, d⟩, to, ru⟩ := s
    unfold F_nfa_Right_l0 badS
    simp only [show ((i : Int) < (S.length : Int)) by omega, decide_true, if_true, idx_of hx, nright1, F_sets_Set_Empty, ncontains hN hc, bind, Option.bind_some]
    rw [w64_succ (by omega)]
    generalize fr.any (outN S.length) = q
    by_cases g5 : to = -1
    · subst g5
      have e1 : outN (S.length : Int) (-1) = true := by unfold outN; simp
      have g2 : ¬ ((-1 : Int) ≥ (S.length : Int)) := by omega
      by_cases g6 : ([a, b, c, d] : List Int) = [0, 0, 0, 0]
      · have e6 : (([a, b, c, d] : List Int) == [0, 0, 0, 0]) = true := by rw [g6]; rfl
        have e7 : (([a, b, c, d] : List Int) != [0, 0, 0, 0]) = false := by rw [g6]; rfl
        cases q <;> by_cases g3 : ru < -1 <;> by_cases g4 : ru ≥ 48 <;> simp [e6, e7, g3, g4, g2, show (ru > 47) = (ru ≥ 48) from by simp; omega]
      · have e6 : (([a, b, c, d] : List Int) == [0, 0, 0, 0]) = false := by simpa using g6
        have e7 : (([a, b, c, d] : List Int) != [0, 0, 0, 0]) = true := by simpa using g6
        simp [e6, e7, e1]
    · have e5 : (to == -1) = false := by simpa using g5
      by_cases g7 : 0 ≤ to ∧ to < (S.length : Int)
      · have e1 := outN_of g7
        have g1 : ¬ to < -1 := by omega
        have g2 : ¬ to ≥ (S.length : Int) := by omega
        cases q <;> by_cases g3 : ru < -1 <;> by_cases g4 : ru ≥ 48 <;> simp [e5, e1, g1, g2, g3, g4, show (ru > 47) = (ru ≥ 48) from by simp; omega]
      · have e1 : outN (S.length : Int) to = true := by
          cases h : outN (S.length : Int) to with
          | true => rfl
          | false => exact absurd (outN_f h) g7
        have g1 : to < -1 ∨ to ≥ (S.length : Int) := by omega
        rcases g1 with g1 | g1 <;> simp [e5, e1, g1]) (by unfold F_nfa_Right_l0; simp)]
  unfold rtB
  cases hS : S.any (badS S.length) with
  | true => simp
  | false =>
    simp only [Bool.false_eq_true, if_false, bind, Option.bind_some, ncontains hN hs.b]
    by_cases a1 : 1 ≤ E.length
    · by_cases a2 : E.length ≤ 8
      · by_cases a3 : 1 ≤ S.length
        · by_cases a4 : S.length ≤ 4000
          · have b1 : (E.length : Int) ≥ 1 := by omega
            have b2 : (E.length : Int) ≤ 8 := by omega
            have b3 : (S.length : Int) ≥ 1 := by omega
            have b4 : (S.length : Int) ≤ 4000 := by omega
            simp [a1, a2, a3, a4, b1, b2, b3, b4]
          · have b1 : (E.length : Int) ≥ 1 := by omega
            have b2 : (E.length : Int) ≤ 8 := by omega
            have b3 : (S.length : Int) ≥ 1 := by omega
            have b4 : ¬ (S.length : Int) ≤ 4000 := by omega
            simp [a4, b1, b2, b3, b4]
        · have b1 : (E.length : Int) ≥ 1 := by omega
          have b2 : (E.length : Int) ≤ 8 := by omega
          have b3 : ¬ (S.length : Int) ≥ 1 := by omega
          simp [a3, b1, b2, b3]
      · have b1 : (E.length : Int) ≥ 1 := by omega
        have b2 : ¬ (E.length : Int) ≤ 8 := by omega
        simp [a2, b1, b2]
    · have b1 : ¬ (E.length : Int) ≥ 1 := by omega
      simp [a1, b1]
theorem nrefRight_spec (hN : 4294967296 ≤ N) (hs : NSz S E) : F_dofferref15_Right N S E = some (rtB S E) := by
  unfold F_dofferref15_Right rtB
  by_cases a1 : 1 ≤ S.length
  case neg =>
    have b1 : (S.length : Int) < 1 := by omega
    simp [a1, b1]
  have b1 : ¬ (S.length : Int) < 1 := by omega
  by_cases a2 : S.length ≤ 4000
  case neg =>
    have b2 : (S.length : Int) > 4000 := by omega
    simp [a2, b1, b2]
  have b2 : ¬ (S.length : Int) > 4000 := by omega
  by_cases a3 : 1 ≤ E.length
  case neg =>
    have b3 : (E.length : Int) < 1 := by omega
    simp [a3, b1, b2, b3]
  have b3 : ¬ (E.length : Int) < 1 := by omega
  by_cases a4 : E.length ≤ 8
  case neg =>
    have b4 : (E.length : Int) > 8 := by omega
    simp [a4, b1, b2, b3, b4]
  have b4 : ¬ (E.length : Int) > 8 := by omega
  simp only [b1, b2, b3, b4, decide_false, Bool.false_eq_true, if_false, bind, Option.bind_some, a1, a2, a3, a4, decide_true, Bool.true_and]
  rw [loop_any E (outN S.length) false (by omega) (fun i x hx => by
    have hi := lt_len hx
    unfold F_dofferref15_Right_l0
    simp only [show ((i : Int) < (E.length : Int)) by omega, decide_true, if_true, idx_of hx, bind, Option.bind_some]
    rw [w64_succ (by omega)]
    unfold outN
    by_cases c1 : x < 0 <;> simp [c1]) (by unfold F_dofferref15_Right_l0; simp)]
  cases hE : E.any (outN S.length) with
  | true => simp
  | false =>
    simp only [Bool.false_eq_true, if_false, Option.bind_some]
    rw [loop_any S (badS S.length) false (by omega) (fun i s hx => by
      have hi := lt_len hx
      have hc := hs.c s (List.mem_of_getElem? hx)
      unfold F_dofferref15_Right_l1
      simp only [show ((i : Int) < (S.length : Int)) by omega, decide_true, if_true, idx_of hx, bind, Option.bind_some]
      rw [loop_any s.1 (outN S.length) (τ := Int ⊕ (Unit ⊕ Bool)) (.inr (.inr false)) (by omega) (fun j y hy => by
        have hj := lt_len hy
        unfold F_dofferref15_Right_l2
        simp only [show ((j : Int) < (s.1.length : Int)) by omega, decide_true, if_true, idx_of hy, bind, Option.bind_some]
        rw [w64_succ (by omega)]
        unfold outN
        by_cases c1 : y < 0 <;> simp [c1]) (by unfold F_dofferref15_Right_l2; simp)]
      rw [w64_succ (by omega)]
      unfold badS
      by_cases c1 : s.2.2.1 < -1
      · simp [c1]
      by_cases c2 : s.2.2.1 ≥ (S.length : Int)
      · simp [c1, c2]
      by_cases c3 : s.2.2.2 < -1
      · simp [c1, c2, c3]
      by_cases c4 : s.2.2.2 > 47
      · simp [c1, c2, c3, c4]
      by_cases c5 : s.2.2.1 = -1
      · cases c6 : ([s.2.1.1, s.2.1.2.1, s.2.1.2.2.1, s.2.1.2.2.2] : List Int) != [0, 0, 0, 0] with
        | true => simp [c3, c4, c5, show ¬ ((S.length : Int) ≤ -1) by omega]
        | false => cases c7 : s.1.any (outN S.length) <;> simp [c3, c4, c5, c7, show ¬ ((S.length : Int) ≤ -1) by omega]
      · cases c7 : s.1.any (outN S.length) <;> simp [c1, c2, c3, c4, c5, c7]) (by unfold F_dofferref15_Right_l1; simp)]
    cases hS : S.any (badS S.length) <;> simp
end
end Go.Proofs.YtealkahefalaeaaGreatDoor
namespace Go.Proofs.YtealkahefalaeaaGreatDoor
open Go Go.Eng
section
variable {N : Nat} {S : List Stt} {E : List Int}
theorem of15_spec {m : Int} (hN : 4294967296 ≤ N) (hm : m < 4294967296) : ∃ p, F_dofferlaw15_Of N S E m = some p ∧ (p.2 = true → p.1 = S ∧ (S.length : Int) ≤ m ∧ (E.length : Int) ≤ 20 ∧ ∀ s ∈ S, s.1.length ≤ 100) := by
  unfold F_dofferlaw15_Of
  by_cases a1 : (E.length : Int) > 20
  · exact ⟨([], false), by simp [a1], by simp⟩
  by_cases a2 : (S.length : Int) > m
  · exact ⟨([], false), by simp [a1, a2], by simp⟩
  simp only [a1, a2, decide_false, Bool.false_eq_true, if_false, bind, Option.bind_some]
  obtain ⟨r, hr, hq⟩ := iterO_while (f := fun s : Int × List Stt => F_dofferlaw15_Of_l0 N S s.1 s.2) (fun s => ∃ i : Nat, i ≤ S.length ∧ s = ((i : Int), S.take i) ∧ ∀ t ∈ S.take i, t.1.length ≤ 100) (fun s => S.length - s.1.toNat)
    (fun r => match r with | .inl x => x = S ∧ ∀ t ∈ S, t.1.length ≤ 100 | .inr z => z.2 = false) (fun s hI => by
      obtain ⟨i, hi, rfl, hf⟩ := hI
      unfold F_dofferlaw15_Of_l0
      by_cases hil : i < S.length
      · have hx : S[i]? = some S[i] := List.getElem?_eq_getElem hil
        simp only [show ((i : Int) < (S.length : Int)) by omega, decide_true, if_true, idx_of hx, bind, Option.bind_some]
        by_cases b1 : (S[i].1.length : Int) > 100
        · right
          exact ⟨.inr (S.take i, false), by simp [b1], rfl⟩
        · left
          refine ⟨(((i + 1 : Nat) : Int), S.take (i + 1)), ?_, ⟨i + 1, by omega, rfl, fun t ht => ?_⟩, by simp; omega⟩
          · simp only [b1, decide_false, Bool.false_eq_true, if_false]
            rw [app_eq (by simp; omega), w64_succ (by omega), List.take_add_one, hx]
            rfl
          · rw [List.take_add_one, hx] at ht
            rcases List.mem_append.1 ht with ht | ht
            · exact hf t ht
            · simp at ht; subst ht; omega
      · right
        obtain rfl : i = S.length := by omega
        refine ⟨.inl S, by simp, rfl, fun t ht => hf t (by simpa using ht)⟩) (N := N) (s := (0, [])) ⟨0, by omega, by simp, by simp⟩ (by simp; omega)
  rw [hr]
  cases r with
  | inl x => exact ⟨(x, true), rfl, fun _ => ⟨hq.1, by omega, by omega, hq.2⟩⟩
  | inr z => exact ⟨z, rfl, fun h => by rw [hq] at h; cases h⟩
/-- how many are marked -/
def cn (f : Nat → Bool) : Nat → Nat
  | 0 => 0
  | n + 1 => cn f n + (if f n then 1 else 0)
theorem cn_le (f : Nat → Bool) : ∀ n, cn f n ≤ n
  | 0 => Nat.le_refl _
  | n + 1 => by have := cn_le f n; unfold cn; split <;> omega
theorem cn_congr {f g : Nat → Bool} : ∀ {n : Nat}, (∀ j, j < n → f j = g j) → cn f n = cn g n
  | 0, _ => rfl
  | n + 1, h => by unfold cn; rw [cn_congr fun j hj => h j (by omega), h n (by omega)]
theorem cn_put {f g : Nat → Bool} {i : Nat} (hi : f i = false) (hg : ∀ j, g j = (f j || j == i)) : ∀ {n : Nat}, i < n → cn g n = cn f n + 1
  | 0, h => by omega
  | n + 1, h => by
    unfold cn
    by_cases e : i = n
    · subst e
      rw [cn_congr (f := g) (g := f) (n := i) (fun j hj => by rw [hg]; have : ¬ j = i := by omega
                                                              simp [this]), hg, hi]
      simp
    · have e2 : ¬ n = i := fun q => e q.symm
      rw [cn_put hi hg (show i < n by omega), hg n]
      simp only [e2, beq_iff_eq, Bool.or_eq_true, or_false]
      omega
theorem mem_lst {f : Nat → Bool} {n : Nat} {x : Int} : x ∈ lst f n ↔ ∃ j : Nat, x = (j : Int) ∧ j < n ∧ f j = true := by
  unfold lst
  simp only [List.mem_map, List.mem_filter, List.mem_range]
  constructor
  · rintro ⟨j, ⟨h1, h2⟩, rfl⟩; exact ⟨j, rfl, h1, h2⟩
  · rintro ⟨j, rfl, h1, h2⟩; exact ⟨j, ⟨h1, h2⟩, rfl⟩
def frS (S : List Stt) (x : Int) : List Int := ((S[x.toNat]?).map (fun s => s.1)).getD []
inductive RchF (S : List Stt) (L : List Int) : Int → Prop
  | base {x : Int} : x ∈ L → RchF S L x
  | step {s y : Int} : RchF S L s → y ∈ frS S s → RchF S L y
theorem frS_rng (h : NRt S E) {x y : Int} (hy : y ∈ frS S x) : 0 ≤ y ∧ y < (S.length : Int) := by
  unfold frS at hy
  cases hx : S[x.toNat]? with
  | none => rw [hx] at hy; simp at hy
  | some s => rw [hx] at hy; exact h.free s (List.mem_of_getElem? hx) y (by simpa using hy)
theorem RchF.rng (h : NRt S E) {L : List Int} (hL : ∀ x ∈ L, 0 ≤ x ∧ x < (S.length : Int)) {x : Int} (hr : RchF S L x) : 0 ≤ x ∧ x < (S.length : Int) := by
  induction hr with
  | base hx => exact hL _ hx
  | step _ hy _ => exact frS_rng h hy
theorem RchF.mono {L L' : List Int} (hl : ∀ x ∈ L, RchF S L' x) {x : Int} (hr : RchF S L x) : RchF S L' x := by
  induction hr with
  | base hx => exact hl _ hx
  | step _ hy ih => exact .step ih hy
theorem last_idx {α : Type} {ws : List α} {x : α} (hl : ws.length < 4294967296) : idx (ws ++ [x]) (w64 (((ws ++ [x]).length : Int) - 1)) = some x ∧ slc (ws ++ [x]) 0 (w64 (((ws ++ [x]).length : Int) - 1)) = some ws := by
  have e : w64 (((ws ++ [x]).length : Int) - 1) = (ws.length : Int) := by
    rw [List.length_append, List.length_singleton, show (((ws.length + 1 : Nat) : Int) - 1) = (ws.length : Int) by omega, w64, wrap64 (by omega) (by omega)]
  rw [e]
  constructor
  · exact idx_of (by simp)
  · unfold slc
    rw [if_pos ⟨by omega, by omega, by simp; omega⟩]
    simp
theorem closed1_spec {L : List Int} (hN : 4294967296 ≤ N) (h : NRt S E) (hf : ∀ s ∈ S, s.1.length ≤ 100) (hL : ∀ x ∈ L, 0 ≤ x ∧ x < (S.length : Int)) (hl : L.length ≤ 1000000) :
    ∃ w m, F_walk_walker_closed_1 N S E L = some (w, m) ∧ MkR S.length m ∧ (∀ j, S.length ≤ j → has m j = false) ∧ ∀ j, j < S.length → (has m j = true ↔ RchF S L (j : Int)) := by
  have hn2 := h.n2
  obtain ⟨m0, e0, q0, q1⟩ := new_spec (N := N) (n := S.length) (by omega)
  unfold F_walk_walker_closed_1 F_walk_walker_none
  simp only [e0, bind, Option.bind_some]
  have hfr : ∀ x : Int, (frS S x).length ≤ 100 := fun x => by
    unfold frS
    cases hx : S[x.toNat]? with
    | none => simp
    | some s => simpa using hf s (List.mem_of_getElem? hx)
  obtain ⟨r, hr, hq1, hq2, hq3⟩ := iterO_while (f := fun s : List Int × List Int => F_walk_walker_closed_1_l0 N S s.1 s.2)
    (fun s => MkR S.length s.2 ∧ (∀ j, S.length ≤ j → has s.2 j = false) ∧ (∀ j, j < S.length → has s.2 j = true → RchF S L (j : Int)) ∧ (∀ x ∈ s.1, RchF S L x) ∧ (∀ x ∈ L, has s.2 x.toNat = true ∨ x ∈ s.1) ∧
      (∀ j, j < S.length → has s.2 j = true → ∀ y ∈ frS S (j : Int), has s.2 y.toNat = true ∨ y ∈ s.1) ∧ (S.length - cn (has s.2) S.length) * 101 + s.1.length ≤ S.length * 101 + L.length)
    (fun s => (S.length - cn (has s.2) S.length) * 101 + s.1.length) (fun r => MkR S.length r.2 ∧ (∀ j, S.length ≤ j → has r.2 j = false) ∧ ∀ j, j < S.length → (has r.2 j = true ↔ RchF S L (j : Int))) (fun s hI => by
      obtain ⟨work, m⟩ := s
      obtain ⟨k1, k2, k3, k4, k5, k6, k7⟩ := hI
      simp only at k1 k2 k3 k4 k5 k6 k7 ⊢
      rcases work.eq_nil_or_concat with rfl | ⟨ws, x, rfl⟩
      · right
        refine ⟨([], m), by unfold F_walk_walker_closed_1_l0; simp, k1, k2, fun j hj => ⟨k3 j hj, fun hr => ?_⟩⟩
        have key : ∀ x, RchF S L x → has m x.toNat = true := by
          intro x hx
          induction hx with
          | base hx => exact (k5 _ hx).elim id fun h => by simp at h
          | @step s y hs hy ih =>
            have hsr := hs.rng h hL
            obtain ⟨i, rfl⟩ : ∃ i : Nat, s = (i : Int) := ⟨s.toNat, by omega⟩
            exact (k6 i (by omega) (by simpa using ih) _ hy).elim id fun h => by simp at h
        simpa using key _ hr
      · left
        rw [List.concat_eq_append] at k4 k5 k6 k7 ⊢
        have hwl0 : ws.length ≤ 1404000 := by
          have : S.length * 101 ≤ 4000 * 101 := Nat.mul_le_mul_right _ hn2
          simp at k7; omega
        have hwl : ws.length < 4294967296 := by omega
        have hxr := (k4 x (by simp)).rng h hL
        obtain ⟨i, rfl⟩ : ∃ i : Nat, x = (i : Int) := ⟨x.toNat, by omega⟩
        have hin : i < S.length := by omega
        obtain ⟨m', e1, e2, e3, _⟩ := put_spec (N := N) k1 hin (by omega)
        obtain ⟨g1, g2⟩ := last_idx (x := (i : Int)) hwl
        have hpos : decide (((ws ++ [(i : Int)]).length : Int) > 0) = true := decide_eq_true (by simp)
        have hSi : S[i]? = some S[i] := List.getElem?_eq_getElem hin
        have hfi : frS S (i : Int) = S[i].1 := by unfold frS; rw [Int.toNat_natCast, hSi]; rfl
        by_cases hm : has m i = true
        · have hsame : ∀ j, has m' j = has m j := fun j => by
            rw [e3]
            by_cases hj : j = i
            · subst hj; simp [hm]
            · simp [hj]
          refine ⟨(ws, m'), ?_, ⟨e2, fun j hj => by rw [hsame]; exact k2 j hj, fun j hj hh => k3 j hj (by rwa [hsame] at hh), fun y hy => k4 y (by simp [hy]), fun y hy => ?_, fun j hj hh y hy => ?_, ?_⟩, ?_⟩
          · unfold F_walk_walker_closed_1_l0
            simp only [hpos, if_true, g1, g2, e1, hm, Bool.not_true, Bool.false_eq_true, if_false, bind, Option.bind_some]
          · rw [hsame]
            rcases k5 y hy with h1 | h1
            · exact .inl h1
            · rcases List.mem_append.1 h1 with h1 | h1
              · exact .inr h1
              · simp at h1; subst h1; exact .inl (by simpa using hm)
          · rw [hsame] at hh ⊢
            rcases k6 j hj hh y hy with h1 | h1
            · exact .inl h1
            · rcases List.mem_append.1 h1 with h1 | h1
              · exact .inr h1
              · simp at h1; subst h1; exact .inl (by simpa using hm)
          · rw [cn_congr fun j _ => hsame j]
            simp at k7 ⊢; omega
          · rw [cn_congr fun j _ => hsame j]
            simp
        · have hm : has m i = false := by simpa using hm
          have hcn := cn_put hm e3 hin
          have hcl := cn_le (has m') S.length
          have hlen := hfr (i : Int)
          refine ⟨(ws ++ frS S (i : Int), m'), ?_, ⟨e2, fun j hj => ?_, fun j hj hh => ?_, fun y hy => ?_, fun y hy => ?_, fun j hj hh y hy => ?_, ?_⟩, ?_⟩
          · unfold F_walk_walker_closed_1_l0
            simp only [hpos, if_true, g1, g2, e1, hm, Bool.not_false, bind, Option.bind_some, idx_of hSi]
            rw [app_eq (by rw [← hfi]; omega), hfi]
            rfl
          · rw [e3, k2 j hj]
            have : ¬ j = i := by omega
            simp [this]
          · rw [e3] at hh
            by_cases hji : j = i
            · subst hji; exact k4 _ (by simp)
            · exact k3 j hj (by simpa [hji] using hh)
          · rcases List.mem_append.1 hy with hy | hy
            · exact k4 y (by simp [hy])
            · exact .step (k4 _ (by simp)) hy
          · rw [e3]
            rcases k5 y hy with h1 | h1
            · exact .inl (by simp [h1])
            · rcases List.mem_append.1 h1 with h1 | h1
              · exact .inr (by simp [h1])
              · simp at h1; subst h1; exact .inl (by simp)
          · by_cases hji : j = i
            · subst hji; exact .inr (by simp [hy])
            · rw [e3] at hh ⊢
              rcases k6 j hj (by simpa [hji] using hh) y hy with h1 | h1
              · exact .inl (by simp [h1])
              · rcases List.mem_append.1 h1 with h1 | h1
                · exact .inr (by simp [h1])
                · simp at h1; subst h1; exact .inl (by simp)
          · rw [hcn] at hcl ⊢
            simp at k7 ⊢; omega
          · rw [hcn] at hcl ⊢
            simp; omega) (N := N) (s := (L, m0))
    ⟨q0, fun j _ => q1 j, fun j _ hh => (by rw [q1] at hh; cases hh), fun x hx => .base hx, fun x hx => .inr hx, fun j _ hh => (by rw [q1] at hh; cases hh), by
      have : cn (has m0) S.length = 0 := by
        have hz : ∀ n, cn (has m0) n = 0 := fun n => by
          induction n with
          | zero => rfl
          | succ n ih => unfold cn; rw [ih, q1]; simp
        exact hz _
      simp only [this]; omega⟩ (by
      have := Nat.mul_le_mul_right 101 (Nat.sub_le S.length (cn (has m0) S.length))
      have h2 : S.length * 101 ≤ 4000 * 101 := Nat.mul_le_mul_right _ hn2
      simp only; omega)
  rw [hr]
  exact ⟨r.1, r.2, rfl, hq1, hq2, hq3⟩
end
end Go.Proofs.YtealkahefalaeaaGreatDoor
namespace Go.Proofs.YtealkahefalaeaaGreatDoor
open Go Go.Eng
def bo (l : List Bool) (j : Nat) : Bool := l.getD j false
theorem bo_set {l : List Bool} {i : Nat} (hi : i < l.length) (j : Nat) : bo (l.set i true) j = (bo l j || j == i) := by
  unfold bo
  by_cases h : j = i
  · subst h; simp [List.getD, hi]
  · have : ¬ i = j := fun e => h e.symm
    simp [List.getD, this, h]
theorem bo_idx {l : List Bool} {j : Nat} (h : j < l.length) : idx l (j : Int) = some (bo l j) := by
  rw [idx_nat h]; unfold bo; rw [List.getD, List.getElem?_eq_getElem h]; rfl
theorem cn_mono {f g : Nat → Bool} (h : ∀ j, f j = true → g j = true) : ∀ n, cn f n ≤ cn g n
  | 0 => Nat.le_refl _
  | n + 1 => by
    have := cn_mono h n
    unfold cn
    cases hf : f n with
    | false => simp only [Bool.false_eq_true, if_false]; split <;> omega
    | true => rw [h n hf]; simp only [if_true]; omega
section
variable {N : Nat} {S : List Stt} {E : List Int}
/-- what a pass over the states keeps -/
structure Pass (S : List Stt) (L : List Int) (o0 : List Bool) (o : List Bool) (ch : Bool) : Prop where
  len : o.length = S.length
  up : ∀ j, bo o0 j = true → bo o j = true
  snd : ∀ j, j < S.length → bo o j = true → RchF S L (j : Int)
  t : ch = true → cn (bo o0) S.length < cn (bo o) S.length
  f : ch = false → o = o0
theorem pass_spec {L : List Int} {o0 : List Bool} (hN : 4294967296 ≤ N) (h : NRt S E) (hf : ∀ s ∈ S, s.1.length ≤ 100) (hl : o0.length = S.length) (hs0 : ∀ j, j < S.length → bo o0 j = true → RchF S L (j : Int)) :
    ∃ o ch, iterO N (fun s => F_dofferref16_Closed_l1 N S s.1 s.2.1 s.2.2) (0, o0, false) = some (o, ch) ∧ Pass S L o0 o ch ∧ (ch = false → ∀ j, j < S.length → bo o0 j = true → ∀ y ∈ frS S (j : Int), bo o0 y.toNat = true) := by
  have hn2 := h.n2
  obtain ⟨⟨o, ch⟩, e1, e2, e3⟩ := loop_inv (f := fun s => F_dofferref16_Closed_l1 N S s.1 s.2.1 s.2.2) (fun i (s : List Bool × Bool) => ((i : Int), s.1, s.2)) (fun s => s) S
    (fun i s => Pass S L o0 s.1 s.2 ∧ (s.2 = false → ∀ j, j < i → bo o0 j = true → ∀ y ∈ frS S (j : Int), bo o0 y.toNat = true)) (N := N) (s := (o0, false)) (by omega)
    ⟨⟨hl, fun _ h => h, hs0, fun h => (by cases h), fun _ => rfl⟩, fun _ j hj => by omega⟩
    (fun i st s hx hI => by
      obtain ⟨o, ch⟩ := s
      obtain ⟨k1, k2⟩ := hI
      have hi := lt_len hx
      have hfi : frS S (i : Int) = st.1 := by unfold frS; rw [Int.toNat_natCast, hx]; rfl
      have hflen := hf st (List.mem_of_getElem? hx)
      obtain ⟨⟨o', ch'⟩, g1, g2, g3⟩ := loop_inv (f := fun s => F_dofferref16_Closed_l2 N (i : Int) st s.1 s.2.1 s.2.2) (fun k (s : List Bool × Bool) => ((k : Int), s.1, s.2)) (fun s => s) st.1
        (fun k s => Pass S L o0 s.1 s.2 ∧ (s.2 = false → (∀ j, j < i → bo o0 j = true → ∀ y ∈ frS S (j : Int), bo o0 y.toNat = true) ∧ (bo o0 i = true → ∀ y ∈ st.1.take k, bo o0 y.toNat = true))) (N := N) (s := (o, ch)) (by omega)
        ⟨k1, fun hc => ⟨k2 hc, fun _ y hy => by simp at hy⟩⟩
        (fun k y s hy hJ => by
          obtain ⟨o, ch⟩ := s
          obtain ⟨j1, j2⟩ := hJ
          simp only at j1 j2
          have hk := lt_len hy
          have hyf : y ∈ frS S (i : Int) := by rw [hfi]; exact List.mem_of_getElem? hy
          have hyr := frS_rng h hyf
          obtain ⟨q, rfl⟩ : ∃ q : Nat, y = (q : Int) := ⟨y.toNat, by omega⟩
          have hq : q < S.length := by omega
          have hqo : q < o.length := by rw [j1.len]; exact hq
          have hio : i < o.length := by rw [j1.len]; exact hi
          unfold F_dofferref16_Closed_l2
          simp only [show ((k : Int) < (st.1.length : Int)) by omega, decide_true, if_true, idx_of hy, bo_idx hio, bo_idx hqo, bind, Option.bind_some]
          rw [w64_succ (by omega)]
          by_cases hbi : bo o i = true
          · by_cases hbq : bo o q = true
            · refine ⟨(o, ch), by simp [hbi, hbq], j1, fun hc => ?_⟩
              obtain ⟨w1, w2⟩ := j2 hc
              have hoo := j1.f hc
              refine ⟨w1, fun h0 z hz => ?_⟩
              rw [List.take_add_one, hy] at hz
              rcases List.mem_append.1 hz with hz | hz
              · exact w2 h0 z hz
              · simp at hz; subst hz; simpa [hoo] using hbq
            · have hbq : bo o q = false := by simpa using hbq
              refine ⟨(o.set q true, true), by simp only [hbi, hbq, if_true, Bool.not_false, Option.bind_some, setI_nat hqo], ⟨by simp [j1.len], fun j hj => ?_, fun j hj hh => ?_, fun _ => ?_, fun hc => (by cases hc)⟩, fun hc => (by cases hc)⟩
              · rw [bo_set hqo, j1.up j hj]; rfl
              · rw [bo_set hqo] at hh
                by_cases hjq : j = q
                · subst hjq; exact .step (j1.snd i hi hbi) hyf
                · exact j1.snd j hj (by simpa [hjq] using hh)
              · have h5 := cn_put hbq (fun j => bo_set hqo j) hq
                have h6 := cn_mono j1.up S.length
                show cn (bo o0) S.length < cn (bo (o.set q true)) S.length
                omega
          · have hbi : bo o i = false := by simpa using hbi
            refine ⟨(o, ch), by simp [hbi], j1, fun hc => ?_⟩
            obtain ⟨w1, w2⟩ := j2 hc
            have hoo := j1.f hc
            refine ⟨w1, fun h0 => ?_⟩
            rw [← hoo, hbi] at h0; cases h0)
        (fun s _ => by unfold F_dofferref16_Closed_l2; simp)
      refine ⟨(o', ch'), ?_, g2, fun hc j hj hb y hy => ?_⟩
      · unfold F_dofferref16_Closed_l1
        simp only [show ((i : Int) < (S.length : Int)) by omega, decide_true, if_true, idx_of hx, bind, Option.bind_some]
        rw [show iterO N (fun s => F_dofferref16_Closed_l2 N (i : Int) st s.1 s.2.1 s.2.2) (0, o, ch) = _ from g1]
        rw [w64_succ (by omega)]
        rfl
      · obtain ⟨w1, w2⟩ := g3 hc
        by_cases hji : j = i
        · subst hji
          rw [List.take_length] at w2
          exact w2 hb y (by rwa [hfi] at hy)
        · exact w1 j (by omega) hb y hy)
    (fun s _ => by unfold F_dofferref16_Closed_l1; simp)
  exact ⟨o, ch, e1, e2, e3⟩
theorem refClosed_spec {o0 : List Bool} (hN : 4294967296 ≤ N) (h : NRt S E) (hf : ∀ s ∈ S, s.1.length ≤ 100) (hl : o0.length = S.length) :
    ∃ o, F_dofferref16_Closed N S E o0 = some o ∧ o.length = S.length ∧ ∀ j, j < S.length → (bo o j = true ↔ RchF S (lst (bo o0) S.length) (j : Int)) := by
  have hn2 := h.n2
  unfold F_dofferref16_Closed
  rw [app_eq (by simp; omega)]
  simp only [bind, Option.bind_some, List.nil_append]
  obtain ⟨r, hr, q1, q2⟩ := iterO_while (f := fun s : List Bool × Bool => F_dofferref16_Closed_l0 N S s.1 s.2)
    (fun s => s.1.length = S.length ∧ (∀ j, bo o0 j = true → bo s.1 j = true) ∧ (∀ j, j < S.length → bo s.1 j = true → RchF S (lst (bo o0) S.length) (j : Int)) ∧ (s.2 = false → ∀ j, j < S.length → bo s.1 j = true → ∀ y ∈ frS S (j : Int), bo s.1 y.toNat = true))
    (fun s => (S.length - cn (bo s.1) S.length) * 2 + (if s.2 then 1 else 0)) (fun r => r.length = S.length ∧ ∀ j, j < S.length → (bo r j = true ↔ RchF S (lst (bo o0) S.length) (j : Int))) (fun s hI => by
      obtain ⟨o, ag⟩ := s
      obtain ⟨k1, k2, k3, k4⟩ := hI
      simp only at k1 k2 k3 k4 ⊢
      cases ag with
      | true =>
        left
        obtain ⟨o', ch, e1, e2, e3⟩ := pass_spec (L := lst (bo o0) S.length) (o0 := o) hN h hf k1 k3
        refine ⟨(o', ch), ?_, ⟨e2.len, fun j hj => e2.up j (k2 j hj), e2.snd, fun hc => ?_⟩, ?_⟩
        · unfold F_dofferref16_Closed_l0
          simp only [if_true, bind]
          rw [e1]; rfl
        · simp only at hc
          have := e2.f hc
          simp only [this]
          exact e3 hc
        · have hcl := cn_le (bo o') S.length
          cases ch with
          | true => have := e2.t rfl; simp; omega
          | false => rw [e2.f rfl]; simp
      | false =>
        right
        refine ⟨o, by unfold F_dofferref16_Closed_l0; simp, k1, fun j hj => ⟨k3 j hj, fun hr => ?_⟩⟩
        have key : ∀ x, RchF S (lst (bo o0) S.length) x → bo o x.toNat = true := by
          intro x hx
          induction hx with
          | base hx => obtain ⟨q, rfl, hq, hb⟩ := mem_lst.1 hx; simpa using k2 q hb
          | @step s y hs hy ih =>
            have hsr := hs.rng h (fun x hx => by obtain ⟨q, rfl, hq, _⟩ := mem_lst.1 hx; omega)
            obtain ⟨q, rfl⟩ : ∃ q : Nat, s = (q : Int) := ⟨s.toNat, by omega⟩
            exact k4 rfl q (by omega) (by simpa using ih) y hy
        simpa using key _ hr) (N := N) (s := (o0, true)) ⟨hl, fun _ h => h, fun j hj hb => .base (mem_lst.2 ⟨j, rfl, hj, hb⟩), fun hc => by cases hc⟩ (by
      simp only [if_true]
      omega)
  rw [hr]
  exact ⟨r, rfl, q1, q2⟩
/-- a loop that goes through marks by After, as far as n -/
theorem after_loop {α : Type} {f : α × Int → Option ((α × Int) ⊕ α)} {b n : Nat} {m : List Int} (hN : 4294967296 ≤ N) (hm : MkR b m) (hb : b ≤ 65536) (h0 : 0 < b) (hnb : n ≤ b) (hh : ∀ j, b ≤ j → has m j = false) (step : α → Nat → α) (I : Nat → α → Prop) {z : α} (hz : I 0 z)
    (hst : ∀ (acc : α) (j : Nat) (r : Int), j < n → has m j = true → I j acc → F_marks_Marks_After N m (b : Int) (j : Int) = some r → f (acc, (j : Int)) = some (.inl (step acc j, r)) ∧ ∀ k, j < k → I k (step acc j)) (hup : ∀ (acc : α) (j k : Nat), I j acc → j ≤ k → I k acc)
    (hex : ∀ (acc : α) (c : Int), (c < 0 ∨ c ≥ (n : Int)) → f (acc, c) = some (.inr acc)) :
    ∃ r0, F_marks_Marks_After N m (b : Int) (-1) = some r0 ∧ iterO N f (z, r0) = some (((List.range n).filter (has m)).foldl step z) := by
  obtain ⟨r0, e0, q0⟩ := after_spec (i := -1) hN hm hb (by omega) (by omega)
  refine ⟨r0, e0, ?_⟩
  -- the fold over the marked ones below j
  have gap : ∀ {a : Nat}, has m a = true → ∀ {c : Nat}, a < c → (∀ k, a < k → k < c → has m k = false) → (List.range c).filter (has m) = (List.range a).filter (has m) ++ [a] := by
    intro a ha c hac hg
    have := lst_gap (f := has m) ha hac hg
    unfold lst at this
    rw [show [((a : Nat) : Int)] = [a].map (fun (j : Nat) => (j : Int)) from rfl, ← List.map_append] at this
    exact (List.map_inj_right (fun x y hxy => by exact_mod_cast hxy)).1 this
  have none_ : ∀ {c : Nat}, (∀ k, k < c → has m k = false) → (List.range c).filter (has m) = [] := by
    intro c hc
    rw [List.filter_eq_nil_iff]
    intro k hk
    rw [hc k (by simpa using hk)]; simp
  obtain ⟨r, hr, hq⟩ := iterO_while (f := f) (fun s => (∃ j : Nat, s.2 = (j : Int) ∧ has m j = true ∧ j < b ∧ ((j < n ∧ I j s.1 ∧ s.1 = ((List.range j).filter (has m)).foldl step z) ∨ (n ≤ j ∧ s.1 = ((List.range n).filter (has m)).foldl step z))) ∨ (s.2 = -1 ∧ s.1 = ((List.range n).filter (has m)).foldl step z))
    (fun s => if s.2 < 0 then 0 else b - s.2.toNat) (fun r => r = ((List.range n).filter (has m)).foldl step z) (fun s hI => by
      obtain ⟨acc, cur⟩ := s
      simp only at hI ⊢
      rcases hI with ⟨j, rfl, hj, hjb, (⟨hjn, hIj, hacc⟩ | ⟨hjn, hacc⟩)⟩ | ⟨rfl, hacc⟩
      · left
        obtain ⟨r, e1, q1⟩ := after_spec (i := (j : Int)) hN hm hb (by omega) (by omega)
        obtain ⟨s1, s2⟩ := hst acc j r hjn hj hIj e1
        refine ⟨(step acc j, r), s1, ?_, ?_⟩
        · rcases q1 with ⟨rfl, h2⟩ | ⟨k, rfl, h2, h3, h4⟩
          · right
            refine ⟨rfl, ?_⟩
            rw [gap hj hjn (fun k h5 h6 => h2 k (by omega)), List.foldl_append, ← hacc]; rfl
          · left
            have hkb : k < b := by
              apply Nat.lt_of_not_le
              intro hle
              rw [hh k hle] at h3; cases h3
            refine ⟨k, rfl, h3, hkb, ?_⟩
            by_cases hkn : k < n
            · left
              refine ⟨hkn, s2 k (by omega), ?_⟩
              rw [gap hj (show j < k by omega) (fun c h5 h6 => h4 c (by omega) h6), List.foldl_append, ← hacc]; rfl
            · right
              refine ⟨by omega, ?_⟩
              rw [gap hj hjn (fun c h5 h6 => h4 c (by omega) (by omega)), List.foldl_append, ← hacc]; rfl
        · rcases q1 with ⟨rfl, h2⟩ | ⟨k, rfl, h2, h3, h4⟩
          · simp only [show ((-1 : Int) < 0) by decide, if_true, show ¬ ((j : Int) < 0) by omega, if_false]; omega
          · simp only [show ¬ ((j : Int) < 0) by omega, show ¬ ((k : Int) < 0) by omega, if_false]; omega
      · right
        exact ⟨acc, hex acc _ (.inr (by omega)), hacc⟩
      · right
        exact ⟨acc, hex acc _ (.inl (by omega)), hacc⟩)
    (N := N) (s := (z, r0)) (by
      rcases q0 with ⟨rfl, h2⟩ | ⟨k, rfl, h2, h3, h4⟩
      · right
        exact ⟨rfl, by rw [none_ (fun k hk => h2 k (by omega))]; rfl⟩
      · left
        have hkb : k < b := by
          apply Nat.lt_of_not_le
          intro hle
          rw [hh k hle] at h3; cases h3
        refine ⟨k, rfl, h3, hkb, ?_⟩
        by_cases hkn : k < n
        · left
          exact ⟨hkn, hup z 0 k hz (by omega), by rw [none_ (fun c hc => h4 c (by omega) hc)]; rfl⟩
        · right
          exact ⟨by omega, by rw [none_ (fun c hc => h4 c (by omega) (by omega))]; rfl⟩) (by simp only; split <;> omega)
  rw [hr, hq]
end
end Go.Proofs.YtealkahefalaeaaGreatDoor
namespace Go.Proofs.YtealkahefalaeaaGreatDoor
open Go Go.Eng
/-- words of 64 bits -/
def Wd (x : Int) : Prop := 0 ≤ x ∧ x < 18446744073709551616
def SetW (S : List Stt) : Prop := ∀ s ∈ S, Wd s.2.1.1 ∧ Wd s.2.1.2.1 ∧ Wd s.2.1.2.2.1 ∧ Wd s.2.1.2.2.2
def wds (t : Int × Int × Int × Int) : List Int := [t.1, t.2.1, t.2.2.1, t.2.2.2]
def tst (t : Int × Int × Int × Int) (c : Int) : Bool := ((wds t).getD (c.toNat / 64) 0).toNat.testBit (c.toNat % 64)
theorem wd_get {t : Int × Int × Int × Int} (h : Wd t.1 ∧ Wd t.2.1 ∧ Wd t.2.2.1 ∧ Wd t.2.2.2) {c : Int} (hc : 0 ≤ c ∧ c < 256) : ∃ a : Nat, a < 18446744073709551616 ∧ idx (wds t) (IntKind.wrap .u8 (c.tdiv 64)) = some (a : Int) ∧ tst t c = a.testBit (c.toNat % 64) := by
  obtain ⟨n, rfl⟩ : ∃ n : Nat, c = (n : Int) := ⟨c.toNat, by omega⟩
  have e1 : IntKind.wrap .u8 ((n : Int).tdiv 64) = ((n / 64 : Nat) : Int) := by
    have : (n : Int).tdiv 64 = ((n / 64 : Nat) : Int) := by rw [Int.tdiv_eq_ediv_of_nonneg (by omega)]; omega
    rw [this]
    simp only [IntKind.wrap, IntKind.signed, IntKind.bits]
    simp
    omega
  have hk : n / 64 < (wds t).length := by show n / 64 < 4; omega
  have hw : Wd ((wds t)[n / 64]) := by
    have : ∀ x ∈ wds t, Wd x := by
      intro x hx
      simp only [wds, List.mem_cons, List.not_mem_nil, or_false] at hx
      rcases hx with rfl | rfl | rfl | rfl
      · exact h.1
      · exact h.2.1
      · exact h.2.2.1
      · exact h.2.2.2
    exact this _ (List.getElem_mem hk)
  refine ⟨((wds t)[n / 64]).toNat, by have := hw.1; have := hw.2; omega, ?_, ?_⟩
  · rw [e1, idx_nat hk]
    have := hw.1
    congr 1; omega
  · unfold tst
    rw [Int.toNat_natCast, List.getD, List.getElem?_eq_getElem hk]; rfl
theorem tmod64 {c : Int} (hc : 0 ≤ c ∧ c < 256) : c.tmod 64 = ((c.toNat % 64 : Nat) : Int) := by rw [Int.tmod_eq_emod_of_nonneg hc.1]; omega
theorem has_set {N : Nat} {t : Int × Int × Int × Int} (h : Wd t.1 ∧ Wd t.2.1 ∧ Wd t.2.2.1 ∧ Wd t.2.2.2) {c : Int} (hc : 0 ≤ c ∧ c < 256) : F_sets_Set_Has N t.1 t.2.1 t.2.2.1 t.2.2.2 c = some (tst t c) := by
  obtain ⟨a, ha, hi, ht⟩ := wd_get h hc
  have hi' : idx [t.1, t.2.1, t.2.2.1, t.2.2.2] (IntKind.wrap .u8 (c.tdiv 64)) = some (a : Int) := hi
  have hn : nn ((c.toNat % 64 : Nat) : Int) = some () := by simp [nn]; omega
  unfold F_sets_Set_Has
  rw [hi', tmod64 hc, hn]
  have hp : a / 2 ^ (c.toNat % 64) < 18446744073709551616 := Nat.lt_of_le_of_lt (Nat.div_le_self _ _) ha
  simp only [bind, Option.bind_some]
  rw [shr_u64 (by omega), show (1 : Int) = ((1 : Nat) : Int) from rfl, iand_u64 hp (by omega), ht, Nat.testBit_eq_decide_div_mod_eq, Nat.and_one_is_mod]
  generalize a / 2 ^ (c.toNat % 64) = p
  congr 1
  rw [Bool.eq_iff_iff, beq_iff_eq, decide_eq_true_eq]
  omega
theorem ref_set {t : Int × Int × Int × Int} (h : Wd t.1 ∧ Wd t.2.1 ∧ Wd t.2.2.1 ∧ Wd t.2.2.2) {c : Int} (hc : 0 ≤ c ∧ c < 256) :
    ((idx [t.1, t.2.1, t.2.2.1, t.2.2.2] (IntKind.wrap .u8 (c.tdiv 64))).bind fun x => (nn (c.tmod 64)).bind fun _ => some (((shrI .u64 x (c.tmod 64)).tmod 2) == 1)) = some (tst t c) := by
  obtain ⟨a, ha, hi, ht⟩ := wd_get h hc
  have hi' : idx [t.1, t.2.1, t.2.2.1, t.2.2.2] (IntKind.wrap .u8 (c.tdiv 64)) = some (a : Int) := hi
  have hn : nn ((c.toNat % 64 : Nat) : Int) = some () := by simp [nn]; omega
  rw [hi', tmod64 hc, hn, Option.bind_some, Option.bind_some, shr_u64 (by omega), ht, Nat.testBit_eq_decide_div_mod_eq, Int.tmod_eq_emod_of_nonneg (Int.natCast_nonneg _)]
  generalize a / 2 ^ (c.toNat % 64) = p
  congr 1
  rw [Bool.eq_iff_iff, beq_iff_eq, decide_eq_true_eq]
  omega
section
variable {N : Nat} {S : List Stt} {E : List Int}
def rul (S : List Stt) (j : Nat) : Int := ((S[j]?).map (fun s => s.2.2.2)).getD (-1)
def too (S : List Stt) (j : Nat) : Int := ((S[j]?).map (fun s => s.2.2.1)).getD (-1)
def bitS (S : List Stt) (c : Int) (j : Nat) : Bool := ((S[j]?).map (fun s => tst s.2.1 c)).getD false
def stepR (S : List Stt) (acc : Int) (j : Nat) : Int := if rul S j ≠ -1 ∧ (acc = -1 ∨ rul S j < acc) then rul S j else acc
def lrule (S : List Stt) (f : Nat → Bool) : Int := ((List.range S.length).filter f).foldl (stepR S) (-1)
theorem rule_spec {b : Nat} {m : List Int} (hN : 4294967296 ≤ N) (hm : MkR b m) (hb : b ≤ 65536) (h0 : 0 < b) (hnb : S.length ≤ b) (hh : ∀ j, b ≤ j → has m j = false) : F_walk_walker_rule N S E m (b : Int) = some (lrule S (has m)) := by
  obtain ⟨r0, e0, e1⟩ := after_loop (f := fun s : Int × Int => F_walk_walker_rule_l0 N S m (b : Int) s.1 s.2) hN hm hb h0 hnb hh (stepR S) (fun _ _ => True) (z := -1) trivial
    (fun acc j r hj _ _ he => by
      refine ⟨?_, fun _ _ => trivial⟩
      have hx : S[j]? = some S[j] := List.getElem?_eq_getElem hj
      have hr : rul S j = S[j].2.2.2 := by unfold rul; rw [hx]; rfl
      unfold F_walk_walker_rule_l0 stepR
      rw [hr]
      simp only [show ((j : Int) ≥ 0) by omega, show ((j : Int) < (S.length : Int)) by omega, decide_true, if_true, idx_of hx, he, bind, Option.bind_some]
      by_cases c1 : S[j].2.2.2 = -1
      · simp [c1]
      · by_cases c2 : acc = -1
        · simp [c1, c2]
        · by_cases c3 : S[j].2.2.2 < acc <;> simp [c1, c2, c3])
    (fun _ _ _ _ _ => trivial)
    (fun acc c hc => by
      unfold F_walk_walker_rule_l0
      by_cases c1 : c ≥ 0
      · have c2 : ¬ c < (S.length : Int) := by omega
        simp [c1, c2]
      · simp [c1])
  unfold F_walk_walker_rule
  rw [e0]
  simp only [bind, Option.bind_some]
  rw [show iterO N (fun s : Int × Int => F_walk_walker_rule_l0 N S m (b : Int) s.1 s.2) (-1, r0) = _ from e1]
  rfl
theorem refRule_spec {l : List Bool} (hN : 4294967296 ≤ N) (h : NRt S E) (hl : l.length = S.length) : F_dofferref16_Rule N S E l = some (lrule S (bo l)) := by
  have hn2 := h.n2
  unfold F_dofferref16_Rule
  obtain ⟨s, e1, e2, e3⟩ := loop_inv (f := fun s : Int × Int => F_dofferref16_Rule_l0 N S l s.1 s.2) (fun i (s : Int) => ((i : Int), s)) id S (fun i s => s = ((List.range i).filter (bo l)).foldl (stepR S) (-1) ∧ -1 ≤ s) (N := N) (s := -1) (by omega) ⟨rfl, by omega⟩
    (fun i x s hx hI => by
      obtain ⟨k1, k2⟩ := hI
      have hi := lt_len hx
      have hil : i < l.length := by omega
      have hr : rul S i = x.2.2.2 := by unfold rul; rw [hx]; rfl
      have hrr := h.rul x (List.mem_of_getElem? hx)
      unfold F_dofferref16_Rule_l0
      simp only [show ((i : Int) < (S.length : Int)) by omega, decide_true, if_true, idx_of hx, bo_idx hil, bind, Option.bind_some]
      rw [w64_succ (by omega)]
      refine ⟨if bo l i then stepR S s i else s, ?_, ?_, ?_⟩
      · unfold stepR
        rw [hr]
        cases hb : bo l i with
        | false => simp
        | true =>
          by_cases c1 : x.2.2.2 ≥ 0
          · by_cases c2 : s < 0
            · have c3 : x.2.2.2 ≠ -1 ∧ (s = -1 ∨ x.2.2.2 < s) := by omega
              simp [c1, c2, c3]
            · by_cases c4 : x.2.2.2 < s
              · have c3 : x.2.2.2 ≠ -1 ∧ (s = -1 ∨ x.2.2.2 < s) := by omega
                simp [c1, c2, c4, c3]
              · have c3 : ¬ (x.2.2.2 ≠ -1 ∧ (s = -1 ∨ x.2.2.2 < s)) := by omega
                rw [if_neg c3]
                simp [c1, c2, c4]
          · have c3 : ¬ (x.2.2.2 ≠ -1 ∧ (s = -1 ∨ x.2.2.2 < s)) := by omega
            rw [if_neg c3]
            simp [c1]
      · rw [List.range_succ, List.filter_append, List.foldl_append, ← k1]
        cases hb : bo l i <;> simp [hb]
      · unfold stepR
        rw [hr]
        split
        · split <;> omega
        · exact k2)
    (fun s _ => by unfold F_dofferref16_Rule_l0; simp)
  simp only [bind]
  rw [show iterO N (fun s : Int × Int => F_dofferref16_Rule_l0 N S l s.1 s.2) (0, -1) = _ from e1]
  simp only [Option.bind_some, id, e2]
  rfl
theorem lrule_congr {f g : Nat → Bool} (h : ∀ j, j < S.length → f j = g j) : lrule S f = lrule S g := by
  unfold lrule
  congr 1
  apply List.filter_congr
  intro j hj
  exact h j (by simpa using hj)
def stepS (S : List Stt) (c : Int) (acc : List Int) (j : Nat) : List Int := if bitS S c j then acc ++ [too S j] else acc
theorem mem_stepS {c : Int} {x : Int} : ∀ (l : List Nat) (acc : List Int), x ∈ l.foldl (stepS S c) acc ↔ x ∈ acc ∨ ∃ j ∈ l, bitS S c j = true ∧ x = too S j
  | [], acc => by simp
  | j :: l, acc => by
    rw [List.foldl_cons, mem_stepS l]
    unfold stepS
    by_cases hb : bitS S c j = true
    · rw [if_pos hb, List.mem_append, List.mem_singleton]
      constructor
      · rintro ((h | rfl) | ⟨k, hk, h1, h2⟩)
        · exact .inl h
        · exact .inr ⟨j, by simp, hb, rfl⟩
        · exact .inr ⟨k, by simp [hk], h1, h2⟩
      · rintro (h | ⟨k, hk, h1, h2⟩)
        · exact .inl (.inl h)
        · rcases List.mem_cons.1 hk with rfl | hk
          · exact .inl (.inr h2)
          · exact .inr ⟨k, hk, h1, h2⟩
    · rw [if_neg hb]
      constructor
      · rintro (h | ⟨k, hk, h1, h2⟩)
        · exact .inl h
        · exact .inr ⟨k, by simp [hk], h1, h2⟩
      · rintro (h | ⟨k, hk, h1, h2⟩)
        · exact .inl h
        · rcases List.mem_cons.1 hk with rfl | hk
          · exact absurd h1 hb
          · exact .inr ⟨k, hk, h1, h2⟩
theorem too_rng (h : NRt S E) {c : Int} {j : Nat} (hb : bitS S c j = true) : 0 ≤ too S j ∧ too S j < (S.length : Int) := by
  unfold bitS at hb
  unfold too
  cases hx : S[j]? with
  | none => rw [hx] at hb; cases hb
  | some s =>
    rw [hx] at hb
    have hs := List.mem_of_getElem? hx
    have h1 := h.to s hs
    have h2 := h.set0 s hs
    simp only [Option.map_some, Option.getD_some] at hb ⊢
    refine ⟨?_, h1.2⟩
    by_cases h3 : s.2.2.1 = -1
    · rw [h2 h3] at hb
      unfold tst wds at hb
      exfalso
      have : ([(0 : Int), 0, 0, 0] : List Int).getD (c.toNat / 64) 0 = 0 := by
        rw [List.getD]
        cases hq : ([(0 : Int), 0, 0, 0] : List Int)[c.toNat / 64]? with
        | none => rfl
        | some v =>
          have := List.mem_of_getElem? hq
          simp at this
          simp [this]
      simp only at hb
      rw [this] at hb
      simp at hb
    · omega
/-- what a step leads to -/
def stepL (S : List Stt) (f : Nat → Bool) (c : Int) : List Int := ((List.range S.length).filter f).foldl (stepS S c) []
theorem mem_stepL {f : Nat → Bool} {c x : Int} : x ∈ stepL S f c ↔ ∃ j, j < S.length ∧ f j = true ∧ bitS S c j = true ∧ x = too S j := by
  unfold stepL
  rw [mem_stepS]
  simp only [List.not_mem_nil, false_or, List.mem_filter, List.mem_range]
  constructor
  · rintro ⟨j, ⟨h1, h2⟩, h3, h4⟩; exact ⟨j, h1, h2, h3, h4⟩
  · rintro ⟨j, h1, h2, h3, h4⟩; exact ⟨j, ⟨h1, h2⟩, h3, h4⟩
theorem stepL_len {f : Nat → Bool} {c : Int} : (stepL S f c).length ≤ S.length := by
  have key : ∀ (l : List Nat) (acc : List Int), (l.foldl (stepS S c) acc).length ≤ acc.length + l.length := by
    intro l
    induction l with
    | nil => intro acc; simp
    | cons j l ih =>
      intro acc
      rw [List.foldl_cons]
      have := ih (stepS S c acc j)
      unfold stepS at this ⊢
      split at this <;> simp_all <;> omega
  have h1 := key ((List.range S.length).filter f) []
  have h2 := List.length_filter_le f (List.range S.length)
  unfold stepL
  simp at h1 h2 ⊢
  omega
theorem step_spec {b : Nat} {m : List Int} {c : Int} (hN : 4294967296 ≤ N) (h : NRt S E) (hf : ∀ s ∈ S, s.1.length ≤ 100) (hw : SetW S) (hm : MkR b m) (hb : b ≤ 65536) (h0 : 0 < b) (hnb : S.length ≤ b) (hh : ∀ j, b ≤ j → has m j = false) (hc : 0 ≤ c ∧ c < 256) :
    ∃ m', F_walk_walker_step N S E m (b : Int) c = some m' ∧ MkR S.length m' ∧ (∀ j, S.length ≤ j → has m' j = false) ∧ ∀ j, j < S.length → (has m' j = true ↔ RchF S (stepL S (has m) c) (j : Int)) := by
  have hn2 := h.n2
  obtain ⟨r0, e0, e1⟩ := after_loop (f := fun s : List Int × Int => F_walk_walker_step_l0 N S m (b : Int) c s.1 s.2) hN hm hb h0 hnb hh (stepS S c) (fun j acc => acc.length ≤ j) (z := []) (Nat.le_refl _)
    (fun acc j r hj _ hI he => by
      have hx : S[j]? = some S[j] := List.getElem?_eq_getElem hj
      have hbt : bitS S c j = tst S[j].2.1 c := by unfold bitS; rw [hx]; rfl
      have hto : too S j = S[j].2.2.1 := by unfold too; rw [hx]; rfl
      refine ⟨?_, fun k hk => ?_⟩
      · unfold F_walk_walker_step_l0 stepS
        rw [hbt, hto]
        simp only [show ((j : Int) ≥ 0) by omega, show ((j : Int) < (S.length : Int)) by omega, decide_true, if_true, idx_of hx, he, bind, Option.bind_some, has_set (N := N) (hw _ (List.getElem_mem hj)) hc]
        cases hq : tst S[j].2.1 c with
        | false => simp
        | true => rw [if_pos rfl, app_eq (by simp; omega)]; rfl
      · unfold stepS
        split
        · simp; omega
        · omega)
    (fun acc j k hI hjk => by omega)
    (fun acc c hc => by
      unfold F_walk_walker_step_l0
      by_cases c1 : c ≥ 0
      · have c2 : ¬ c < (S.length : Int) := by omega
        simp [c1, c2]
      · simp [c1])
  have hL : ∀ x ∈ stepL S (has m) c, 0 ≤ x ∧ x < (S.length : Int) := by
    intro x hx
    obtain ⟨j, _, _, h3, rfl⟩ := mem_stepL.1 hx
    exact too_rng h h3
  have hlen := stepL_len (S := S) (f := has m) (c := c)
  obtain ⟨w, m', g1, g2, g3, g4⟩ := closed1_spec (L := stepL S (has m) c) hN h hf hL (by omega)
  unfold F_walk_walker_step
  rw [e0]
  simp only [bind, Option.bind_some]
  rw [show iterO N (fun s : List Int × Int => F_walk_walker_step_l0 N S m (b : Int) c s.1 s.2) ([], r0) = _ from e1]
  simp only [Option.bind_some]
  rw [show ((List.range S.length).filter (has m)).foldl (stepS S c) [] = stepL S (has m) c from rfl, g1]
  exact ⟨m', rfl, g2, g3, g4⟩
theorem refStep_spec {l : List Bool} {c : Int} (hN : 4294967296 ≤ N) (h : NRt S E) (hf : ∀ s ∈ S, s.1.length ≤ 100) (hw : SetW S) (hl : l.length = S.length) (hc : 0 ≤ c ∧ c < 256) :
    ∃ o, F_dofferref16_Step N S E l c = some o ∧ o.length = S.length ∧ ∀ j, j < S.length → (bo o j = true ↔ RchF S (stepL S (bo l) c) (j : Int)) := by
  have hn2 := h.n2
  unfold F_dofferref16_Step
  rw [mk_eq (by omega)]
  simp only [bind, Option.bind_some]
  obtain ⟨o1, e1, e2, e3⟩ := loop_inv (f := fun s : Int × List Bool => F_dofferref16_Step_l0 N S l c s.1 s.2) (fun i (s : List Bool) => ((i : Int), s)) id S
    (fun i o => o.length = S.length ∧ ∀ k, bo o k = true ↔ ∃ j, j < i ∧ bo l j = true ∧ bitS S c j = true ∧ (k : Int) = too S j) (N := N) (s := List.replicate S.length false) (by omega)
    ⟨by simp, fun k => by
      have : bo (List.replicate S.length false) k = false := by unfold bo; rw [List.getD, List.getElem?_replicate]; split <;> rfl
      rw [this]; simp⟩
    (fun i x o hx hI => by
      obtain ⟨k1, k2⟩ := hI
      have hi := lt_len hx
      have hil : i < l.length := by omega
      have hbt : bitS S c i = tst x.2.1 c := by unfold bitS; rw [hx]; rfl
      have hto : too S i = x.2.2.1 := by unfold too; rw [hx]; rfl
      have hrs := ref_set (hw x (List.mem_of_getElem? hx)) hc
      unfold F_dofferref16_Step_l0
      simp only [show ((i : Int) < (S.length : Int)) by omega, decide_true, if_true, idx_of hx, bo_idx hil, bind, Option.bind_some, hrs]
      rw [w64_succ (by omega)]
      by_cases hb : bo l i = true ∧ bitS S c i = true
      · have htr := too_rng h hb.2
        rw [hto] at htr
        obtain ⟨q, hq⟩ : ∃ q : Nat, x.2.2.1 = (q : Int) := ⟨x.2.2.1.toNat, by omega⟩
        have hqo : q < o.length := by omega
        rw [hbt] at hb
        refine ⟨o.set q true, by simp only [hb.1, hb.2, if_true, hq, show ((q : Int) ≥ 0) by omega, decide_true, Option.bind_some, bo_idx hqo, setI_nat hqo], by simp [k1], fun k => ?_⟩
        rw [bo_set hqo, Bool.or_eq_true, k2]
        constructor
        · rintro (⟨j, h1, h2⟩ | h1)
          · exact ⟨j, by omega, h2⟩
          · have : k = q := by simpa using h1
            exact ⟨i, by omega, hb.1, by rw [hbt]; exact hb.2, by rw [hto, hq, this]⟩
        · rintro ⟨j, h1, h2, h3, h4⟩
          by_cases hji : j = i
          · subst hji
            right
            rw [hto, hq] at h4
            have : k = q := by omega
            simp [this]
          · exact .inl ⟨j, by omega, h2, h3, h4⟩
      · refine ⟨o, ?_, k1, fun k => ?_⟩
        · cases hb1 : bo l i with
          | false => simp
          | true =>
            have hb2 : tst x.2.1 c = false := by
              rw [← hbt]
              cases hq : bitS S c i with
              | false => rfl
              | true => exact absurd ⟨hb1, hq⟩ hb
            by_cases c1 : x.2.2.1 ≥ 0 <;> simp [c1, hb2]
        · rw [k2]
          constructor
          · rintro ⟨j, h1, h2⟩; exact ⟨j, by omega, h2⟩
          · rintro ⟨j, h1, h2, h3, h4⟩
            by_cases hji : j = i
            · subst hji; exact absurd ⟨h2, h3⟩ hb
            · exact ⟨j, by omega, h2, h3, h4⟩)
    (fun s _ => by unfold F_dofferref16_Step_l0; simp)
  rw [show iterO N (fun s : Int × List Bool => F_dofferref16_Step_l0 N S l c s.1 s.2) (0, List.replicate S.length false) = _ from e1]
  simp only [id, Option.bind_some]
  obtain ⟨o, g1, g2, g3⟩ := refClosed_spec hN h hf e2
  rw [g1]
  refine ⟨o, rfl, g2, fun j hj => ?_⟩
  rw [g3 j hj]
  have h1 : ∀ x ∈ lst (bo o1) S.length, RchF S (stepL S (bo l) c) x := fun x hx => by
    obtain ⟨k, rfl, hk, hb⟩ := mem_lst.1 hx
    obtain ⟨j, q1, q2, q3, q4⟩ := (e3 k).1 hb
    exact .base (mem_stepL.2 ⟨j, q1, q2, q3, q4⟩)
  have h2 : ∀ x ∈ stepL S (bo l) c, RchF S (lst (bo o1) S.length) x := fun x hx => by
    obtain ⟨j, q1, q2, q3, rfl⟩ := mem_stepL.1 hx
    have hr := too_rng h q3
    obtain ⟨k, hk⟩ : ∃ k : Nat, too S j = (k : Int) := ⟨(too S j).toNat, by omega⟩
    rw [hk]
    exact .base (mem_lst.2 ⟨k, rfl, by omega, (e3 k).2 ⟨j, q1, q2, q3, hk.symm⟩⟩)
  exact ⟨RchF.mono h1, RchF.mono h2⟩
theorem stepL_congr {f g : Nat → Bool} {c : Int} (h : ∀ j, j < S.length → f j = g j) : stepL S f c = stepL S g c := by
  unfold stepL
  congr 1
  apply List.filter_congr
  intro j hj
  exact h j (by simpa using hj)
def begL (E : List Int) (cond : Int) : List Int := if 0 ≤ cond ∧ cond < (E.length : Int) then [E.getD cond.toNat 0] else []
theorem rch_nil {x : Int} (h : RchF S [] x) : False := by
  induction h with
  | base h => cases h
  | step _ _ ih => exact ih
theorem wbegin_spec {cond : Int} (hN : 4294967296 ≤ N) (h : NRt S E) (hf : ∀ s ∈ S, s.1.length ≤ 100) :
    ∃ m, F_walk_walker_begin N S E cond = some m ∧ MkR S.length m ∧ (∀ j, S.length ≤ j → has m j = false) ∧ ∀ j, j < S.length → (has m j = true ↔ RchF S (begL E cond) (j : Int)) := by
  have hn2 := h.n2
  unfold F_walk_walker_begin begL
  by_cases hc : 0 ≤ cond ∧ cond < (E.length : Int)
  · have hl : cond.toNat < E.length := by omega
    have he := h.ent _ (List.getElem_mem hl)
    obtain ⟨w, m, g1, g2, g3, g4⟩ := closed1_spec (L := [E[cond.toNat]]) hN h hf (fun x hx => by simp at hx; subst hx; exact he) (by simp)
    rw [if_pos hc]
    have e : E.getD cond.toNat 0 = E[cond.toNat] := by rw [List.getD, List.getElem?_eq_getElem hl]; rfl
    rw [e]
    simp only [show ¬ cond < 0 by omega, show ¬ cond ≥ (E.length : Int) by omega, decide_false, Bool.false_eq_true, if_false, bind, Option.bind_some, idx_int hc.1 hl, g1]
    exact ⟨m, rfl, g2, g3, g4⟩
  · obtain ⟨m0, e0, q0, q1⟩ := new_spec (N := N) (n := S.length) (by omega)
    rw [if_neg hc]
    have e : ((if decide (cond < 0) = true then some true else some (decide (cond ≥ (E.length : Int)))) : Option Bool) = some true := by
      by_cases c1 : cond < 0
      · simp [c1]
      · have : cond ≥ (E.length : Int) := by omega
        simp [c1, this]
    rw [e]
    unfold F_walk_walker_none
    simp only [bind, Option.bind_some, if_true, e0]
    exact ⟨m0, rfl, q0, fun j _ => q1 j, fun j _ => ⟨fun hh => (by rw [q1] at hh; cases hh), fun hr => (rch_nil hr).elim⟩⟩
theorem refBegin_spec {cond : Int} (hN : 4294967296 ≤ N) (h : NRt S E) (hf : ∀ s ∈ S, s.1.length ≤ 100) :
    ∃ o, F_dofferref16_Begin N S E cond = some o ∧ o.length = S.length ∧ ∀ j, j < S.length → (bo o j = true ↔ RchF S (begL E cond) (j : Int)) := by
  have hn2 := h.n2
  have hrep : ∀ k, bo (List.replicate S.length false) k = false := fun k => by unfold bo; rw [List.getD, List.getElem?_replicate]; split <;> rfl
  unfold F_dofferref16_Begin begL
  rw [mk_eq (by omega)]
  have e : ((if decide (cond ≥ 0) = true then some (decide (cond < (E.length : Int))) else some false) : Option Bool) = some (decide (0 ≤ cond ∧ cond < (E.length : Int))) := by
    by_cases c1 : 0 ≤ cond <;> simp [c1]
  simp only [bind, Option.bind_some]
  rw [e]
  simp only [Option.bind_some]
  by_cases hc : 0 ≤ cond ∧ cond < (E.length : Int)
  · have hl : cond.toNat < E.length := by omega
    have he := h.ent _ (List.getElem_mem hl)
    obtain ⟨q, hq⟩ : ∃ q : Nat, E[cond.toNat] = (q : Int) := ⟨E[cond.toNat].toNat, by omega⟩
    have hqn : q < (List.replicate S.length false).length := by simp; omega
    have e2 : E.getD cond.toNat 0 = (q : Int) := by rw [List.getD, List.getElem?_eq_getElem hl]; exact hq
    rw [if_pos hc, e2]
    simp only [hc, and_self, decide_true, if_true, idx_int hc.1 hl, hq, Option.bind_some, bo_idx hqn, setI_nat hqn]
    obtain ⟨o, g1, g2, g3⟩ := refClosed_spec (o0 := (List.replicate S.length false).set q true) hN h hf (by simp)
    rw [g1]
    refine ⟨o, rfl, g2, fun j hj => ?_⟩
    rw [g3 j hj]
    have hb : ∀ k, bo ((List.replicate S.length false).set q true) k = (k == q) := fun k => by rw [bo_set hqn, hrep]; simp
    refine ⟨RchF.mono fun x hx => ?_, RchF.mono fun x hx => ?_⟩
    · obtain ⟨k, rfl, hk, h1⟩ := mem_lst.1 hx
      rw [hb] at h1
      have : k = q := by simpa using h1
      subst this; exact .base (by simp)
    · simp at hx; subst hx
      exact .base (mem_lst.2 ⟨q, rfl, by simpa using hqn, by rw [hb]; simp⟩)
  · rw [if_neg hc]
    simp only [hc, decide_false, Bool.false_eq_true, if_false, Option.bind_some]
    obtain ⟨o, g1, g2, g3⟩ := refClosed_spec (o0 := List.replicate S.length false) hN h hf (by simp)
    rw [g1]
    refine ⟨o, rfl, g2, fun j hj => ?_⟩
    rw [g3 j hj]
    refine ⟨RchF.mono fun x hx => ?_, fun hr => (rch_nil hr).elim⟩
    obtain ⟨k, rfl, hk, h1⟩ := mem_lst.1 hx
    rw [hrep] at h1; cases h1
end
end Go.Proofs.YtealkahefalaeaaGreatDoor
namespace Go.Proofs.YtealkahefalaeaaGreatDoor
open Go Go.Eng
def beg (entry : List Int) (cond : Int) : Int := if 0 ≤ cond ∧ cond < (entry.length : Int) then entry.getD cond.toNat 0 else 0
/-- bytes -/
def Byt (text : List Int) : Prop := ∀ c ∈ text, 0 ≤ c ∧ c < 256
theorem Byt.take {text : List Int} (h : Byt text) (k : Nat) : Byt (text.take k) := fun c hc => h c (List.mem_of_mem_take hc)
section
variable {N : Nat} {rows : List (List Int)} {rule entry : List Int}
theorem slc_drop {text : List Int} {fr : Int} (h0 : 0 ≤ fr) (h1 : fr ≤ text.length) : slc text fr (text.length : Int) = some (text.drop fr.toNat) := by
  unfold slc
  rw [if_pos ⟨h0, h1, by omega⟩]
  simp
end
end Go.Proofs.YtealkahefalaeaaGreatDoor
namespace Go.Proofs.YtealkahefalaeaaGreatDoor
open Go Go.Eng
theorem lrule_ge {S : List Stt} {E : List Int} (h : NRt S E) (f : Nat → Bool) : -1 ≤ lrule S f := by
  have hr : ∀ j, -1 ≤ rul S j := fun j => by
    unfold rul
    cases hx : S[j]? with
    | none => simp
    | some s => have := (h.rul s (List.mem_of_getElem? hx)).1; simpa using this
  have key : ∀ (l : List Nat) (a : Int), -1 ≤ a → -1 ≤ l.foldl (stepR S) a := by
    intro l
    induction l with
    | nil => intro a ha; exact ha
    | cons j l ih =>
      intro a ha
      rw [List.foldl_cons]
      apply ih
      unfold stepR
      split
      · exact hr j
      · exact ha
  exact key _ _ (by omega)
section
variable (N : Nat) (S : List Stt) (E : List Int) (cond : Int) (text : List Int)
/-- the document's states, the code's marks, the rules behind i bytes -/
def ost (i : Nat) : List Bool := (text.take i).foldl (fun o c => (F_dofferref16_Step N S E o c).getD []) ((F_dofferref16_Begin N S E cond).getD [])
def mst (i : Nat) : List Int := (text.take i).foldl (fun m c => (F_walk_walker_step N S E m (S.length : Int) c).getD []) ((F_walk_walker_begin N S E cond).getD [])
def rl (i : Nat) : Int := lrule S (bo (ost N S E cond text i))
end
section
variable {N : Nat} {S : List Stt} {E : List Int} {cond : Int} {text : List Int}
theorem ost_succ {i : Nat} {c : Int} (hc : text[i]? = some c) : ost N S E cond text (i + 1) = (F_dofferref16_Step N S E (ost N S E cond text i) c).getD [] := by
  unfold ost; rw [List.take_add_one, hc, List.foldl_append]; rfl
theorem mst_succ {i : Nat} {c : Int} (hc : text[i]? = some c) : mst N S E cond text (i + 1) = (F_walk_walker_step N S E (mst N S E cond text i) (S.length : Int) c).getD [] := by
  unfold mst; rw [List.take_add_one, hc, List.foldl_append]; rfl
structure Sim (N : Nat) (S : List Stt) (E : List Int) (cond : Int) (text : List Int) (i : Nat) : Prop where
  m : MkR S.length (mst N S E cond text i)
  hb : ∀ j, S.length ≤ j → has (mst N S E cond text i) j = false
  o : (ost N S E cond text i).length = S.length
  e : ∀ j, j < S.length → has (mst N S E cond text i) j = bo (ost N S E cond text i) j
theorem sims (hN : 4294967296 ≤ N) (h : NRt S E) (hf : ∀ s ∈ S, s.1.length ≤ 100) (hw : SetW S) (ht : Byt text) : ∀ i, i ≤ text.length → Sim N S E cond text i ∧ ∀ c, text[i]? = some c → F_walk_walker_step N S E (mst N S E cond text i) (S.length : Int) c = some (mst N S E cond text (i + 1)) ∧ F_dofferref16_Step N S E (ost N S E cond text i) c = some (ost N S E cond text (i + 1)) := by
  have hn1 := h.n1
  have hn2 := h.n2
  have next : ∀ i, Sim N S E cond text i → ∀ c, text[i]? = some c → (F_walk_walker_step N S E (mst N S E cond text i) (S.length : Int) c = some (mst N S E cond text (i + 1)) ∧ F_dofferref16_Step N S E (ost N S E cond text i) c = some (ost N S E cond text (i + 1))) ∧ Sim N S E cond text (i + 1) := by
    intro i hs c hc
    have hcb := ht c (List.mem_of_getElem? hc)
    obtain ⟨m', e1, e2, e3, e4⟩ := step_spec hN h hf hw hs.m (by omega) (by omega) (Nat.le_refl _) hs.hb hcb
    obtain ⟨o, f1, f2, f3⟩ := refStep_spec hN h hf hw hs.o hcb
    have hm : mst N S E cond text (i + 1) = m' := by rw [mst_succ hc, e1]; rfl
    have ho : ost N S E cond text (i + 1) = o := by rw [ost_succ hc, f1]; rfl
    refine ⟨⟨by rw [hm]; exact e1, by rw [ho]; exact f1⟩, by rw [hm]; exact e2, by rw [hm]; exact e3, by rw [ho]; exact f2, fun j hj => ?_⟩
    rw [hm, ho, Bool.eq_iff_iff, e4 j hj, f3 j hj, stepL_congr hs.e]
  intro i
  induction i with
  | zero =>
    intro _
    obtain ⟨m, e1, e2, e3, e4⟩ := wbegin_spec (cond := cond) hN h hf
    obtain ⟨o, f1, f2, f3⟩ := refBegin_spec (cond := cond) hN h hf
    have hm : mst N S E cond text 0 = m := by unfold mst; rw [e1]; rfl
    have ho : ost N S E cond text 0 = o := by unfold ost; rw [f1]; rfl
    have s0 : Sim N S E cond text 0 := ⟨by rw [hm]; exact e2, by rw [hm]; exact e3, by rw [ho]; exact f2, fun j hj => by rw [hm, ho, Bool.eq_iff_iff, e4 j hj, f3 j hj]⟩
    exact ⟨s0, fun c hc => (next 0 s0 c hc).1⟩
  | succ i ih =>
    intro hi
    have hc : text[i]? = some text[i] := List.getElem?_eq_getElem (by omega)
    have s1 := (next i (ih (by omega)).1 _ hc).2
    exact ⟨s1, fun c hc => (next (i + 1) s1 c hc).1⟩
theorem rule_at (hN : 4294967296 ≤ N) (h : NRt S E) {i : Nat} (hs : Sim N S E cond text i) : F_walk_walker_rule N S E (mst N S E cond text i) (S.length : Int) = some (rl N S E cond text i) := by
  have hn1 := h.n1
  have hn2 := h.n2
  rw [rule_spec hN hs.m (by omega) (by omega) (Nat.le_refl _) hs.hb, lrule_congr hs.e]
  rfl
theorem wtrace_ref (hN : 4294967296 ≤ N) (h : NRt S E) (hf : ∀ s ∈ S, s.1.length ≤ 100) (hw : SetW S) (ht : Byt text) (hl : text.length < 4000000000) : F_dofferref16_Trace N S E cond text = some ((List.range (text.length + 1)).map (rl N S E cond text)) := by
  obtain ⟨o, f1, f2, f3⟩ := refBegin_spec (cond := cond) hN h hf
  have ho : ost N S E cond text 0 = o := by unfold ost; rw [f1]; rfl
  have hr0 := refRule_spec hN h f2
  unfold F_dofferref16_Trace
  rw [f1]
  simp only [bind, Option.bind_some, hr0]
  obtain ⟨s, e1, e2, e3⟩ := loop_inv (f := fun s : Int × List Bool × List Int => F_dofferref16_Trace_l0 N S E text s.1 s.2.1 s.2.2) (fun i (s : List Bool × List Int) => ((i : Int), s.1, s.2)) (fun s => s.2) text (fun i s => s.1 = ost N S E cond text i ∧ s.2 = (List.range (i + 1)).map (rl N S E cond text)) (N := N) (s := (o, [lrule S (bo o)])) (by omega)
    ⟨ho.symm, by simp [rl, ho]⟩
    (fun i c s hc hI => by
      obtain ⟨s1, s2⟩ := s
      obtain ⟨k1, k2⟩ := hI
      simp only at k1 k2
      subst k1 k2
      have hi := lt_len hc
      obtain ⟨_, q2⟩ := (sims (cond := cond) hN h hf hw ht i (by omega)).2 c hc
      have hsn := (sims (cond := cond) hN h hf hw ht (i + 1) (by omega)).1
      refine ⟨(ost N S E cond text (i + 1), (List.range (i + 1 + 1)).map (rl N S E cond text)), ?_, rfl, rfl⟩
      unfold F_dofferref16_Trace_l0
      simp only [show ((i : Int) < (text.length : Int)) by omega, decide_true, if_true, idx_of hc, q2, refRule_spec hN h hsn.o, bind, Option.bind_some]
      rw [w64_succ (by omega), app_eq (by simp; omega)]
      simp [List.range_succ, rl])
    (fun s _ => by unfold F_dofferref16_Trace_l0; simp)
  rw [show iterO N (fun s : Int × List Bool × List Int => F_dofferref16_Trace_l0 N S E text s.1 s.2.1 s.2.2) (0, o, [lrule S (bo o)]) = _ from e1]
  simp [e3]
/-- the code's run, all along -/
theorem run_all {σ : Type} {Y : Int × Int → σ → Option (σ × Bool)} {ss : Nat → σ} (hN : 4294967296 ≤ N) (h : NRt S E) (hf : ∀ s ∈ S, s.1.length ≤ 100) (hw : SetW S) (ht : Byt text) (hl : text.length < 4000000000)
    (hY : ∀ i, i ≤ text.length → Y ((i : Int), rl N S E cond text i) (ss i) = some (ss (i + 1), true)) : F_walk_walker_run_1 N Y (ss 0) S E cond text = some (ss (text.length + 1), true) := by
  obtain ⟨m, e1, _⟩ := wbegin_spec (cond := cond) hN h hf
  have hm : mst N S E cond text 0 = m := by unfold mst; rw [e1]; rfl
  unfold F_walk_walker_run_1
  rw [e1, ← hm]
  simp only [bind, Option.bind_some]
  have := iterO_for0 (f := fun s : σ × List Int × Int => F_walk_walker_run_1_l0 N Y S E text s.1 s.2.1 s.2.2) (r := (ss (text.length + 1), true)) (fun i => (ss i, mst N S E cond text i, (i : Int))) text.length (s := (ss 0, mst N S E cond text 0, 0)) rfl (show text.length < N by omega)
    (fun i hi => by
      have hc : text[i]? = some text[i] := List.getElem?_eq_getElem hi
      obtain ⟨hs, hn⟩ := sims (cond := cond) hN h hf hw ht i (by omega)
      unfold F_walk_walker_run_1_l0
      simp only [rule_at hN h hs, hY i (by omega), bind, Option.bind_some, if_true, show ((i : Int) < (text.length : Int)) by omega, decide_true, idx_of hc, (hn _ hc).1]
      rw [w64_succ (by omega)])
    (by
      obtain ⟨hs, _⟩ := sims (cond := cond) hN h hf hw ht text.length (Nat.le_refl _)
      unfold F_walk_walker_run_1_l0
      simp only [rule_at hN h hs, hY text.length (Nat.le_refl _), bind, Option.bind_some, if_true]
      simp)
  rw [this]
  rfl
/-- .. as far as k -/
theorem run_cut {σ : Type} {Y : Int × Int → σ → Option (σ × Bool)} {ss : Nat → σ} {k : Nat} {z : σ} (hN : 4294967296 ≤ N) (h : NRt S E) (hf : ∀ s ∈ S, s.1.length ≤ 100) (hw : SetW S) (ht : Byt text) (hl : text.length < 4000000000) (hk : k ≤ text.length)
    (hY : ∀ i, i < k → Y ((i : Int), rl N S E cond text i) (ss i) = some (ss (i + 1), true)) (hz : Y ((k : Int), rl N S E cond text k) (ss k) = some (z, false)) : F_walk_walker_run_1 N Y (ss 0) S E cond text = some (z, false) := by
  obtain ⟨m, e1, _⟩ := wbegin_spec (cond := cond) hN h hf
  have hm : mst N S E cond text 0 = m := by unfold mst; rw [e1]; rfl
  unfold F_walk_walker_run_1
  rw [e1, ← hm]
  simp only [bind, Option.bind_some]
  have := iterO_for0 (f := fun s : σ × List Int × Int => F_walk_walker_run_1_l0 N Y S E text s.1 s.2.1 s.2.2) (r := (z, false)) (fun i => (ss i, mst N S E cond text i, (i : Int))) k (s := (ss 0, mst N S E cond text 0, 0)) rfl (show k < N by omega)
    (fun i hi => by
      have hc : text[i]? = some text[i] := List.getElem?_eq_getElem (by omega)
      obtain ⟨hs, hn⟩ := sims (cond := cond) hN h hf hw ht i (by omega)
      unfold F_walk_walker_run_1_l0
      simp only [rule_at hN h hs, hY i hi, bind, Option.bind_some, if_true, show ((i : Int) < (text.length : Int)) by omega, decide_true, idx_of hc, (hn _ hc).1]
      rw [w64_succ (by omega)])
    (by
      obtain ⟨hs, _⟩ := sims (cond := cond) hN h hf hw ht k hk
      unfold F_walk_walker_run_1_l0
      simp only [rule_at hN h hs, hz, bind, Option.bind_some]
      simp)
  rw [this]
  rfl
theorem wtrace_spec (hN : 4294967296 ≤ N) (hs : NSz S E) (h : NRt S E) (hf : ∀ s ∈ S, s.1.length ≤ 100) (hw : SetW S) (ht : Byt text) (hl : text.length < 4000000000) : F_walk_Trace N S E cond text = some ((List.range (text.length + 1)).map (rl N S E cond text)) := by
  have := run_all (cond := cond) (Y := fun x s => F_walk_Trace_r0 N x.1 x.2 s) (ss := fun i => (List.range i).map (rl N S E cond text)) hN h hf hw ht hl (fun i hi => by
    unfold F_walk_Trace_r0
    simp only
    rw [app_eq (by simp; omega)]
    simp [List.range_succ])
  unfold F_walk_Trace F_walk_walker_run
  rw [nfaRight_spec hN hs, (rtB_iff S E).2 h]
  simp only [bind, Option.bind_some, Bool.not_true, Bool.false_eq_true, if_false]
  rw [show ([] : List Int) = (List.range 0).map (rl N S E cond text) from rfl, this]
  rfl
theorem wrun_spec (hN : 4294967296 ≤ N) (hs : NSz S E) (h : NRt S E) (hf : ∀ s ∈ S, s.1.length ≤ 100) (hw : SetW S) (ht : Byt text) (hl : text.length < 4000000000) : F_walk_Run N S E cond text = some (rl N S E cond text text.length) := by
  unfold F_walk_Run
  rw [wtrace_spec hN hs h hf hw ht hl]
  simp only [bind, Option.bind_some]
  obtain ⟨s, e1, e2⟩ := loop_inv (f := fun s : Int × Int => F_walk_Run_l0 N ((List.range (text.length + 1)).map (rl N S E cond text)) s.1 s.2) (fun i (s : Int) => ((i : Int), s)) id ((List.range (text.length + 1)).map (rl N S E cond text)) (fun i s => 0 < i → s = rl N S E cond text (i - 1)) (N := N) (s := -1) (by simp; omega) (fun h => by omega)
    (fun i x s hx hI => by
      have hi := lt_len hx
      have hxi : x = rl N S E cond text i := by
        have hi' : i < text.length + 1 := by simpa using hi
        rw [List.getElem?_map, List.getElem?_range hi'] at hx
        exact (Option.some.inj hx).symm
      have hlen : ((List.range (text.length + 1)).map (rl N S E cond text)).length = text.length + 1 := by simp
      refine ⟨x, ?_, fun _ => by rw [hxi]; rfl⟩
      unfold F_walk_Run_l0
      simp only [show ((i : Int) < (((List.range (text.length + 1)).map (rl N S E cond text)).length : Int)) by omega, decide_true, if_true, idx_of hx, bind, Option.bind_some]
      rw [w64_succ (by omega)])
    (fun s _ => by unfold F_walk_Run_l0; simp)
  rw [show iterO N (fun s : Int × Int => F_walk_Run_l0 N ((List.range (text.length + 1)).map (rl N S E cond text)) s.1 s.2) (0, -1) = _ from e1]
  simp only [id, Option.bind_some]
  rw [e2 (by simp)]
  simp
/-- the best so far: the code's, the document's -/
def bw (r : Nat → Int) : Nat → Int × Int
  | 0 => (0, -1)
  | i + 1 => if (i : Int) > 0 ∧ r i ≠ -1 then ((i : Int), r i) else bw r i
def rw' (r : Nat → Int) (most : Int) : Nat → Int × Int
  | 0 => (0, -1)
  | i + 1 => if (i : Int) > 0 ∧ (i : Int) ≤ most ∧ r i ≥ 0 then ((i : Int), r i) else rw' r most i
theorem bw_rw {r : Nat → Int} {most : Int} (hr : ∀ i, -1 ≤ r i) : ∀ {k : Nat}, (∀ i, i < k → (i : Int) ≤ most) → bw r k = rw' r most k
  | 0, _ => rfl
  | k + 1, h => by
    unfold bw rw'
    rw [bw_rw hr (fun i hi => h i (by omega))]
    have h1 := h k (by omega)
    have h2 := hr k
    by_cases c : (k : Int) > 0 ∧ r k ≠ -1
    · rw [if_pos c, if_pos ⟨c.1, h1, by omega⟩]
    · rw [if_neg c, if_neg (by omega)]
theorem rw_stay {r : Nat → Int} {most : Int} {k : Nat} (hk : ∀ i, k ≤ i → ¬ (i : Int) ≤ most) : ∀ {j : Nat}, k ≤ j → rw' r most j = rw' r most k
  | 0, h => by obtain rfl : k = 0 := by omega
               rfl
  | j + 1, h => by
    by_cases e : k = j + 1
    · rw [e]
    · rw [rw', if_neg (by have := hk j (by omega); omega)]
      exact rw_stay hk (by omega)
theorem wlongest_spec {fr most : Int} (hN : 4294967296 ≤ N) (hs : NSz S E) (h : NRt S E) (hf : ∀ s ∈ S, s.1.length ≤ 100) (hw : SetW S) (ht : Byt text) (hl : text.length < 4000000000) (h0 : 0 ≤ fr) (h1 : fr ≤ text.length) :
    F_walk_Longest N S E cond text fr most = some (rw' (rl N S E cond (text.drop fr.toNat)) most ((text.drop fr.toNat).length + 1)) := by
  have hsl : slc text fr (text.length : Int) = some (text.drop fr.toNat) := slc_drop h0 h1
  unfold F_walk_Longest F_walk_walker_run
  rw [nfaRight_spec hN hs, (rtB_iff S E).2 h]
  simp only [show ¬ fr < 0 by omega, show ¬ fr > (text.length : Int) by omega, decide_false, Bool.false_eq_true, if_false, bind, Option.bind_some, hsl, Bool.not_true]
  have ht' : Byt (text.drop fr.toNat) := fun c hc => ht c (List.mem_of_mem_drop hc)
  have hl' : (text.drop fr.toNat).length < 4000000000 := by simp; omega
  generalize text.drop fr.toNat = tx at ht' hl'
  have hr : ∀ i, -1 ≤ rl N S E cond tx i := fun i => lrule_ge h _
  have hgo : ∀ i : Nat, (i : Int) ≤ most → YS (σ1 := (Int × Int)) (σ2 := (Int × Int)) (fun x s => F_walk_Longest_r0 N most x.1 x.2 s.1 s.2) ((i : Int), rl N S E cond tx i) (.inl (bw (rl N S E cond tx) i)) = some (.inl (bw (rl N S E cond tx) (i + 1)), true) := fun i hi => by
    unfold YS F_walk_Longest_r0
    simp only [show ¬ (i : Int) > most by omega, decide_false, Bool.false_eq_true, if_false, bind]
    rw [bw]
    by_cases c1 : 0 < i
    · by_cases c2 : rl N S E cond tx i = -1
      · simp [c1, c2]
      · have c3 : (rl N S E cond tx i != -1) = true := by simpa using c2
        simp [c1, c2, c3]
    · simp [c1]
  by_cases hm : (tx.length : Int) ≤ most
  · have := run_all (cond := cond) (Y := YS (σ1 := (Int × Int)) (σ2 := (Int × Int)) (fun x s => F_walk_Longest_r0 N most x.1 x.2 s.1 s.2)) (ss := fun i => .inl (bw (rl N S E cond tx) i)) hN h hf hw ht' hl' (fun i hi => hgo i (by omega))
    rw [show (Sum.inl (0, -1) : (Int × Int) ⊕ (Int × Int)) = .inl (bw (rl N S E cond tx) 0) from rfl, this, bw_rw (k := tx.length + 1) (most := most) hr (fun i hi => by omega)]
    rfl
  · obtain ⟨k, hk1, hk2, hk3⟩ : ∃ k : Nat, k ≤ tx.length ∧ (k : Int) > most ∧ ∀ i, i < k → (i : Int) ≤ most := ⟨(most + 1).toNat, by omega, by omega, fun i hi => by omega⟩
    have := run_cut (cond := cond) (Y := YS (σ1 := (Int × Int)) (σ2 := (Int × Int)) (fun x s => F_walk_Longest_r0 N most x.1 x.2 s.1 s.2)) (ss := fun i => .inl (bw (rl N S E cond tx) i)) (k := k) (z := .inr (bw (rl N S E cond tx) k)) hN h hf hw ht' hl' hk1 (fun i hi => hgo i (hk3 i hi)) (by
      unfold YS F_walk_Longest_r0
      simp [hk2])
    rw [show (Sum.inl (0, -1) : (Int × Int) ⊕ (Int × Int)) = .inl (bw (rl N S E cond tx) 0) from rfl, this, bw_rw hr hk3, rw_stay (k := k) (j := tx.length + 1) (fun i hi => by omega) (by omega)]
    rfl
theorem walkRuns_true {fr most : Int} (hw : SetW S) (ht : Byt text) : ∃ N, F_dofferlaw16_WalkRuns N S E text cond fr most = some true := by
  refine ⟨4294967296, ?_⟩
  generalize hM : (4294967296 : Nat) = N
  have hN : 4294967296 ≤ N := by omega
  unfold F_dofferlaw16_WalkRuns
  obtain ⟨⟨p1, p2⟩, hof, hofp⟩ := of15_spec (S := S) (E := E) (m := 40) hN (by omega)
  rw [hof]
  simp only [bind, Option.bind_some]
  cases p2 with
  | false => simp
  | true =>
    obtain ⟨rfl, hn40, hE20, hf⟩ := hofp rfl
    simp only at hn40
    by_cases hlt : (text.length : Int) > 30
    · simp [hlt]
    have hs : NSz p1 E := ⟨by omega, by omega, fun s hs => by have := hf s hs; omega⟩
    simp only [hlt, decide_false, Bool.not_true, Bool.false_eq_true, if_false, Option.bind_some, nrefRight_spec hN hs]
    cases hR : rtB p1 E with
    | false =>
      have hlg : F_walk_Longest N p1 E cond text fr most = some (0, -1) := by
        unfold F_walk_Longest
        rw [nfaRight_spec hN hs, hR]
        by_cases c1 : fr < 0
        · simp [c1]
        · by_cases c2 : fr > (text.length : Int) <;> simp [c1, c2]
      simp [hlg]
    | true =>
      have h := (rtB_iff p1 E).1 hR
      have hl : text.length < 4000000000 := by omega
      have hlen : ((List.range (text.length + 1)).map (rl N p1 E cond text)).length = text.length + 1 := by simp
      have hsame := sameInts_spec (N := N) (a := (List.range (text.length + 1)).map (rl N p1 E cond text)) (b := (List.range (text.length + 1)).map (rl N p1 E cond text)) hN (by rw [hlen]; omega)
      have iL : idx ((List.range (text.length + 1)).map (rl N p1 E cond text)) (w64 ((((List.range (text.length + 1)).map (rl N p1 E cond text)).length : Int) - 1)) = some (rl N p1 E cond text text.length) := by
        rw [hlen, show (((text.length + 1 : Nat) : Int) - 1) = (text.length : Int) by omega, w64, wrap64 (by omega) (by omega)]
        exact idx_of (by rw [List.getElem?_map, List.getElem?_range (by omega)]; rfl)
      obtain ⟨⟨q1, q2⟩, hq, hq'⟩ : ∃ q : Int × Int, F_walk_Longest N p1 E cond text fr most = some q ∧ ((if decide (fr ≥ 0) = true then some (decide (fr ≤ (text.length : Int))) else some false : Option Bool).bind fun x798 =>
          (if x798 = true then (slc text fr (text.length : Int)).bind fun x1090 => (F_dofferref16_Trace N p1 E cond x1090).bind fun x1099 => (iterO N (fun s => F_dofferlaw16_WalkRuns_l0 N most x1099 s.1 s.2.1 s.2.2) (0, -1, 0)).bind fun x => some (x.1, x.2) else some (0, -1) : Option (Int × Int))) = some q := by
        by_cases c : 0 ≤ fr ∧ fr ≤ (text.length : Int)
        · have ht' : Byt (text.drop fr.toNat) := fun c hc => ht c (List.mem_of_mem_drop hc)
          have hl' : (text.drop fr.toNat).length < 4000000000 := by simp; omega
          refine ⟨_, wlongest_spec hN hs h hf hw ht hl c.1 c.2, ?_⟩
          have e : ((if decide (fr ≥ 0) = true then some (decide (fr ≤ (text.length : Int))) else some false) : Option Bool) = some true := by
            have c1 : fr ≥ 0 := c.1
            have c2 := c.2
            simp [c1, c2]
          rw [e, Option.bind_some, if_pos rfl, slc_drop c.1 c.2, Option.bind_some, wtrace_ref hN h hf hw ht' hl', Option.bind_some]
          generalize text.drop fr.toNat = tx at ht' hl'
          have hr : ∀ i, -1 ≤ rl N p1 E cond tx i := fun i => lrule_ge h _
          obtain ⟨s, e1, e2⟩ := loop_inv (f := fun s : Int × Int × Int => F_dofferlaw16_WalkRuns_l0 N most ((List.range (tx.length + 1)).map (rl N p1 E cond tx)) s.1 s.2.1 s.2.2) (fun i (s : Int × Int) => (s.1, s.2, (i : Int))) (fun s => s) ((List.range (tx.length + 1)).map (rl N p1 E cond tx)) (fun i s => s = rw' (rl N p1 E cond tx) most i) (N := N) (s := (0, -1)) (by simp; omega) rfl
            (fun i x s hx hI => by
              subst hI
              have hi := lt_len hx
              have hi' : i < tx.length + 1 := by simpa using hi
              have hxi : x = rl N p1 E cond tx i := by
                rw [List.getElem?_map, List.getElem?_range hi'] at hx
                exact (Option.some.inj hx).symm
              have hlen : ((List.range (tx.length + 1)).map (rl N p1 E cond tx)).length = tx.length + 1 := by simp
              refine ⟨rw' (rl N p1 E cond tx) most (i + 1), ?_, rfl⟩
              unfold F_dofferlaw16_WalkRuns_l0
              simp only [show ((i : Int) < (((List.range (tx.length + 1)).map (rl N p1 E cond tx)).length : Int)) by omega, decide_true, if_true, idx_of hx, bind, Option.bind_some, hxi]
              rw [w64_succ (by omega), rw']
              by_cases c1 : 0 < i
              · by_cases c2 : (i : Int) ≤ most
                · by_cases c3 : rl N p1 E cond tx i ≥ 0
                  · simp [c1, c2, c3]
                  · simp [c1, c2, c3]
                · simp [c1, c2]
              · simp [c1])
            (fun s _ => by unfold F_dofferlaw16_WalkRuns_l0; simp)
          rw [show iterO N (fun s : Int × Int × Int => F_dofferlaw16_WalkRuns_l0 N most ((List.range (tx.length + 1)).map (rl N p1 E cond tx)) s.1 s.2.1 s.2.2) (0, -1, 0) = _ from e1]
          simp [e2]
        · refine ⟨(0, -1), ?_, ?_⟩
          · unfold F_walk_Longest
            by_cases c1 : fr < 0
            · simp [c1]
            · have c2 : fr > (text.length : Int) := by omega
              simp [c1, c2]
          · have e : ((if decide (fr ≥ 0) = true then some (decide (fr ≤ (text.length : Int))) else some false) : Option Bool) = some false := by
              by_cases c1 : fr ≥ 0
              · have c2 : ¬ fr ≤ (text.length : Int) := by omega
                simp [c1, c2]
              · simp [c1]
            rw [e]; rfl
      simp only [hq, Option.bind_some, Bool.not_true, Bool.false_eq_true, if_false, wtrace_ref hN h hf hw ht hl, wtrace_spec hN hs h hf hw ht hl, hsame, decide_true, iL, wrun_spec hN hs h hf hw ht hl, bne_self_eq_false]
      have key := congrArg (fun o : Option (Int × Int) => o.bind fun x => (if (q1 == x.1) = true then some (q2 == x.2) else some false).bind fun y => some y) hq'
      simp only [Option.bind_assoc] at key
      refine Eq.trans ?_ (key.trans (by simp))
      rfl
end
end Go.Proofs.YtealkahefalaeaaGreatDoor
