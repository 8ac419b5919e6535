/-
  PLAIN LEAN, no program in sight: what the pure functions answer.
-/
import Derived.Test.YtealkahefalaeaaGreatDoorNfaBytesD1
import Derived.Test.YtealkahefalaeaaGreatDoorProg
namespace Go.Proofs.YtealkahefalaeaaGreatDoor
open Go Go.Shelf
def sortSets_ren : Go.Shelf.Ren := ⟨fun | 6 => 91 | 15 => 136 | 14 => 135 | 28 => 167 | 29 => 168 | 20 => 159 | 21 => 160 | 22 => 161 | 23 => 162 | 24 => 163 | 25 => 164 | 26 => 165 | 27 => 166 | 46 => 192 | 47 => 193 | 48 => 194 | 49 => 195 | 50 => 196 | 57 => 228 | n => n, fun | 22 => 72 | 24 => 39 | 25 => 154 | 3 => 3 | 39 => 143 | 0 => 0 | 53 => 269 | 55 => 37 | 4 => 4 | 46 => 263 | 45 => 262 | 50 => 225 | 5 => 5 | 9 => 9 | 66 => 303 | 70 => 307 | 76 => 337 | 77 => 44 | n => n, fun | n => n⟩
theorem sortSets : Go.Proofs.SlLaysF0.n6 Tryz.prog sortSets_ren := {
  mixed := by kernel_rfl
  f6 := ⟨Tryz.f91.name, by decide, Tryz.func91.trans (congrArg some (by kernel_rfl))⟩
  f14 := ⟨Tryz.f135.name, by decide, Tryz.func135.trans (congrArg some (by kernel_rfl))⟩
  f15 := Tryz.func136.trans (congrArg some (by kernel_rfl))
  f20 := ⟨Tryz.f159.name, by decide, Tryz.func159.trans (congrArg some (by kernel_rfl))⟩
  f21 := ⟨Tryz.f160.name, by decide, Tryz.func160.trans (congrArg some (by kernel_rfl))⟩
  f22 := ⟨Tryz.f161.name, by decide, Tryz.func161.trans (congrArg some (by kernel_rfl))⟩
  f23 := ⟨Tryz.f162.name, by decide, Tryz.func162.trans (congrArg some (by kernel_rfl))⟩
  f24 := ⟨Tryz.f163.name, by decide, Tryz.func163.trans (congrArg some (by kernel_rfl))⟩
  f25 := ⟨Tryz.f164.name, by decide, Tryz.func164.trans (congrArg some (by kernel_rfl))⟩
  f26 := ⟨Tryz.f165.name, by decide, Tryz.func165.trans (congrArg some (by kernel_rfl))⟩
  f27 := ⟨Tryz.f166.name, by decide, Tryz.func166.trans (congrArg some (by kernel_rfl))⟩
  f28 := Tryz.func167.trans (congrArg some (by kernel_rfl))
  f29 := Tryz.func168.trans (congrArg some (by kernel_rfl))
  f46 := ⟨Tryz.f192.name, by decide, Tryz.func192.trans (congrArg some (by kernel_rfl))⟩
  f47 := Tryz.func193.trans (congrArg some (by kernel_rfl))
  f48 := Tryz.func194.trans (congrArg some (by kernel_rfl))
  f49 := ⟨Tryz.f195.name, by decide, Tryz.func195.trans (congrArg some (by kernel_rfl))⟩
  f50 := ⟨Tryz.f196.name, by decide, Tryz.func196.trans (congrArg some (by kernel_rfl))⟩
  f57 := ⟨Tryz.f228.name, by decide, Tryz.func228.trans (congrArg some (by kernel_rfl))⟩
  t0 := Tryz.underlying0
  a0 := Tryz.isAgg0
  z0 := Tryz.sizeOf0
  v0 := Tryz.zeroValue0
  t3 := Tryz.underlying3
  a3 := Tryz.isAgg3
  z3 := Tryz.sizeOf3
  v3 := Tryz.zeroValue3
  t4 := Tryz.underlying4
  a4 := Tryz.isAgg4
  z4 := Tryz.sizeOf4
  v4 := Tryz.zeroValue4
  t5 := Tryz.underlying5
  a5 := Tryz.isAgg5
  z5 := Tryz.sizeOf5
  v5 := Tryz.zeroValue5
  t9 := Tryz.underlying9
  a9 := Tryz.isAgg9
  z9 := Tryz.sizeOf9
  v9 := Tryz.zeroValue9
  t22 := Tryz.underlying72
  a22 := Tryz.isAgg72
  z22 := Tryz.sizeOf72
  v22 := Tryz.zeroValue72
  t25 := Tryz.underlying154
  a25 := Tryz.isAgg154
  z25 := Tryz.sizeOf154
  v25 := Tryz.zeroValue154
  t39 := Tryz.underlying143
  a39 := Tryz.isAgg143
  z39 := Tryz.sizeOf143
  v39 := Tryz.zeroValue143
  t45 := Tryz.underlying262
  a45 := Tryz.isAgg262
  z45 := Tryz.sizeOf262
  v45 := Tryz.zeroValue262
  t46 := Tryz.underlying263
  a46 := Tryz.isAgg263
  z46 := Tryz.sizeOf263
  v46 := Tryz.zeroValue263
  t50 := Tryz.underlying225
  a50 := Tryz.isAgg225
  z50 := Tryz.sizeOf225
  v50 := Tryz.zeroValue225
  t53 := Tryz.underlying269
  a53 := Tryz.isAgg269
  z53 := Tryz.sizeOf269
  v53 := Tryz.zeroValue269
  t55 := Tryz.underlying37
  a55 := Tryz.isAgg37
  z55 := Tryz.sizeOf37
  v55 := Tryz.zeroValue37
  t66 := Tryz.underlying303
  a66 := Tryz.isAgg303
  z66 := Tryz.sizeOf303
  v66 := Tryz.zeroValue303
  t70 := Tryz.underlying307
  a70 := Tryz.isAgg307
  z70 := Tryz.sizeOf307
  v70 := Tryz.zeroValue307
  t76 := Tryz.underlying337
  a76 := Tryz.isAgg337
  z76 := Tryz.sizeOf337
  v76 := Tryz.zeroValue337
  t77 := Tryz.underlying44
  a77 := Tryz.isAgg44
  z77 := Tryz.sizeOf44
  v77 := Tryz.zeroValue44 }
end Go.Proofs.YtealkahefalaeaaGreatDoor
namespace Go.Proofs.YtealkahefalaeaaGreatDoor
open Go Go.Eng Go.Cr
set_option maxRecDepth 100000
theorem runX : XOk Tryz.prog ⟨261, 282, 1000000, 0⟩ := ⟨⟨_, Tryz.func261, by kernel_rfl, by kernel_rfl, by kernel_rfl, by kernel_rfl⟩, ⟨_, Tryz.func282, by kernel_rfl, by kernel_rfl, by kernel_rfl, by kernel_rfl⟩, .inl (by kernel_rfl)⟩
theorem runM : Tryz.prog.follows .mixedOrders = true := by kernel_rfl
end Go.Proofs.YtealkahefalaeaaGreatDoor
namespace Go.Proofs.YtealkahefalaeaaGreatDoor
open Go Go.Eng Go.Cr
set_option maxRecDepth 100000
theorem run15 : isTrue (run Tryz.prog ⟨261, 282, 1000000, 0⟩ 1000 (.f 15 []) [] ⟨.nil, 1000⟩) = true := by kernel_rfl
theorem runC15 : RunC Tryz.prog 15 (fun _ => True) := runC0 runX runM run15 ⟨_, _, Tryz.func15, by kernel_rfl, rfl⟩
end Go.Proofs.YtealkahefalaeaaGreatDoor
namespace Go.Eng
open Go
theorem iterO_for {σ τ : Type} {f : σ → Option (σ ⊕ τ)} {r : τ} (st : Nat → σ) : ∀ (n : Nat) {N k : Nat}, n < N → (∀ i, k ≤ i → i < k + n → f (st i) = some (.inl (st (i + 1)))) → f (st (k + n)) = some (.inr r) → iterO N f (st k) = some r
  | 0, 0, _, h, _, _ => absurd h (Nat.not_lt_zero _)
  | 0, N + 1, k, _, _, he => by simp only [iterO]; rw [show f (st k) = _ from he]
  | n + 1, 0, _, h, _, _ => absurd h (Nat.not_lt_zero _)
  | n + 1, N + 1, k, h, hs, he => by
    simp only [iterO]
    rw [hs k (Nat.le_refl _) (by omega)]
    exact iterO_for st n (by omega) (fun i h1 h2 => hs i (by omega) (by omega)) (by rw [show k + 1 + n = k + (n + 1) by omega]; exact he)
theorem iterO_for0 {σ τ : Type} {f : σ → Option (σ ⊕ τ)} {r : τ} {s : σ} (st : Nat → σ) (n : Nat) {N : Nat} (h0 : st 0 = s) (hN : n < N) (hs : ∀ i, i < n → f (st i) = some (.inl (st (i + 1)))) (he : f (st n) = some (.inr r)) : iterO N f s = some r := by
  subst h0
  exact iterO_for st n hN (fun i _ h => hs i (by omega)) (by rw [Nat.zero_add]; exact he)
theorem iterO_while {σ τ : Type} {f : σ → Option (σ ⊕ τ)} (I : σ → Prop) (μ : σ → Nat) (Q : τ → Prop) (step : ∀ s, I s → (∃ s', f s = some (.inl s') ∧ I s' ∧ μ s' < μ s) ∨ ∃ r, f s = some (.inr r) ∧ Q r) :
    ∀ {N : Nat} {s : σ}, I s → μ s < N → ∃ r, iterO N f s = some r ∧ Q r
  | 0, _, _, h => absurd h (Nat.not_lt_zero _)
  | N + 1, s, hI, h => by
    rcases step s hI with ⟨s', h1, h2, h3⟩ | ⟨r, h1, h2⟩
    · obtain ⟨r, h4, h5⟩ := iterO_while I μ Q step (N := N) h2 (by omega)
      exact ⟨r, by simp only [iterO, h1]; exact h4, h5⟩
    · exact ⟨r, by simp only [iterO, h1], h2⟩
theorem wrap64 {x : Int} (h1 : -9223372036854775808 ≤ x) (h2 : x ≤ 9223372036854775807) : IntKind.wrap .i64 x = x := by
  simp only [IntKind.wrap, IntKind.signed, IntKind.bits]
  simp
  omega
theorem wrapU64 {x : Int} (h1 : 0 ≤ x) (h2 : x ≤ 18446744073709551615) : IntKind.wrap .u64 x = x := by
  simp only [IntKind.wrap, IntKind.signed, IntKind.bits]
  simp
  omega
theorem w64_succ {n : Nat} (h : n < 9223372036854775807) : w64 ((n : Int) + 1) = ((n + 1 : Nat) : Int) := by
  rw [w64, wrap64] <;> omega
theorem idx_of {α : Type} {xs : List α} {i : Nat} {x : α} (h : xs[i]? = some x) : idx xs (i : Int) = some x := by simp [idx, h]
theorem setI_nat {α : Type} {xs : List α} {i : Nat} {x : α} (h : i < xs.length) : setI xs (i : Int) x = some (xs.set i x) := by simp [setI, h]
theorem app_eq {α : Type} {xs ys : List α} (h : xs.length + ys.length ≤ 4294967296) : app xs ys = some (xs ++ ys) := by simp [app, h]
theorem mk_eq {α : Type} {z : α} {n : Nat} (h : n ≤ 4294967296) : mk z (n : Int) = some (List.replicate n z) := by
  simp [mk]; omega
/-- a loop over xs that leaves with g at the first element that p fits -/
theorem loop_find {α τ : Type} {f : Int → Option (Int ⊕ (Unit ⊕ τ))} (xs : List α) (p : α → Bool) (g : Nat → τ) {N : Nat} (hN : xs.length < N)
    (hb : ∀ (i : Nat) (x : α), xs[i]? = some x → f (i : Int) = if p x then some (.inr (.inr (g i))) else some (.inl ((i + 1 : Nat) : Int))) (he : f (xs.length : Int) = some (.inr (.inl ()))) :
    iterO N f 0 = some (match xs.findIdx? p with | some i => .inr (g i) | none => .inl ()) := by
  cases h : xs.findIdx? p with
  | none =>
    have h' := List.findIdx?_eq_none_iff.1 h
    refine iterO_for0 (fun i => (i : Int)) xs.length rfl hN (fun i hi => ?_) he
    rw [hb i xs[i] (List.getElem?_eq_getElem hi), h' _ (List.getElem_mem hi)]
    simp
  | some k =>
    obtain ⟨hk, hp, hlt⟩ := List.findIdx?_eq_some_iff_getElem.1 h
    refine iterO_for0 (fun i => (i : Int)) k rfl (by omega) (fun i hi => ?_) ?_
    · rw [hb i _ (List.getElem?_eq_getElem (by omega))]
      have := hlt i hi
      simp [this]
    · rw [hb k _ (List.getElem?_eq_getElem hk)]
      simp [hp]
/-- .. that leaves with b -/
theorem loop_any {α τ : Type} {f : Int → Option (Int ⊕ (Unit ⊕ τ))} (xs : List α) (p : α → Bool) (b : τ) {N : Nat} (hN : xs.length < N)
    (hb : ∀ (i : Nat) (x : α), xs[i]? = some x → f (i : Int) = if p x then some (.inr (.inr b)) else some (.inl ((i + 1 : Nat) : Int))) (he : f (xs.length : Int) = some (.inr (.inl ()))) :
    iterO N f 0 = some (if xs.any p then .inr b else .inl ()) := by
  rw [loop_find xs p (fun _ => b) hN hb he]
  cases h : xs.findIdx? p with
  | none =>
    have h' := List.findIdx?_eq_none_iff.1 h
    have : xs.any p = false := by rw [List.any_eq_false]; intro x hx; rw [h' x hx]; simp
    simp [this]
  | some k =>
    obtain ⟨hk, hp, hlt⟩ := List.findIdx?_eq_some_iff_getElem.1 h
    have : xs.any p = true := List.any_eq_true.2 ⟨_, List.getElem_mem hk, hp⟩
    simp [this]
/-- a loop over xs that folds -/
theorem loop_fold {α σ τ : Type} {ι : Type} {f : ι → Option (ι ⊕ τ)} (st : Nat → σ → ι) (out : σ → τ) (xs : List α) (step : σ → α → σ) (I : Nat → σ → Prop) {N : Nat} {s : σ} (hN : xs.length < N)
    (hI : I 0 s) (hb : ∀ (i : Nat) (x : α) (s : σ), xs[i]? = some x → I i s → f (st i s) = some (.inl (st (i + 1) (step s x))) ∧ I (i + 1) (step s x)) (he : ∀ s, I xs.length s → f (st xs.length s) = some (.inr (out s))) :
    iterO N f (st 0 s) = some (out (xs.foldl step s)) := by
  have hI' : ∀ i, i ≤ xs.length → I i ((xs.take i).foldl step s) := by
    intro i
    induction i with
    | zero => intro _; simpa using hI
    | succ i ih =>
      intro hi
      have hx : xs[i]? = some xs[i] := List.getElem?_eq_getElem (by omega)
      rw [List.take_add_one, hx, List.foldl_append]
      exact (hb i _ _ hx (ih (by omega))).2
  refine iterO_for0 (fun i => st i ((xs.take i).foldl step s)) xs.length (by simp) hN (fun i hi => ?_) ?_
  · have hx : xs[i]? = some xs[i] := List.getElem?_eq_getElem hi
    rw [(hb i _ _ hx (hI' i (by omega))).1, List.take_add_one, hx, List.foldl_append]
    rfl
  · have := he _ (hI' _ (Nat.le_refl _))
    rw [List.take_length] at this
    simp only [List.take_length]
    exact this
/-- a loop over xs, by an invariant -/
theorem loop_inv {α σ τ ι : Type} {f : ι → Option (ι ⊕ τ)} (st : Nat → σ → ι) (out : σ → τ) (xs : List α) (I : Nat → σ → Prop) {N : Nat} {s : σ} (hN : xs.length < N)
    (hI : I 0 s) (hb : ∀ (i : Nat) (x : α) (s : σ), xs[i]? = some x → I i s → ∃ s', f (st i s) = some (.inl (st (i + 1) s')) ∧ I (i + 1) s') (he : ∀ s, I xs.length s → f (st xs.length s) = some (.inr (out s))) :
    ∃ s', iterO N f (st 0 s) = some (out s') ∧ I xs.length s' := by
  have key : ∀ (k i : Nat) (s : σ) (M : Nat), i + k = xs.length → k < M → I i s → ∃ s', iterO M f (st i s) = some (out s') ∧ I xs.length s' := by
    intro k
    induction k with
    | zero =>
      intro i s M hi hM h
      obtain ⟨M, rfl⟩ : ∃ m, M = m + 1 := ⟨M - 1, by omega⟩
      obtain rfl : i = xs.length := by omega
      exact ⟨s, by simp only [iterO]; rw [he s h], h⟩
    | succ k ih =>
      intro i s M hi hM h
      obtain ⟨M, rfl⟩ : ∃ m, M = m + 1 := ⟨M - 1, by omega⟩
      obtain ⟨s', h1, h2⟩ := hb i _ s (List.getElem?_eq_getElem (by omega)) h
      obtain ⟨s'', h3, h4⟩ := ih (i + 1) s' M (by omega) (by omega) h2
      exact ⟨s'', by simp only [iterO]; rw [h1]; exact h3, h4⟩
  exact key xs.length 0 s N (by omega) hN hI
end Go.Eng
namespace Go.Proofs.YtealkahefalaeaaGreatDoor
open Go Go.Eng
theorem lt_len {α : Type} {xs : List α} {i : Nat} {x : α} (h : xs[i]? = some x) : i < xs.length := (List.getElem?_eq_some_iff.1 h).1
end Go.Proofs.YtealkahefalaeaaGreatDoor
namespace Go.Proofs.YtealkahefalaeaaGreatDoor
open Go Go.Eng
theorem range_get {n i x : Nat} (h : (List.range n)[i]? = some x) : i < n ∧ x = i := by
  have hl := lt_len h
  simp at hl
  rw [List.getElem?_range hl] at h
  exact ⟨hl, (Option.some.inj h).symm⟩
end Go.Proofs.YtealkahefalaeaaGreatDoor
namespace Go.Proofs.YtealkahefalaeaaGreatDoor
open Go Go.Eng
theorem iand_u64 {a b : Nat} (ha : a < 18446744073709551616) (hb : b < 18446744073709551616) : iand .u64 (a : Int) (b : Int) = ((a &&& b : Nat) : Int) := by
  have h : a &&& b < 18446744073709551616 := Nat.and_lt_two_pow (n := 64) _ hb
  show IntKind.wrap .u64 ((BitVec.ofInt 64 (a : Int) &&& BitVec.ofInt 64 (b : Int)).toNat : Int) = _
  rw [BitVec.ofInt_natCast, BitVec.ofInt_natCast, BitVec.toNat_and, BitVec.toNat_ofNat, BitVec.toNat_ofNat, Nat.mod_eq_of_lt ha, Nat.mod_eq_of_lt hb, wrapU64] <;> omega
theorem shl_one {k : Nat} (h : k < 64) : shlI .u64 1 (k : Int) = ((2 ^ k : Nat) : Int) := by
  have h1 : (2 : Nat) ^ k ≤ 2 ^ 63 := Nat.pow_le_pow_right (by omega) (by omega)
  have h2 : (2 : Nat) ^ 63 = 9223372036854775808 := by decide
  simp only [shlI, IntKind.bits, Int.toNat_natCast, Nat.min_eq_left (show k ≤ 64 by omega), Int.one_mul]
  have e : ((2 : Int) ^ k) = ((2 ^ k : Nat) : Int) := by simp
  rw [e]
  generalize 2 ^ k = p at *
  rw [wrapU64] <;> omega
/-- bit i -/
def has (m : List Int) (i : Nat) : Bool := (m.getD (i / 64) 0).toNat.testBit (i % 64)
end Go.Proofs.YtealkahefalaeaaGreatDoor
namespace Go.Proofs.YtealkahefalaeaaGreatDoor
open Go Go.Eng
theorem shr_u64 {a : Nat} {k : Nat} (hk : k < 64) : shrI .u64 (a : Int) (k : Int) = ((a / 2 ^ k : Nat) : Int) := by
  simp only [shrI, IntKind.bits, Int.toNat_natCast, Nat.min_eq_left (show k ≤ 64 by omega)]
  rw [Int.fdiv_eq_ediv_of_nonneg _ (Int.le_of_lt (Int.pow_pos (by decide)))]
  push_cast
  rfl
theorem wrapN {a : Nat} (h : a < 18446744073709551616) : IntKind.wrap .u64 (a : Int) = (a : Int) := by rw [wrapU64] <;> omega
theorem low_bit : ∀ {x : Nat}, x ≠ 0 → ∃ k, x.testBit k = true ∧ ∀ j, j < k → x.testBit j = false := by
  intro x hx
  obtain ⟨i, hi⟩ := Nat.exists_testBit_of_ne_zero hx
  induction i using Nat.strongRecOn with
  | ind i ih =>
    by_cases h : ∃ j, j < i ∧ x.testBit j = true
    · obtain ⟨j, hj, hb⟩ := h
      exact ih j hj hb
    · refine ⟨i, hi, fun j hj => ?_⟩
      cases hb : x.testBit j with
      | false => rfl
      | true => exact absurd ⟨j, hj, hb⟩ h
theorem low_shape {x k : Nat} (h1 : x.testBit k = true) (h2 : ∀ j, j < k → x.testBit j = false) : ∃ q, x = 2 ^ k * (2 * q + 1) := by
  have hm : x % 2 ^ k = 0 := by
    apply Nat.eq_of_testBit_eq
    intro j
    rw [Nat.testBit_mod_two_pow, Nat.zero_testBit]
    by_cases hj : j < k
    · simp [h2 j hj]
    · simp [hj]
  have ho : x / 2 ^ k % 2 = 1 := by
    rw [Nat.testBit_eq_decide_div_mod_eq] at h1
    simpa using h1
  refine ⟨x / 2 ^ k / 2, ?_⟩
  have e1 : 2 * (x / 2 ^ k / 2) + 1 = x / 2 ^ k := by omega
  rw [e1]
  have := Nat.div_add_mod x (2 ^ k)
  omega
theorem and_neg {x k : Nat} (hx : x < 18446744073709551616) (h1 : x.testBit k = true) (h2 : ∀ j, j < k → x.testBit j = false) : x &&& (18446744073709551616 - x) = 2 ^ k := by
  obtain ⟨q, hq⟩ := low_shape h1 h2
  have hp : 0 < 2 ^ k := Nat.pow_pos (by omega)
  have hpos : 0 < x := by rw [hq]; exact Nat.mul_pos hp (by omega)
  have hk : k < 64 := by
    apply Nat.lt_of_not_le
    intro h
    have := Nat.testBit_lt_two_pow (x := x) (i := k) (Nat.lt_of_lt_of_le hx (by
      have := Nat.pow_le_pow_right (n := 2) (by omega) h
      have e : (2 : Nat) ^ 64 = 18446744073709551616 := by decide
      omega))
    rw [this] at h1; cases h1
  have hy : x - 1 = 2 ^ k * (2 * q) + (2 ^ k - 1) := by
    rw [hq, Nat.mul_add, Nat.mul_one]; omega
  have hx' : x = 2 ^ k * (2 * q + 1) + 0 := by rw [hq]; rfl
  have e64 : (18446744073709551616 : Nat) - x = 2 ^ 64 - ((x - 1) + 1) := by
    have e : (2 : Nat) ^ 64 = 18446744073709551616 := by decide
    omega
  rw [e64]
  apply Nat.eq_of_testBit_eq
  intro i
  rw [Nat.testBit_and, Nat.testBit_two_pow_sub_succ (by have e : (2 : Nat) ^ 64 = 18446744073709551616 := by decide
                                                        omega), Nat.testBit_two_pow]
  by_cases hi : i < k
  · rw [h2 i hi]
    have : ¬ k = i := by omega
    simp [this]
  · have ey : (x - 1).testBit i = (2 * q).testBit (i - k) := by
      rw [hy, Nat.testBit_two_pow_mul_add _ (by omega), if_neg hi]
    have ex : x.testBit i = (2 * q + 1).testBit (i - k) := by
      rw [hx', Nat.testBit_two_pow_mul_add _ hp, if_neg hi]
    rw [ex, ey]
    by_cases hik : i = k
    · subst hik
      have : i < 64 := hk
      simp [this, Nat.testBit_zero]
    · obtain ⟨j, hj⟩ : ∃ j, i - k = j + 1 := ⟨i - k - 1, by omega⟩
      have hne : ¬ k = i := by omega
      rw [hj, Nat.testBit_succ, Nat.testBit_succ]
      have e1 : (2 * q + 1) / 2 = q := by omega
      have e2 : 2 * q / 2 = q := by omega
      rw [e1, e2]
      have h64 : q.testBit j = true → i < 64 := fun h => by
        apply Nat.lt_of_not_le
        intro hge
        have e : (2 : Nat) ^ 64 = 18446744073709551616 := by decide
        have hxi := Nat.testBit_lt_two_pow (x := x) (i := i) (Nat.lt_of_lt_of_le hx (by
          have := Nat.pow_le_pow_right (n := 2) (by omega) hge
          omega))
        rw [ex, hj, Nat.testBit_succ, e1, h] at hxi
        cases hxi
      cases hq : q.testBit j with
      | false => simp [hne]
      | true => simp [hne, h64 hq]
theorem tab_all : ∀ k : Fin 64, tab_math_bits_deBruijn64tab[(2 ^ k.val * 285870213051353865 % 18446744073709551616) / 288230376151711744]? = some (k.val : Int) := by decide +kernel
theorem tz_spec {N x k : Nat} (hx : x < 18446744073709551616) (h1 : x.testBit k = true) (h2 : ∀ j, j < k → x.testBit j = false) (hk : k < 64) : F_math_bits_TrailingZeros64 N (x : Int) = some (k : Int) := by
  have h0 : x ≠ 0 := fun h => by rw [h] at h1; simp at h1
  have hn : (((x : Int)) == 0) = false := by simp; exact h0
  have e1 : IntKind.wrap .u64 (0 - (x : Int)) = ((18446744073709551616 - x : Nat) : Int) := by
    simp only [IntKind.wrap, IntKind.signed, IntKind.bits]
    simp
    omega
  have hp : (2 : Nat) ^ k ≤ 2 ^ 63 := Nat.pow_le_pow_right (by omega) (by omega)
  have e2 : IntKind.wrap .u64 (((2 ^ k : Nat) : Int) * 285870213051353865) = ((2 ^ k * 285870213051353865 % 18446744073709551616 : Nat) : Int) := by
    simp only [IntKind.wrap, IntKind.signed, IntKind.bits]
    simp
  unfold F_math_bits_TrailingZeros64
  rw [hn]
  simp only [Bool.false_eq_true, if_false, e1]
  rw [iand_u64 hx (by omega), and_neg hx h1 h2, e2]
  have e3 := shr_u64 (a := 2 ^ k * 285870213051353865 % 18446744073709551616) (k := 58) (by omega)
  rw [show ((58 : Nat) : Int) = 58 from rfl] at e3
  simp only [Nat.reducePow] at e3
  rw [e3]
  have e4 := tab_all ⟨k, hk⟩
  simp only at e4
  simp only [idx_of e4, bind, Option.bind_some]
  rw [wrap64 (by omega) (by omega)]
/-- the marked numbers below n -/
def lst (f : Nat → Bool) (n : Nat) : List Int := ((List.range n).filter f).map fun (j : Nat) => (j : Int)
end Go.Proofs.YtealkahefalaeaaGreatDoor
namespace Go.Proofs.YtealkahefalaeaaGreatDoor
open Go Go.Eng
/-- a state: free steps, set, where to, rule -/
abbrev Stt := List Int × (Int × Int × Int × Int) × Int × Int
def outN (n x : Int) : Bool := decide (x < 0) || decide (x ≥ n)
def badS (n : Int) (s : Stt) : Bool :=
  (decide (s.2.2.1 < -1) || decide (s.2.2.1 ≥ n) || decide (s.2.2.2 < -1) || decide (s.2.2.2 > 47) || (s.2.2.1 == -1 && ([s.2.1.1, s.2.1.2.1, s.2.1.2.2.1, s.2.1.2.2.2] : List Int) != [0, 0, 0, 0])) || s.1.any (outN n)
def rtB (S : List Stt) (E : List Int) : Bool :=
  decide (1 ≤ S.length) && decide (S.length ≤ 4000) && decide (1 ≤ E.length) && decide (E.length ≤ 8) && !(E.any (outN S.length)) && !(S.any (badS S.length))
theorem outN_f {n x : Int} (h : outN n x = false) : 0 ≤ x ∧ x < n := by
  unfold outN at h
  simp at h; omega
theorem outN_of {n x : Int} (h : 0 ≤ x ∧ x < n) : outN n x = false := by
  unfold outN
  simp; omega
section
variable {N : Nat} {S : List Stt} {E : List Int}
theorem nright1 (x n : Int) : F_nfa_Right_1 N x n = some (outN n x) := by
  unfold F_nfa_Right_1 outN
  by_cases h : x < 0 <;> simp [h]
theorem ncontains {xs : List Int} {n : Int} (hN : 4294967296 ≤ N) (hl : xs.length < 4294967296) : F_slices_ContainsFunc_int_int_2 N xs n = some (xs.any (outN n)) := by
  unfold F_slices_ContainsFunc_int_int_2 F_slices_IndexFunc_int_int_2
  rw [loop_find xs (outN n) (fun i => (i : Int)) (by omega) (fun i x hx => by
    have hi := lt_len hx
    unfold F_slices_IndexFunc_int_int_2_l0
    simp only [show ((i : Int) < (xs.length : Int)) by omega, decide_true, if_true, idx_of hx, nright1, bind, Option.bind_some]
    rw [w64_succ (by omega)]) (by unfold F_slices_IndexFunc_int_int_2_l0; simp)]
  cases h : xs.findIdx? (outN n) with
  | none =>
    have : xs.any (outN n) = false := List.any_eq_false.2 fun x hx => by rw [List.findIdx?_eq_none_iff.1 h x hx]; simp
    simp [this]
  | some k =>
    obtain ⟨hk, hp, _⟩ := List.findIdx?_eq_some_iff_getElem.1 h
    have : xs.any (outN n) = true := List.any_eq_true.2 ⟨_, List.getElem_mem hk, hp⟩
    rw [this]
    simp
/-- lists of a length that memory bears -/
structure NSz (S : List Stt) (E : List Int) : Prop where
  a : S.length < 4294967296
  b : E.length < 4294967296
  c : ∀ s ∈ S, s.1.length < 4294967296
theorem nfaRight_spec (hN : 4294967296 ≤ N) (hs : NSz S E) : F_nfa_Right N S E = some (rtB S E) := by
  unfold F_nfa_Right
  rw [loop_any S (badS S.length) false (by have := hs.a; omega) (fun i s hx => by
    have hi := lt_len hx
    have hc := hs.c s (List.mem_of_getElem? hx)
    have ha := hs.a
    obtain ⟨fr, ⟨a, b, c, d⟩, to, ru⟩ := s
    unfold F_nfa_Right_l0 badS
    simp only [show ((i : Int) < (S.length : Int)) by omega, decide_true, if_true, idx_of hx, nright1, F_sets_Set_Empty, ncontains hN hc, bind, Option.bind_some]
    rw [w64_succ (by omega)]
    generalize fr.any (outN S.length) = q
    by_cases g5 : to = -1
    · subst g5
      have e1 : outN (S.length : Int) (-1) = true := by unfold outN; simp
      have g2 : ¬ ((-1 : Int) ≥ (S.length : Int)) := by omega
      by_cases g6 : ([a, b, c, d] : List Int) = [0, 0, 0, 0]
      · have e6 : (([a, b, c, d] : List Int) == [0, 0, 0, 0]) = true := by rw [g6]; rfl
        have e7 : (([a, b, c, d] : List Int) != [0, 0, 0, 0]) = false := by rw [g6]; rfl
        cases q <;> by_cases g3 : ru < -1 <;> by_cases g4 : ru ≥ 48 <;> simp [e6, e7, g3, g4, g2, show (ru > 47) = (ru ≥ 48) from by simp; omega]
      · have e6 : (([a, b, c, d] : List Int) == [0, 0, 0, 0]) = false := by simpa using g6
        have e7 : (([a, b, c, d] : List Int) != [0, 0, 0, 0]) = true := by simpa using g6
        simp [e6, e7, e1]
    · have e5 : (to == -1) = false := by simpa using g5
      by_cases g7 : 0 ≤ to ∧ to < (S.length : Int)
      · have e1 := outN_of g7
        have g1 : ¬ to < -1 := by omega
        have g2 : ¬ to ≥ (S.length : Int) := by omega
        cases q <;> by_cases g3 : ru < -1 <;> by_cases g4 : ru ≥ 48 <;> simp [e5, e1, g1, g2, g3, g4, show (ru > 47) = (ru ≥ 48) from by simp; omega]
      · have e1 : outN (S.length : Int) to = true := by
          cases h : outN (S.length : Int) to with
          | true => rfl
          | false => exact absurd (outN_f h) g7
        have g1 : to < -1 ∨ to ≥ (S.length : Int) := by omega
        rcases g1 with g1 | g1 <;> simp [e5, e1, g1]) (by unfold F_nfa_Right_l0; simp)]
  unfold rtB
  cases hS : S.any (badS S.length) with
  | true => simp
  | false =>
    simp only [Bool.false_eq_true, if_false, bind, Option.bind_some, ncontains hN hs.b]
    by_cases a1 : 1 ≤ E.length
    · by_cases a2 : E.length ≤ 8
      · by_cases a3 : 1 ≤ S.length
        · by_cases a4 : S.length ≤ 4000
          · have b1 : (E.length : Int) ≥ 1 := by omega
            have b2 : (E.length : Int) ≤ 8 := by omega
            have b3 : (S.length : Int) ≥ 1 := by omega
            have b4 : (S.length : Int) ≤ 4000 := by omega
            simp [a1, a2, a3, a4, b1, b2, b3, b4]
          · have b1 : (E.length : Int) ≥ 1 := by omega
            have b2 : (E.length : Int) ≤ 8 := by omega
            have b3 : (S.length : Int) ≥ 1 := by omega
            have b4 : ¬ (S.length : Int) ≤ 4000 := by omega
            simp [a4, b1, b2, b3, b4]
        · have b1 : (E.length : Int) ≥ 1 := by omega
          have b2 : (E.length : Int) ≤ 8 := by omega
          have b3 : ¬ (S.length : Int) ≥ 1 := by omega
          simp [a3, b1, b2, b3]
      · have b1 : (E.length : Int) ≥ 1 := by omega
        have b2 : ¬ (E.length : Int) ≤ 8 := by omega
        simp [a2, b1, b2]
    · have b1 : ¬ (E.length : Int) ≥ 1 := by omega
      simp [a1, b1]
theorem nrefRight_spec (hN : 4294967296 ≤ N) (hs : NSz S E) : F_dofferref15_Right N S E = some (rtB S E) := by
  unfold F_dofferref15_Right rtB
  by_cases a1 : 1 ≤ S.length
  case neg =>
    have b1 : (S.length : Int) < 1 := by omega
    simp [a1, b1]
  have b1 : ¬ (S.length : Int) < 1 := by omega
  by_cases a2 : S.length ≤ 4000
  case neg =>
    have b2 : (S.length : Int) > 4000 := by omega
    simp [a2, b1, b2]
  have b2 : ¬ (S.length : Int) > 4000 := by omega
  by_cases a3 : 1 ≤ E.length
  case neg =>
    have b3 : (E.length : Int) < 1 := by omega
    simp [a3, b1, b2, b3]
  have b3 : ¬ (E.length : Int) < 1 := by omega
  by_cases a4 : E.length ≤ 8
  case neg =>
    have b4 : (E.length : Int) > 8 := by omega
    simp [a4, b1, b2, b3, b4]
  have b4 : ¬ (E.length : Int) > 8 := by omega
  simp only [b1, b2, b3, b4, decide_false, Bool.false_eq_true, if_false, bind, Option.bind_some, a1, a2, a3, a4, decide_true, Bool.true_and]
  rw [loop_any E (outN S.length) false (by omega) (fun i x hx => by
    have hi := lt_len hx
    unfold F_dofferref15_Right_l0
    simp only [show ((i : Int) < (E.length : Int)) by omega, decide_true, if_true, idx_of hx, bind, Option.bind_some]
    rw [w64_succ (by omega)]
    unfold outN
    by_cases c1 : x < 0 <;> simp [c1]) (by unfold F_dofferref15_Right_l0; simp)]
  cases hE : E.any (outN S.length) with
  | true => simp
  | false =>
    simp only [Bool.false_eq_true, if_false, Option.bind_some]
    rw [loop_any S (badS S.length) false (by omega) (fun i s hx => by
      have hi := lt_len hx
      have hc := hs.c s (List.mem_of_getElem? hx)
      unfold F_dofferref15_Right_l1
      simp only [show ((i : Int) < (S.length : Int)) by omega, decide_true, if_true, idx_of hx, bind, Option.bind_some]
      rw [loop_any s.1 (outN S.length) (τ := Int ⊕ (Unit ⊕ Bool)) (.inr (.inr false)) (by omega) (fun j y hy => by
        have hj := lt_len hy
        unfold F_dofferref15_Right_l2
        simp only [show ((j : Int) < (s.1.length : Int)) by omega, decide_true, if_true, idx_of hy, bind, Option.bind_some]
        rw [w64_succ (by omega)]
        unfold outN
        by_cases c1 : y < 0 <;> simp [c1]) (by unfold F_dofferref15_Right_l2; simp)]
      rw [w64_succ (by omega)]
      unfold badS
      by_cases c1 : s.2.2.1 < -1
      · simp [c1]
      by_cases c2 : s.2.2.1 ≥ (S.length : Int)
      · simp [c1, c2]
      by_cases c3 : s.2.2.2 < -1
      · simp [c1, c2, c3]
      by_cases c4 : s.2.2.2 > 47
      · simp [c1, c2, c3, c4]
      by_cases c5 : s.2.2.1 = -1
      · cases c6 : ([s.2.1.1, s.2.1.2.1, s.2.1.2.2.1, s.2.1.2.2.2] : List Int) != [0, 0, 0, 0] with
        | true => simp [c3, c4, c5, show ¬ ((S.length : Int) ≤ -1) by omega]
        | false => cases c7 : s.1.any (outN S.length) <;> simp [c3, c4, c5, c7, show ¬ ((S.length : Int) ≤ -1) by omega]
      · cases c7 : s.1.any (outN S.length) <;> simp [c1, c2, c3, c4, c5, c7]) (by unfold F_dofferref15_Right_l1; simp)]
    cases hS : S.any (badS S.length) <;> simp
end
end Go.Proofs.YtealkahefalaeaaGreatDoor
namespace Go.Proofs.YtealkahefalaeaaGreatDoor
open Go Go.Eng
section
variable {N : Nat} {S : List Stt} {E : List Int}
theorem of15_spec {m : Int} (hN : 4294967296 ≤ N) (hm : m < 4294967296) : ∃ p, F_dofferlaw15_Of N S E m = some p ∧ (p.2 = true → p.1 = S ∧ (S.length : Int) ≤ m ∧ (E.length : Int) ≤ 20 ∧ ∀ s ∈ S, s.1.length ≤ 100) := by
  unfold F_dofferlaw15_Of
  by_cases a1 : (E.length : Int) > 20
  · exact ⟨([], false), by simp [a1], by simp⟩
  by_cases a2 : (S.length : Int) > m
  · exact ⟨([], false), by simp [a1, a2], by simp⟩
  simp only [a1, a2, decide_false, Bool.false_eq_true, if_false, bind, Option.bind_some]
  obtain ⟨r, hr, hq⟩ := iterO_while (f := fun s : Int × List Stt => F_dofferlaw15_Of_l0 N S s.1 s.2) (fun s => ∃ i : Nat, i ≤ S.length ∧ s = ((i : Int), S.take i) ∧ ∀ t ∈ S.take i, t.1.length ≤ 100) (fun s => S.length - s.1.toNat)
    (fun r => match r with | .inl x => x = S ∧ ∀ t ∈ S, t.1.length ≤ 100 | .inr z => z.2 = false) (fun s hI => by
      obtain ⟨i, hi, rfl, hf⟩ := hI
      unfold F_dofferlaw15_Of_l0
      by_cases hil : i < S.length
      · have hx : S[i]? = some S[i] := List.getElem?_eq_getElem hil
        simp only [show ((i : Int) < (S.length : Int)) by omega, decide_true, if_true, idx_of hx, bind, Option.bind_some]
        by_cases b1 : (S[i].1.length : Int) > 100
        · right
          exact ⟨.inr (S.take i, false), by simp [b1], rfl⟩
        · left
          refine ⟨(((i + 1 : Nat) : Int), S.take (i + 1)), ?_, ⟨i + 1, by omega, rfl, fun t ht => ?_⟩, by simp; omega⟩
          · simp only [b1, decide_false, Bool.false_eq_true, if_false]
            rw [app_eq (by simp; omega), w64_succ (by omega), List.take_add_one, hx]
            rfl
          · rw [List.take_add_one, hx] at ht
            rcases List.mem_append.1 ht with ht | ht
            · exact hf t ht
            · simp at ht; subst ht; omega
      · right
        obtain rfl : i = S.length := by omega
        refine ⟨.inl S, by simp, rfl, fun t ht => hf t (by simpa using ht)⟩) (N := N) (s := (0, [])) ⟨0, by omega, by simp, by simp⟩ (by simp; omega)
  rw [hr]
  cases r with
  | inl x => exact ⟨(x, true), rfl, fun _ => ⟨hq.1, by omega, by omega, hq.2⟩⟩
  | inr z => exact ⟨z, rfl, fun h => by rw [hq] at h; cases h⟩
def frS (S : List Stt) (x : Int) : List Int := ((S[x.toNat]?).map (fun s => s.1)).getD []
inductive RchF (S : List Stt) (L : List Int) : Int → Prop
  | base {x : Int} : x ∈ L → RchF S L x
  | step {s y : Int} : RchF S L s → y ∈ frS S s → RchF S L y
theorem RchF.mono {L L' : List Int} (hl : ∀ x ∈ L, RchF S L' x) {x : Int} (hr : RchF S L x) : RchF S L' x := by
  induction hr with
  | base hx => exact hl _ hx
  | step _ hy ih => exact .step ih hy
end
end Go.Proofs.YtealkahefalaeaaGreatDoor
namespace Go.Proofs.YtealkahefalaeaaGreatDoor
open Go Go.Eng
/-- words of 64 bits -/
def Wd (x : Int) : Prop := 0 ≤ x ∧ x < 18446744073709551616
def SetW (S : List Stt) : Prop := ∀ s ∈ S, Wd s.2.1.1 ∧ Wd s.2.1.2.1 ∧ Wd s.2.1.2.2.1 ∧ Wd s.2.1.2.2.2
def wds (t : Int × Int × Int × Int) : List Int := [t.1, t.2.1, t.2.2.1, t.2.2.2]
def tst (t : Int × Int × Int × Int) (c : Int) : Bool := ((wds t).getD (c.toNat / 64) 0).toNat.testBit (c.toNat % 64)
end Go.Proofs.YtealkahefalaeaaGreatDoor
namespace Go.Proofs.YtealkahefalaeaaGreatDoor
open Go Go.Eng
set_option maxRecDepth 100000
abbrev Q4 := Nat × Nat × Nat × Nat
def S64 (s : Q4) : Prop := s.1 < 18446744073709551616 ∧ s.2.1 < 18446744073709551616 ∧ s.2.2.1 < 18446744073709551616 ∧ s.2.2.2 < 18446744073709551616
def wd (s : Q4) (i : Nat) : Nat := if i = 0 then s.1 else if i = 1 then s.2.1 else if i = 2 then s.2.2.1 else s.2.2.2
def bs (s : Q4) (c : Nat) : Bool := (wd s (c / 64)).testBit (c % 64)
def nt (a : Nat) : Nat := 18446744073709551615 - a
theorem wd_lt {s : Q4} (h : S64 s) (i : Nat) : wd s i < 18446744073709551616 := by
  obtain ⟨h1, h2, h3, h4⟩ := h
  unfold wd
  split
  · exact h1
  · split
    · exact h2
    · split <;> assumption
theorem inv_u64 {a : Nat} (h : a < 18446744073709551616) : inv .u64 (a : Int) = ((nt a : Nat) : Int) := by
  have e : inv .u64 (a : Int) = IntKind.wrap .u64 ((BitVec.ofInt 64 18446744073709551615 ^^^ BitVec.ofInt 64 (a : Int)).toNat : Int) := rfl
  have e1 : BitVec.ofInt 64 18446744073709551615 = BitVec.allOnes 64 := by decide
  have e2 : BitVec.ofInt 64 (a : Int) = BitVec.ofNat 64 a := BitVec.ofInt_natCast ..
  rw [e, e1, e2, BitVec.allOnes_xor, BitVec.toNat_not, BitVec.toNat_ofNat, Nat.mod_eq_of_lt (by simpa using h)]
  unfold nt
  rw [show (2 : Nat) ^ 64 - 1 - a = 18446744073709551615 - a by omega]
  exact wrapU64 (by omega) (by omega)
theorem nt_lt (a : Nat) : nt a < 18446744073709551616 := by unfold nt; omega
theorem nt_bit {a j : Nat} (h : a < 18446744073709551616) (hj : j < 64) : (nt a).testBit j = !a.testBit j := by
  have := Nat.testBit_two_pow_sub_succ (x := a) (n := 64) (by simpa using h) j
  rw [show (2 : Nat) ^ 64 - (a + 1) = nt a by unfold nt; omega] at this
  rw [this]
  simp [hj]
section
variable {N : Nat}
theorem not_spec {a b c d : Nat} (hN : 5 ≤ N) (h : S64 (a, b, c, d)) : F_sets_Set_Not N a b c d = some ((nt a : Int), (nt b : Int), (nt c : Int), (nt d : Int)) := by
  obtain ⟨M, rfl⟩ : ∃ m, N = m + 5 := ⟨N - 5, by omega⟩
  obtain ⟨h1, h2, h3, h4⟩ := h
  simp only at h1 h2 h3 h4
  have s0 : ∀ a b c d : Int, F_sets_Set_Not_l0 (M + 5) a b c d 0 = some (.inl (inv .u64 a, b, c, d, 1)) := fun _ _ _ _ => rfl
  have s1 : ∀ a b c d : Int, F_sets_Set_Not_l0 (M + 5) a b c d 1 = some (.inl (a, inv .u64 b, c, d, 2)) := fun _ _ _ _ => rfl
  have s2 : ∀ a b c d : Int, F_sets_Set_Not_l0 (M + 5) a b c d 2 = some (.inl (a, b, inv .u64 c, d, 3)) := fun _ _ _ _ => rfl
  have s3 : ∀ a b c d : Int, F_sets_Set_Not_l0 (M + 5) a b c d 3 = some (.inl (a, b, c, inv .u64 d, 4)) := fun _ _ _ _ => rfl
  have s4 : ∀ a b c d : Int, F_sets_Set_Not_l0 (M + 5) a b c d 4 = some (.inr (a, b, c, d)) := fun _ _ _ _ => rfl
  unfold F_sets_Set_Not
  simp only [iterO, s0, s1, s2, s3, s4, bind, Option.bind_some, inv_u64 h1, inv_u64 h2, inv_u64 h3, inv_u64 h4]
theorem and_spec {a b c d a' b' c' d' : Nat} (hN : 5 ≤ N) (h : S64 (a, b, c, d)) (h' : S64 (a', b', c', d')) : F_sets_Set_And N a b c d a' b' c' d' = some (((a &&& a' : Nat) : Int), ((b &&& b' : Nat) : Int), ((c &&& c' : Nat) : Int), ((d &&& d' : Nat) : Int)) := by
  obtain ⟨M, rfl⟩ : ∃ m, N = m + 5 := ⟨N - 5, by omega⟩
  obtain ⟨h1, h2, h3, h4⟩ := h
  obtain ⟨g1, g2, g3, g4⟩ := h'
  simp only at h1 h2 h3 h4 g1 g2 g3 g4
  have s0 : ∀ p q r s a b c d : Int, F_sets_Set_And_l0 (M + 5) p q r s a b c d 0 = some (.inl (iand .u64 a p, b, c, d, 1)) := fun _ _ _ _ _ _ _ _ => rfl
  have s1 : ∀ p q r s a b c d : Int, F_sets_Set_And_l0 (M + 5) p q r s a b c d 1 = some (.inl (a, iand .u64 b q, c, d, 2)) := fun _ _ _ _ _ _ _ _ => rfl
  have s2 : ∀ p q r s a b c d : Int, F_sets_Set_And_l0 (M + 5) p q r s a b c d 2 = some (.inl (a, b, iand .u64 c r, d, 3)) := fun _ _ _ _ _ _ _ _ => rfl
  have s3 : ∀ p q r s a b c d : Int, F_sets_Set_And_l0 (M + 5) p q r s a b c d 3 = some (.inl (a, b, c, iand .u64 d s, 4)) := fun _ _ _ _ _ _ _ _ => rfl
  have s4 : ∀ p q r s a b c d : Int, F_sets_Set_And_l0 (M + 5) p q r s a b c d 4 = some (.inr (a, b, c, d)) := fun _ _ _ _ _ _ _ _ => rfl
  unfold F_sets_Set_And
  simp only [iterO, s0, s1, s2, s3, s4, bind, Option.bind_some, iand_u64 h1 g1, iand_u64 h2 g2, iand_u64 h3 g3, iand_u64 h4 g4]
end
def bits (x : Nat) : List Nat := (List.range 64).filter (x.testBit ·)
def els (s : Q4) : List Nat := (List.range 256).filter (bs s)
theorem range_at {n k : Nat} (h : k < n) : List.range n = List.range' 0 k ++ k :: List.range' (k + 1) (n - k - 1) := by
  rw [List.range_eq_range', show n = k + (n - k) by omega, ← List.range'_append_1, Nat.zero_add, show n - k = (n - k - 1) + 1 by omega, List.range'_succ]
  simp
theorem filter_low {p q : Nat → Bool} {n k : Nat} (hk : k < n) (h1 : p k = true) (h2 : ∀ j, j < k → p j = false) (hq : ∀ j, q j = (p j && decide (k < j))) : (List.range n).filter p = k :: (List.range n).filter q := by
  rw [range_at hk, List.filter_append, List.filter_append]
  have e1 : (List.range' 0 k).filter p = [] := by
    rw [List.filter_eq_nil_iff]
    intro a ha
    have := h2 a (by have := List.mem_range'_1.1 ha; omega)
    simp [this]
  have e2 : (List.range' 0 k).filter q = [] := by
    rw [List.filter_eq_nil_iff]
    intro a ha
    have := h2 a (by have := List.mem_range'_1.1 ha; omega)
    simp [hq, this]
  rw [e1, e2, List.nil_append, List.nil_append, List.filter_cons, h1, if_pos rfl, List.filter_cons, hq k]
  simp only [Nat.lt_irrefl, decide_false, Bool.and_false, Bool.false_eq_true, if_false]
  congr 1
  refine List.filter_congr fun j hj => ?_
  have := List.mem_range'_1.1 hj
  rw [hq j]
  simp; omega
theorem clear_low {x k j : Nat} (h1 : x.testBit k = true) (h2 : ∀ j, j < k → x.testBit j = false) : (x &&& (x - 1)).testBit j = (x.testBit j && decide (k < j)) := by
  obtain ⟨q, hq⟩ := low_shape h1 h2
  have p0 : 0 < 2 ^ k := Nat.two_pow_pos k
  have e1 : x = 2 ^ (k + 1) * q + 2 ^ k := by rw [hq, Nat.pow_succ, Nat.mul_add, Nat.mul_one, Nat.mul_assoc]
  have e2 : x - 1 = 2 ^ (k + 1) * q + (2 ^ k - 1) := by omega
  have l1 : 2 ^ k < 2 ^ (k + 1) := by rw [Nat.pow_succ]; omega
  rw [Nat.testBit_and, e2]
  conv => lhs; lhs; rw [e1]
  conv => rhs; lhs; rw [e1]
  rw [Nat.testBit_two_pow_mul_add _ l1, Nat.testBit_two_pow_mul_add _ (by omega : 2 ^ k - 1 < 2 ^ (k + 1))]
  by_cases hj : j < k + 1
  · simp only [hj, if_true]
    rw [Nat.testBit_two_pow_sub_one, Nat.testBit_two_pow]
    by_cases hjk : k = j
    · subst hjk; simp
    · have : ¬ k < j := by omega
      simp [hjk, this]
  · simp only [hj, if_false]
    have : k < j := by omega
    simp [this]
theorem bits_zero : bits 0 = [] := by unfold bits; simp
theorem bits_step {x : Nat} (hx : x < 18446744073709551616) (h0 : x ≠ 0) : ∃ k, k < 64 ∧ x.testBit k = true ∧ (∀ j, j < k → x.testBit j = false) ∧ bits x = k :: bits (x &&& (x - 1)) := by
  obtain ⟨k, h1, h2⟩ := low_bit h0
  have hk : k < 64 := by
    refine Classical.byContradiction fun hc => ?_
    have := Nat.testBit_lt_two_pow (x := x) (i := k) (Nat.lt_of_lt_of_le (show x < 2 ^ 64 by simpa using hx) (Nat.pow_le_pow_right (by omega) (by omega)))
    rw [this] at h1
    cases h1
  exact ⟨k, hk, h1, h2, filter_low hk h1 h2 fun j => clear_low h1 h2⟩
def foldY {σ : Type} (Y : Int → σ → Option (σ × Bool)) : List Nat → σ → Option (σ × Bool)
  | [], s => some (s, true)
  | x :: r, s => Y (x : Int) s >>= fun q => if q.2 = true then foldY Y r q.1 else some (q.1, false)
theorem foldY_append {σ : Type} (Y : Int → σ → Option (σ × Bool)) (l' : List Nat) : ∀ (l : List Nat) (s : σ), foldY Y (l ++ l') s = foldY Y l s >>= fun q => if q.2 = true then foldY Y l' q.1 else some (q.1, false)
  | [], s => by simp [foldY]
  | x :: r, s => by
    simp only [List.cons_append, foldY, bind]
    cases Y (x : Int) s with
    | none => rfl
    | some q =>
      simp only [Option.bind_some]
      by_cases hq : q.2 = true
      · simp only [hq, if_true]
        have := foldY_append Y l' r q.1
        simpa only [bind] using this
      · simp [hq]
section
variable {N : Nat} {σ : Type}
theorem word_loop {Y : Int → σ → Option (σ × Bool)} {i : Nat} (hi : i < 4) : ∀ (n x M : Nat) (s : σ), (bits x).length = n → x < 18446744073709551616 → n < M →
    iterO M (fun s => F_sets_Set_all_1_l1 N Y (i : Int) s.1 s.2) (s, (x : Int)) = foldY Y ((bits x).map (64 * i + ·)) s >>= fun q => if q.2 = true then some (.inl q.1) else some (.inr (.inr (.inr (q.1, false)))) := by
  intro n
  induction n with
  | zero =>
    intro x M s hn hx hM
    obtain ⟨M, rfl⟩ : ∃ m, M = m + 1 := ⟨M - 1, by omega⟩
    have hb : bits x = [] := List.eq_nil_of_length_eq_zero hn
    have hx0 : x = 0 := by
      refine Classical.byContradiction fun hc => ?_
      obtain ⟨k, _, _, _, e⟩ := bits_step hx hc
      rw [hb] at e
      cases e
    subst hx0
    rw [hb]
    simp only [iterO, List.map_nil, foldY, bind, Option.bind_some, if_true]
    unfold F_sets_Set_all_1_l1
    rw [if_neg (by simp)]
  | succ n ih =>
    intro x M s hn hx hM
    obtain ⟨M, rfl⟩ : ∃ m, M = m + 1 := ⟨M - 1, by omega⟩
    have hx0 : x ≠ 0 := by rintro rfl; rw [bits_zero] at hn; simp at hn
    obtain ⟨k, hk, h1, h2, e⟩ := bits_step hx hx0
    have e3 : iand .u64 (x : Int) (IntKind.wrap .u64 ((x : Int) - 1)) = ((x &&& (x - 1) : Nat) : Int) := by
      rw [show ((x : Int) - 1) = ((x - 1 : Nat) : Int) by omega, wrapU64 (by omega) (by omega), iand_u64 hx (by omega)]
    have hlt : x &&& (x - 1) < 18446744073709551616 := Nat.lt_of_le_of_lt Nat.and_le_left hx
    rw [e]
    simp only [iterO, List.map_cons, foldY]
    unfold F_sets_Set_all_1_l1
    rw [if_pos (by simpa using hx0), tz_spec hx h1 h2 hk]
    simp only [bind, Option.bind_some]
    rw [show w64 ((w64 (64 * (i : Int))) + (k : Int)) = ((64 * i + k : Nat) : Int) by
      have a1 : w64 (64 * (i : Int)) = 64 * (i : Int) := by rw [w64]; exact wrap64 (by omega) (by omega)
      rw [a1, w64]
      rw [wrap64 (by omega) (by omega)]
      omega]
    cases Y ((64 * i + k : Nat) : Int) s with
    | none => rfl
    | some q =>
      simp only [Option.bind_some]
      by_cases hq : q.2 = true
      · simp only [hq, Bool.not_true, Bool.false_eq_true, if_false, if_true]
        rw [e3]
        have := ih (x &&& (x - 1)) M q.1 (by rw [e] at hn; simpa using hn) hlt (by omega)
        exact this
      · have hq' : q.2 = false := by simpa using hq
        simp [hq']
end
theorem bits_len (x : Nat) : (bits x).length ≤ 64 := by
  unfold bits
  exact Nat.le_trans (List.length_filter_le _ _) (by simp)
theorem part_els (s : Q4) {i : Nat} (hi : i < 4) : (List.range' (64 * i) 64).filter (bs s) = (bits (wd s i)).map (64 * i + ·) := by
  have e : List.range' (64 * i) 64 = (List.range 64).map (64 * i + ·) := by
    rw [List.range_eq_range', List.map_add_range']
    simp
  rw [e, List.filter_map]
  unfold bits
  congr 1
  refine List.filter_congr fun j hj => ?_
  have hj := List.mem_range.1 hj
  simp only [Function.comp]
  unfold bs
  rw [show (64 * i + j) / 64 = i by omega, show (64 * i + j) % 64 = j by omega]
theorem els_eq (s : Q4) : els s = (bits s.1).map (64 * 0 + ·) ++ ((bits s.2.1).map (64 * 1 + ·) ++ ((bits s.2.2.1).map (64 * 2 + ·) ++ (bits s.2.2.2).map (64 * 3 + ·))) := by
  unfold els
  have e : List.range 256 = List.range' (64 * 0) 64 ++ (List.range' (64 * 1) 64 ++ (List.range' (64 * 2) 64 ++ List.range' (64 * 3) 64)) := by decide +kernel
  rw [e, List.filter_append, List.filter_append, List.filter_append, part_els s (by omega), part_els s (by omega), part_els s (by omega), part_els s (by omega)]
  rfl
theorem mem_els {s : Q4} {c : Nat} : c ∈ els s ↔ c < 256 ∧ bs s c = true := by unfold els; simp
section
variable {N : Nat} {σ : Type}
theorem all_step {Y : Int → σ → Option (σ × Bool)} {a b c d x : Nat} {i : Nat} (hN : 70 ≤ N) (hi : i < 4) (hx : idx [(a : Int), (b : Int), (c : Int), (d : Int)] (i : Int) = some (x : Int)) (hlt : x < 18446744073709551616) (s : σ) :
    F_sets_Set_all_1_l0 N Y a b c d s (i : Int) = foldY Y ((bits x).map (64 * i + ·)) s >>= fun q => if q.2 = true then some (.inl (q.1, ((i + 1 : Nat) : Int))) else some (.inr (.inr (q.1, false))) := by
  unfold F_sets_Set_all_1_l0
  rw [if_pos (by simp; omega), hx]
  simp only [bind, Option.bind_some]
  have h := word_loop (N := N) (Y := Y) hi (bits x).length x N s rfl hlt (by have := bits_len x; omega)
  rw [h, w64_succ (by omega)]
  simp only [bind]
  cases foldY Y ((bits x).map (64 * i + ·)) s with
  | none => rfl
  | some q =>
    simp only [Option.bind_some]
    by_cases hq : q.2 = true
    · simp [hq]
    · simp [hq]
theorem all_spec {Y : Int → σ → Option (σ × Bool)} {a b c d : Nat} (hN : 70 ≤ N) (h : S64 (a, b, c, d)) (s : σ) : F_sets_Set_all_1 N Y s a b c d = foldY Y (els (a, b, c, d)) s := by
  obtain ⟨h1, h2, h3, h4⟩ := h
  simp only at h1 h2 h3 h4
  obtain ⟨M, hM⟩ : ∃ m, N = m + 5 := ⟨N - 5, by omega⟩
  have t0 := fun s => all_step (N := N) (Y := Y) (a := a) (b := b) (c := c) (d := d) (x := a) (i := 0) hN (by omega) rfl h1 s
  have t1 := fun s => all_step (N := N) (Y := Y) (a := a) (b := b) (c := c) (d := d) (x := b) (i := 1) hN (by omega) rfl h2 s
  have t2 := fun s => all_step (N := N) (Y := Y) (a := a) (b := b) (c := c) (d := d) (x := c) (i := 2) hN (by omega) rfl h3 s
  have t3 := fun s => all_step (N := N) (Y := Y) (a := a) (b := b) (c := c) (d := d) (x := d) (i := 3) hN (by omega) rfl h4 s
  have t4 : ∀ s : σ, F_sets_Set_all_1_l0 N Y a b c d s ((4 : Nat) : Int) = some (.inr (.inl s)) := fun s => by
    unfold F_sets_Set_all_1_l0
    rw [if_neg (by simp)]
  have key : ∀ s, iterO (M + 5) (fun s => F_sets_Set_all_1_l0 N Y a b c d s.1 s.2) (s, ((0 : Nat) : Int)) = foldY Y (els (a, b, c, d)) s >>= fun q => if q.2 = true then some (.inl q.1) else some (.inr (q.1, false)) := by
    intro s
    rw [els_eq, foldY_append]
    simp only [iterO, t0, bind]
    cases foldY Y ((bits a).map (64 * 0 + ·)) s with
    | none => rfl
    | some q =>
      simp only [Option.bind_some]
      by_cases hq : q.2 = true
      · simp only [hq, if_true]
        rw [foldY_append]
        simp only [t1, bind]
        cases foldY Y ((bits b).map (64 * 1 + ·)) q.1 with
        | none => rfl
        | some q =>
          simp only [Option.bind_some]
          by_cases hq : q.2 = true
          · simp only [hq, if_true]
            rw [foldY_append]
            simp only [t2, bind]
            cases foldY Y ((bits c).map (64 * 2 + ·)) q.1 with
            | none => rfl
            | some q =>
              simp only [Option.bind_some]
              by_cases hq : q.2 = true
              · simp only [hq, if_true]
                simp only [t3, bind]
                cases foldY Y ((bits d).map (64 * 3 + ·)) q.1 with
                | none => rfl
                | some q =>
                  simp only [Option.bind_some]
                  by_cases hq : q.2 = true
                  · simp only [hq, if_true, t4]
                  · simp [hq]
              · simp [hq]
          · simp [hq]
      · simp [hq]
  unfold F_sets_Set_all_1
  have := key s
  rw [← hM, show ((0 : Nat) : Int) = 0 from rfl] at this
  rw [this]
  simp only [bind]
  cases foldY Y (els (a, b, c, d)) s with
  | none => rfl
  | some q =>
    rcases q with ⟨q1, q2⟩
    cases q2 <;> rfl
/-- the least byte, -1 -/
def sleast (s : Q4) : Int := match els s with | [] => -1 | c :: _ => (c : Int)
theorem sleast_spec {a b c d : Nat} (hN : 70 ≤ N) (h : S64 (a, b, c, d)) : F_sets_Set_Least N a b c d = some (sleast (a, b, c, d)) := by
  unfold F_sets_Set_Least F_sets_Set_Nth F_sets_Set_all
  rw [if_neg (by decide)]
  simp only [bind, Option.bind_some]
  rw [if_neg (by decide), all_spec hN h]
  unfold sleast
  cases els (a, b, c, d) with
  | nil => rfl
  | cons c l => rfl
end
end Go.Proofs.YtealkahefalaeaaGreatDoor
namespace Go.Proofs.YtealkahefalaeaaGreatDoor
open Go Go.Eng
set_option maxRecDepth 100000
abbrev T4 := Int × Int × Int × Int
def Wd4 (t : T4) : Prop := Wd t.1 ∧ Wd t.2.1 ∧ Wd t.2.2.1 ∧ Wd t.2.2.2
def tb (t : T4) (c : Nat) : Bool := tst t (c : Int)
def qI (s : Q4) : T4 := ((s.1 : Int), (s.2.1 : Int), (s.2.2.1 : Int), (s.2.2.2 : Int))
def qN (t : T4) : Q4 := (t.1.toNat, t.2.1.toNat, t.2.2.1.toNat, t.2.2.2.toNat)
theorem qI_qN {t : T4} (h : Wd4 t) : qI (qN t) = t := by
  obtain ⟨a, b, c, d⟩ := t
  obtain ⟨⟨h1, _⟩, ⟨h2, _⟩, ⟨h3, _⟩, ⟨h4, _⟩⟩ := h
  simp only at h1 h2 h3 h4
  simp only [qI, qN, Int.toNat_of_nonneg h1, Int.toNat_of_nonneg h2, Int.toNat_of_nonneg h3, Int.toNat_of_nonneg h4]
theorem qN_64 {t : T4} (h : Wd4 t) : S64 (qN t) := by
  obtain ⟨⟨h1, g1⟩, ⟨h2, g2⟩, ⟨h3, g3⟩, ⟨h4, g4⟩⟩ := h
  exact ⟨by show t.1.toNat < _; omega, by show t.2.1.toNat < _; omega, by show t.2.2.1.toNat < _; omega, by show t.2.2.2.toNat < _; omega⟩
theorem qI_wd {s : Q4} (h : S64 s) : Wd4 (qI s) := by
  obtain ⟨h1, h2, h3, h4⟩ := h
  refine ⟨⟨?_, ?_⟩, ⟨?_, ?_⟩, ⟨?_, ?_⟩, ⟨?_, ?_⟩⟩ <;> simp only [qI] <;> omega
theorem four {n : Nat} (h : n < 4) : n = 0 ∨ n = 1 ∨ n = 2 ∨ n = 3 := by omega
theorem tb_qI {s : Q4} {c : Nat} (hc : c < 256) : tb (qI s) c = bs s c := by
  unfold tb tst bs
  rw [Int.toNat_natCast]
  rcases four (show c / 64 < 4 by omega) with h | h | h | h <;> rw [h] <;> simp [wds, qI, wd]
theorem tb_qN {t : T4} (h : Wd4 t) {c : Nat} (hc : c < 256) : tb t c = bs (qN t) c := by
  rw [← tb_qI hc, qI_qN h]
theorem bs_ext {s s' : Q4} (h : S64 s) (h' : S64 s') (he : ∀ c, c < 256 → bs s c = bs s' c) : s = s' := by
  have key : ∀ i, i < 4 → wd s i = wd s' i := by
    intro i hi
    apply Nat.eq_of_testBit_eq
    intro j
    by_cases hj : j < 64
    · have := he (64 * i + j) (by omega)
      unfold bs at this
      rw [show (64 * i + j) / 64 = i by omega, show (64 * i + j) % 64 = j by omega] at this
      exact this
    · have e : ∀ x : Nat, x < 18446744073709551616 → x.testBit j = false := fun x hx =>
        Nat.testBit_lt_two_pow (Nat.lt_of_lt_of_le (show x < 2 ^ 64 by simpa using hx) (Nat.pow_le_pow_right (by omega) (by omega)))
      rw [e _ (wd_lt h i), e _ (wd_lt h' i)]
  have k0 := key 0 (by omega)
  have k1 := key 1 (by omega)
  have k2 := key 2 (by omega)
  have k3 := key 3 (by omega)
  obtain ⟨a, b, c, d⟩ := s
  obtain ⟨a', b', c', d'⟩ := s'
  simp only [wd] at k0 k1 k2 k3
  simp at k0 k1 k2 k3
  rw [k0, k1, k2, k3]
theorem tb_ext {t t' : T4} (h : Wd4 t) (h' : Wd4 t') (he : ∀ c, c < 256 → tb t c = tb t' c) : t = t' := by
  rw [← qI_qN h, ← qI_qN h', bs_ext (qN_64 h) (qN_64 h') fun c hc => by rw [← tb_qN h hc, ← tb_qN h' hc, he c hc]]
theorem wd4_zero : Wd4 (0, 0, 0, 0) := by refine ⟨⟨?_, ?_⟩, ⟨?_, ?_⟩, ⟨?_, ?_⟩, ⟨?_, ?_⟩⟩ <;> simp
theorem tb_zero {c : Nat} : tb (0, 0, 0, 0) c = false := by
  unfold tb tst
  have : ∀ i, (wds (0, 0, 0, 0)).getD i 0 = 0 := by
    intro i
    match i with
    | 0 => rfl
    | 1 => rfl
    | 2 => rfl
    | 3 => rfl
    | _ + 4 => rfl
  rw [this]
  simp
def nz (t : T4) : Bool := !(([t.1, t.2.1, t.2.2.1, t.2.2.2] : List Int) == ([0, 0, 0, 0] : List Int))
theorem nz_iff {t : T4} (h : Wd4 t) : nz t = true ↔ ∃ c, c < 256 ∧ tb t c = true := by
  constructor
  · intro hn
    refine Classical.byContradiction fun hc => ?_
    have e : t = (0, 0, 0, 0) := tb_ext h wd4_zero fun c hc' => by
      rw [tb_zero]
      cases hb : tb t c with
      | false => rfl
      | true => exact absurd ⟨c, hc', hb⟩ hc
    rw [e] at hn
    simp [nz] at hn
  · rintro ⟨c, hc, hb⟩
    obtain ⟨a, b, c', d⟩ := t
    unfold nz
    cases he : ([a, b, c', d] : List Int) == [0, 0, 0, 0] with
    | false => simp
    | true =>
      have := eq_of_beq he
      simp only [List.cons.injEq, and_true] at this
      obtain ⟨rfl, rfl, rfl, rfl⟩ := this
      rw [tb_zero] at hb; cases hb
def qand (s s' : Q4) : Q4 := (s.1 &&& s'.1, s.2.1 &&& s'.2.1, s.2.2.1 &&& s'.2.2.1, s.2.2.2 &&& s'.2.2.2)
def qnot (s : Q4) : Q4 := (nt s.1, nt s.2.1, nt s.2.2.1, nt s.2.2.2)
theorem qand_64 {s s' : Q4} (h : S64 s) : S64 (qand s s') := by
  obtain ⟨h1, h2, h3, h4⟩ := h
  exact ⟨Nat.lt_of_le_of_lt Nat.and_le_left h1, Nat.lt_of_le_of_lt Nat.and_le_left h2, Nat.lt_of_le_of_lt Nat.and_le_left h3, Nat.lt_of_le_of_lt Nat.and_le_left h4⟩
theorem qnot_64 (s : Q4) : S64 (qnot s) := ⟨nt_lt _, nt_lt _, nt_lt _, nt_lt _⟩
theorem bs_and {s s' : Q4} {c : Nat} (hc : c < 256) : bs (qand s s') c = (bs s c && bs s' c) := by
  unfold bs
  rcases four (show c / 64 < 4 by omega) with h | h | h | h <;> rw [h] <;> simp [wd, qand, Nat.testBit_and]
theorem bs_not {s : Q4} (h : S64 s) {c : Nat} (hc : c < 256) : bs (qnot s) c = !bs s c := by
  unfold bs
  have hj : c % 64 < 64 := by omega
  obtain ⟨h1, h2, h3, h4⟩ := h
  rcases four (show c / 64 < 4 by omega) with h | h | h | h <;> rw [h] <;> simp [wd, qnot]
  · exact nt_bit h1 hj
  · exact nt_bit h2 hj
  · exact nt_bit h3 hj
  · exact nt_bit h4 hj
def tand (t t' : T4) : T4 := qI (qand (qN t) (qN t'))
def tsub (t t' : T4) : T4 := qI (qand (qN t) (qnot (qN t')))
def tall : T4 := qI (qnot (0, 0, 0, 0))
theorem tand_wd {t t' : T4} (h : Wd4 t) : Wd4 (tand t t') := qI_wd (qand_64 (qN_64 h))
theorem tsub_wd {t t' : T4} (h : Wd4 t) : Wd4 (tsub t t') := qI_wd (qand_64 (qN_64 h))
theorem tall_wd : Wd4 tall := qI_wd (qnot_64 _)
theorem tb_and {t t' : T4} (h : Wd4 t) (h' : Wd4 t') {c : Nat} (hc : c < 256) : tb (tand t t') c = (tb t c && tb t' c) := by
  rw [tand, tb_qI hc, bs_and hc, tb_qN h hc, tb_qN h' hc]
theorem tb_sub {t t' : T4} (h : Wd4 t) (h' : Wd4 t') {c : Nat} (hc : c < 256) : tb (tsub t t') c = (tb t c && !tb t' c) := by
  rw [tsub, tb_qI hc, bs_and hc, bs_not (qN_64 h') hc, tb_qN h hc, tb_qN h' hc]
theorem tb_all {c : Nat} (hc : c < 256) : tb tall c = true := by
  rw [tall, tb_qI hc, bs_not ⟨by decide, by decide, by decide, by decide⟩ hc]
  unfold bs wd
  simp
section
variable {N : Nat}
theorem tnot_spec {t : T4} (hN : 5 ≤ N) (h : Wd4 t) : F_sets_Set_Not N t.1 t.2.1 t.2.2.1 t.2.2.2 = some (qI (qnot (qN t))) := by
  have := not_spec (N := N) hN (qN_64 h)
  rw [← qI_qN h]
  exact this
theorem tand_spec {t t' : T4} (hN : 5 ≤ N) (h : Wd4 t) (h' : Wd4 t') : F_sets_Set_And N t.1 t.2.1 t.2.2.1 t.2.2.2 t'.1 t'.2.1 t'.2.2.1 t'.2.2.2 = some (tand t t') := by
  have := and_spec (N := N) hN (qN_64 h) (qN_64 h')
  conv => lhs; rw [← qI_qN h, ← qI_qN h']
  exact this
theorem tsub_spec {t t' : T4} (hN : 5 ≤ N) (h : Wd4 t) (h' : Wd4 t') : F_sets_Set_Minus N t.1 t.2.1 t.2.2.1 t.2.2.2 t'.1 t'.2.1 t'.2.2.1 t'.2.2.2 = some (tsub t t') := by
  unfold F_sets_Set_Minus
  rw [tnot_spec hN h']
  have := and_spec (N := N) hN (qN_64 h) (qnot_64 (qN t'))
  have e : F_sets_Set_And N t.1 t.2.1 t.2.2.1 t.2.2.2 (qI (qnot (qN t'))).1 (qI (qnot (qN t'))).2.1 (qI (qnot (qN t'))).2.2.1 (qI (qnot (qN t'))).2.2.2 = some (tsub t t') := by
    conv => lhs; rw [← qI_qN h]
    exact this
  simp only [bind, Option.bind_some]
  rw [e]
  rfl
theorem tall_spec (hN : 5 ≤ N) : F_sets_All N = some tall := by
  unfold F_sets_All
  have := tnot_spec (N := N) (t := (0, 0, 0, 0)) hN wd4_zero
  simp only at this
  rw [this]
  rfl
/-- the least byte -/
def tl (t : T4) : Int := sleast (qN t)
theorem tl_spec {t : T4} (hN : 70 ≤ N) (h : Wd4 t) : F_sets_Set_Least N t.1 t.2.1 t.2.2.1 t.2.2.2 = some (tl t) := by
  have := sleast_spec (N := N) hN (qN_64 h)
  conv => lhs; rw [← qI_qN h]
  exact this
end
theorem filter_head {p : Nat → Bool} {n k : Nat} {l : List Nat} (h : (List.range n).filter p = k :: l) : k < n ∧ p k = true ∧ ∀ j, j < k → p j = false := by
  have hm : k ∈ (List.range n).filter p := by rw [h]; simp
  have hk := List.mem_filter.1 hm
  refine ⟨List.mem_range.1 hk.1, hk.2, fun j hj => ?_⟩
  cases hp : p j with
  | false => rfl
  | true =>
    have hjm : j ∈ (List.range n).filter p := List.mem_filter.2 ⟨List.mem_range.2 (by have := List.mem_range.1 hk.1; omega), hp⟩
    have hs : ((List.range n).filter p).Pairwise (· < ·) := List.Pairwise.filter _ List.pairwise_lt_range
    rw [h] at hjm hs
    rcases List.mem_cons.1 hjm with e | hjm
    · omega
    · have := (List.pairwise_cons.1 hs).1 j hjm
      omega
theorem tl_low {t : T4} (h : Wd4 t) (hn : ∃ c, c < 256 ∧ tb t c = true) : ∃ k : Nat, tl t = (k : Int) ∧ k < 256 ∧ tb t k = true ∧ ∀ j, j < k → tb t j = false := by
  unfold tl sleast
  cases he : els (qN t) with
  | nil =>
    exfalso
    obtain ⟨c, hc, hb⟩ := hn
    have : c ∈ els (qN t) := mem_els.2 ⟨hc, by rw [← tb_qN h hc]; exact hb⟩
    rw [he] at this; cases this
  | cons k l =>
    obtain ⟨h1, h2, h3⟩ := filter_head he
    exact ⟨k, rfl, h1, by rw [tb_qN h h1]; exact h2, fun j hj => by rw [tb_qN h (by omega)]; exact h3 j hj⟩
end Go.Proofs.YtealkahefalaeaaGreatDoor
namespace Go.Proofs.YtealkahefalaeaaGreatDoor
open Go Go.Eng Go.Sort Go.Proofs
set_option maxRecDepth 100000
theorem nodup_len : ∀ {l m : List Int}, l.Nodup → (∀ x ∈ l, x ∈ m) → l.length ≤ m.length
  | [], _, _, _ => by simp
  | x :: l, m, hn, hs => by
    obtain ⟨h1, h2⟩ := List.nodup_cons.1 hn
    have hx := hs x (by simp)
    have := nodup_len (l := l) (m := m.erase x) h2 (fun y hy => (List.mem_erase_of_ne (show y ≠ x from fun e => h1 (e ▸ hy))).2 (hs y (by simp [hy])))
    rw [List.length_erase_of_mem hx] at this
    have : 0 < m.length := List.length_pos_of_mem hx
    simp; omega
def alk (T : List T4) (c c' : Nat) : Prop := ∀ t ∈ T, tb t c = tb t c'
theorem alk_refl (T : List T4) (c : Nat) : alk T c c := fun _ _ => rfl
theorem alk.symm {T : List T4} {c c' : Nat} (h : alk T c c') : alk T c' c := fun t ht => (h t ht).symm
theorem alk.trans {T : List T4} {a b c : Nat} (h : alk T a b) (h' : alk T b c) : alk T a c := fun t ht => (h t ht).trans (h' t ht)
theorem alk_snoc {T : List T4} {z : T4} {c c' : Nat} : alk (T ++ [z]) c c' ↔ alk T c c' ∧ tb z c = tb z c' :=
  ⟨fun h => ⟨fun t ht => h t (by simp [ht]), h z (by simp)⟩, fun h t ht => by
    rcases List.mem_append.1 ht with h1 | h1
    · exact h.1 t h1
    · rw [List.mem_singleton] at h1; subst h1; exact h.2⟩
/-- ps: the classes of bytes that the sets of T do not part -/
structure PInv (T : List T4) (ps : List T4) : Prop where
  wd : ∀ p ∈ ps, Wd4 p
  ne : ∀ p ∈ ps, ∃ c, c < 256 ∧ tb p c = true
  cov : ∀ c, c < 256 → ∃ p ∈ ps, tb p c = true
  cls : ∀ p ∈ ps, ∀ c, c < 256 → ∀ c', c' < 256 → tb p c = true → (tb p c' = true ↔ alk T c c')
  dis : ps.Pairwise fun p q => ∀ c, c < 256 → ¬ (tb p c = true ∧ tb q c = true)
theorem PInv.nil : PInv [] [tall] where
  wd p hp := by rw [List.mem_singleton] at hp; subst hp; exact tall_wd
  ne p hp := by rw [List.mem_singleton] at hp; subst hp; exact ⟨0, by omega, tb_all (by omega)⟩
  cov c hc := ⟨tall, by simp, tb_all hc⟩
  cls p hp c _ c' hc' _ := by
    rw [List.mem_singleton] at hp; subst hp
    exact ⟨fun _ t ht => (nomatch ht), fun _ => tb_all hc'⟩
  dis := by simp
theorem PInv.len {T ps : List T4} (h : PInv T ps) : ps.length ≤ 256 := by
  have hn : (ps.map tl).Nodup := by
    refine List.pairwise_map.2 ?_
    refine h.dis.imp_of_mem fun {p q} hp hq hd e => ?_
    obtain ⟨k, hk, k1, k2, _⟩ := tl_low (h.wd p hp) (h.ne p hp)
    obtain ⟨m, hm, m1, m2, _⟩ := tl_low (h.wd q hq) (h.ne q hq)
    have : k = m := by omega
    subst this
    exact hd k k1 ⟨k2, m2⟩
  have := nodup_len hn (m := (List.range 256).map fun n : Nat => (n : Int)) (fun x hx => by
    obtain ⟨p, hp, rfl⟩ := List.mem_map.1 hx
    obtain ⟨k, hk, k1, _⟩ := tl_low (h.wd p hp) (h.ne p hp)
    exact List.mem_map.2 ⟨k, List.mem_range.2 k1, hk.symm⟩)
  simpa using this
def split2 (z p : T4) : List T4 := [tand p z, tsub p z].filter nz
def splitP (z : T4) (ps : List T4) : List T4 := ps.flatMap (split2 z)
theorem mem_split2 {z p q : T4} (hz : Wd4 z) (hp : Wd4 p) (h : q ∈ split2 z p) : Wd4 q ∧ (∃ c, c < 256 ∧ tb q c = true) ∧ ∃ b : Bool, ∀ c, c < 256 → tb q c = (tb p c && (tb z c == b)) := by
  unfold split2 at h
  obtain ⟨h1, h2⟩ := List.mem_filter.1 h
  rcases List.mem_cons.1 h1 with rfl | h1
  · exact ⟨tand_wd hp, (nz_iff (tand_wd hp)).1 h2, true, fun c hc => by rw [tb_and hp hz hc]; cases tb p c <;> cases tb z c <;> rfl⟩
  · rw [List.mem_singleton] at h1
    subst h1
    exact ⟨tsub_wd hp, (nz_iff (tsub_wd hp)).1 h2, false, fun c hc => by rw [tb_sub hp hz hc]; cases tb p c <;> cases tb z c <;> rfl⟩
theorem PInv.step {T ps : List T4} {z : T4} (h : PInv T ps) (hz : Wd4 z) : PInv (T ++ [z]) (splitP z ps) where
  wd q hq := by
    obtain ⟨p, hp, hq⟩ := List.mem_flatMap.1 hq
    exact (mem_split2 hz (h.wd p hp) hq).1
  ne q hq := by
    obtain ⟨p, hp, hq⟩ := List.mem_flatMap.1 hq
    exact (mem_split2 hz (h.wd p hp) hq).2.1
  cov c hc := by
    obtain ⟨p, hp, hb⟩ := h.cov c hc
    have hw := h.wd p hp
    cases hzc : tb z c with
    | true =>
      have hb' : tb (tand p z) c = true := by rw [tb_and hw hz hc, hb, hzc]; rfl
      exact ⟨tand p z, List.mem_flatMap.2 ⟨p, hp, List.mem_filter.2 ⟨by simp, (nz_iff (tand_wd hw)).2 ⟨c, hc, hb'⟩⟩⟩, hb'⟩
    | false =>
      have hb' : tb (tsub p z) c = true := by rw [tb_sub hw hz hc, hb, hzc]; rfl
      exact ⟨tsub p z, List.mem_flatMap.2 ⟨p, hp, List.mem_filter.2 ⟨by simp, (nz_iff (tsub_wd hw)).2 ⟨c, hc, hb'⟩⟩⟩, hb'⟩
  cls q hq c hc c' hc' hb := by
    obtain ⟨p, hp, hq⟩ := List.mem_flatMap.1 hq
    obtain ⟨_, _, b, hbq⟩ := mem_split2 hz (h.wd p hp) hq
    rw [hbq c hc, Bool.and_eq_true, beq_iff_eq] at hb
    rw [hbq c' hc', Bool.and_eq_true, beq_iff_eq, alk_snoc, h.cls p hp c hc c' hc' hb.1, hb.2]
    constructor
    · rintro ⟨h1, h2⟩; exact ⟨h1, h2.symm⟩
    · rintro ⟨h1, h2⟩; exact ⟨h1, h2.symm⟩
  dis := by
    unfold splitP
    rw [List.pairwise_flatMap]
    refine ⟨fun p hp => ?_, ?_⟩
    · unfold split2
      refine List.Pairwise.filter _ ?_
      refine List.pairwise_cons.2 ⟨fun q hq c hc ⟨h1, h2⟩ => ?_, by simp⟩
      rw [List.mem_singleton] at hq
      subst hq
      rw [tb_and (h.wd p hp) hz hc, Bool.and_eq_true] at h1
      rw [tb_sub (h.wd p hp) hz hc, h1.2] at h2
      simp at h2
    · refine h.dis.imp_of_mem fun {p q} hp hq hd x hx y hy c hc ⟨h1, h2⟩ => ?_
      obtain ⟨_, _, b, hbx⟩ := mem_split2 hz (h.wd p hp) hx
      obtain ⟨_, _, b', hby⟩ := mem_split2 hz (h.wd q hq) hy
      rw [hbx c hc, Bool.and_eq_true] at h1
      rw [hby c hc, Bool.and_eq_true] at h2
      exact hd c hc ⟨h1.1, h2.1⟩
theorem PInv.skip {T ps : List T4} {z : T4} (h : PInv T ps) (hz : z ∈ T) : PInv (T ++ [z]) ps where
  wd := h.wd
  ne := h.ne
  cov := h.cov
  cls p hp c hc c' hc' hb := by
    rw [h.cls p hp c hc c' hc' hb, alk_snoc]
    exact ⟨fun h1 => ⟨h1, h1 z hz⟩, fun h1 => h1.1⟩
  dis := h.dis
theorem mget_mset_ne {α β : Type} [BEq α] (hlaw : ∀ a b : α, (a == b) = true ↔ a = b) (m : List (α × β)) (a k : α) (b : β) (hk : k ≠ a) : mget (mset m a b) k = mget m k := by
  unfold mget mset
  congr 1
  cases hi : m.findIdx? fun e => e.1 == a with
  | none =>
    rw [List.find?_append]
    have : (a == k) = false := by
      cases h : a == k with
      | false => rfl
      | true => exact absurd ((hlaw _ _).1 h).symm hk
    simp [this]
  | some i =>
    obtain ⟨h1, h2, h3⟩ := List.findIdx?_eq_some_iff_getElem.1 hi
    have ha := (hlaw _ _).1 h2
    have hka : (a == k) = false := by
      cases h : a == k with
      | false => rfl
      | true => exact absurd ((hlaw _ _).1 h).symm hk
    clear hi h3
    induction m generalizing i with
    | nil => simp at h1
    | cons e m ih =>
      cases i with
      | zero =>
        simp only [List.getElem_cons_zero] at ha
        simp [ha, hka]
      | succ i =>
        simp only [List.modify_succ_cons, List.find?_cons]
        cases h : e.1 == k with
        | true => rfl
        | false =>
          exact ih i (by simpa using h1) (by simpa using h2) (by simpa using ha)
theorem wds_inj {t t' : T4} (h : wds t = wds t') : t = t' := by
  obtain ⟨a, b, c, d⟩ := t
  obtain ⟨a', b', c', d'⟩ := t'
  simp only [wds, List.cons.injEq, and_true] at h
  obtain ⟨rfl, rfl, rfl, rfl⟩ := h
  rfl
section
variable {N : Nat} {S : List Stt} {E : List Int}
theorem bytes_l2 {a b : T4} {out : List T4} (hN : 4294967296 ≤ N) (ho : out.length ≤ 1000) :
    iterO N (fun s : Int × List T4 => F_nfa_Bytes_l2 N a.1 a.2.1 a.2.2.1 a.2.2.2 b.1 b.2.1 b.2.2.1 b.2.2.2 s.1 s.2) (0, out) = some (out ++ [a, b].filter nz) := by
  obtain ⟨M, rfl⟩ : ∃ m, N = m + 3 := ⟨N - 3, by omega⟩
  have step : ∀ (x : T4) (i : Nat) (o : List T4), ([a, b] : List T4)[i]? = some x → i < 2 → o.length ≤ 1001 →
      F_nfa_Bytes_l2 (M + 3) a.1 a.2.1 a.2.2.1 a.2.2.2 b.1 b.2.1 b.2.2.1 b.2.2.2 (i : Int) o = some (.inl (((i + 1 : Nat) : Int), o ++ [x].filter nz)) := by
    intro x i o hx hi ho
    have hx' : idx [(a.1, a.2.1, a.2.2.1, a.2.2.2), (b.1, b.2.1, b.2.2.1, b.2.2.2)] (i : Int) = some x := idx_of hx
    unfold F_nfa_Bytes_l2
    rw [if_pos (by simp; omega), hx']
    simp only [bind, Option.bind_some, F_sets_Set_Empty]
    rw [w64_succ (by omega)]
    cases h : nz x with
    | true =>
      have h' : (!(([x.1, x.2.1, x.2.2.1, x.2.2.2] : List Int) == ([0, 0, 0, 0] : List Int))) = true := h
      rw [if_pos h', app_eq (by simp; omega)]
      simp [h]
    | false =>
      have h' : (!(([x.1, x.2.1, x.2.2.1, x.2.2.2] : List Int) == ([0, 0, 0, 0] : List Int))) = false := h
      rw [h']
      simp [h]
  have h0 := step a 0 out rfl (by omega) (by omega)
  have h1 := step b 1 (out ++ [a].filter nz) rfl (by omega) (by
    have := List.length_filter_le nz [a]
    simp only [List.length_append, List.length_cons, List.length_nil] at this ⊢
    omega)
  have h2 : ∀ o, F_nfa_Bytes_l2 (M + 3) a.1 a.2.1 a.2.2.1 a.2.2.2 b.1 b.2.1 b.2.2.1 b.2.2.2 ((2 : Nat) : Int) o = some (.inr o) := fun o => by unfold F_nfa_Bytes_l2; rw [if_neg (by simp)]
  simp only [iterO]
  rw [show (0 : Int) = ((0 : Nat) : Int) from rfl, h0]
  simp only
  rw [h1]
  simp only
  rw [h2, List.append_assoc, ← List.filter_append]
  rfl
theorem bytes_l1 {x : Stt} {ps : List T4} (hN : 4294967296 ≤ N) (hz : Wd4 x.2.1) (hp : ∀ p ∈ ps, Wd4 p) (hl : ps.length ≤ 256) :
    iterO N (fun s : Int × List T4 => F_nfa_Bytes_l1 N ps x s.1 s.2) (0, []) = some (splitP x.2.1 ps) := by
  have e := loop_fold (f := fun s : Int × List T4 => F_nfa_Bytes_l1 N ps x s.1 s.2) (fun i (o : List T4) => ((i : Int), o)) id ps (fun o p => o ++ split2 x.2.1 p) (fun i o => o.length ≤ 2 * i) (N := N) (s := []) (by omega)
    (by simp)
    (fun i p o hx ho => by
      have hi := lt_len hx
      have hw := hp p (List.mem_of_getElem? hx)
      refine ⟨?_, ?_⟩
      · simp only
        unfold F_nfa_Bytes_l1
        simp only [show ((i : Int) < (ps.length : Int)) by omega, decide_true, if_true, idx_of hx, bind, Option.bind_some]
        rw [tand_spec (by omega) hw hz]
        simp only [Option.bind_some]
        rw [tsub_spec (by omega) hw hz]
        simp only [Option.bind_some]
        rw [bytes_l2 hN (by omega)]
        simp only [Option.bind_some]
        rw [w64_succ (by omega)]
        rfl
      · have := List.length_filter_le nz [tand p x.2.1, tsub p x.2.1]
        simp only [split2, List.length_append, List.length_cons, List.length_nil] at this ⊢
        omega)
    (fun o _ => by simp only; unfold F_nfa_Bytes_l1; simp)
  rw [show iterO N (fun s : Int × List T4 => F_nfa_Bytes_l1 N ps x s.1 s.2) (0, []) = _ from e]
  have key : ∀ (l : List T4) (o : List T4), l.foldl (fun o p => o ++ split2 x.2.1 p) o = o ++ l.flatMap (split2 x.2.1) := by
    intro l
    induction l with
    | nil => intro o; simp
    | cons p l ih => intro o; simp [ih]
  rw [key]
  rfl
def sets (S : List Stt) : List T4 := S.map (·.2.1)
theorem bytes_l0 (hN : 4294967296 ≤ N) (hw : SetW S) (hl : S.length < 4294967296) :
    ∃ ps, iterO N (fun s : Int × List T4 × List (List Int × Int) => F_nfa_Bytes_l0 N S s.1 s.2.1 s.2.2) (0, [tall], []) = some ps ∧ PInv (sets S) ps := by
  obtain ⟨s', h1, h2⟩ := loop_inv (f := fun s : Int × List T4 × List (List Int × Int) => F_nfa_Bytes_l0 N S s.1 s.2.1 s.2.2) (fun i (s : List T4 × List (List Int × Int)) => ((i : Int), s.1, s.2)) (fun s => s.1) S
    (fun i s => PInv (sets (S.take i)) s.1 ∧ ∀ k, (mget s.2 k).getD 0 > 0 → ∃ t ∈ sets (S.take i), wds t = k) (N := N) (s := ([tall], [])) (by omega)
    ⟨by simpa [sets] using PInv.nil, fun k hk => by simp [mget] at hk⟩
    (fun i x s hx ⟨hI, hM⟩ => by
      have hi := lt_len hx
      have hz : Wd4 x.2.1 := hw x (List.mem_of_getElem? hx)
      have ht : sets (S.take (i + 1)) = sets (S.take i) ++ [x.2.1] := by
        unfold sets
        rw [List.take_add_one, hx]; simp
      obtain ⟨ps, m⟩ := s
      simp only at hI hM ⊢
      unfold F_nfa_Bytes_l0
      simp only [show ((i : Int) < (S.length : Int)) by omega, decide_true, if_true, idx_of hx, bind, Option.bind_some]
      rw [w64_succ (by omega), ht]
      by_cases hc : (mget m [x.2.1.1, x.2.1.2.1, x.2.1.2.2.1, x.2.1.2.2.2]).getD 0 > 0
      · refine ⟨(ps, m), by simp only [hc, decide_true, if_true, Option.bind_some], ?_, fun k hk => ?_⟩
        · obtain ⟨t, ht1, ht2⟩ := hM _ hc
          obtain rfl : t = x.2.1 := wds_inj ht2
          exact hI.skip ht1
        · obtain ⟨t, h1, h2⟩ := hM k hk
          exact ⟨t, by simp [h1], h2⟩
      · refine ⟨(splitP x.2.1 ps, mset (mset m [x.2.1.1, x.2.1.2.1, x.2.1.2.2.1, x.2.1.2.2.2] ((mget m [x.2.1.1, x.2.1.2.1, x.2.1.2.2.1, x.2.1.2.2.2]).getD 0)) [x.2.1.1, x.2.1.2.1, x.2.1.2.2.1, x.2.1.2.2.2] (w64 ((mget m [x.2.1.1, x.2.1.2.1, x.2.1.2.2.1, x.2.1.2.2.2]).getD 0 + 1))), by simp only [hc, decide_false, Bool.false_eq_true, if_false, bytes_l1 hN hz hI.wd hI.len, Option.bind_some], hI.step hz, fun k hk => ?_⟩
        by_cases hk' : k = [x.2.1.1, x.2.1.2.1, x.2.1.2.2.1, x.2.1.2.2.2]
        · exact ⟨x.2.1, by simp, hk'.symm⟩
        · simp only at hk
          rw [mget_mset_ne (fun a b => beq_iff_eq) _ _ _ _ hk', mget_mset_ne (fun a b => beq_iff_eq) _ _ _ _ hk'] at hk
          obtain ⟨t, h1, h2⟩ := hM k hk
          exact ⟨t, by simp [h1], h2⟩)
    (fun s _ => by simp only; unfold F_nfa_Bytes_l0; simp)
  refine ⟨s'.1, h1, ?_⟩
  have := h2.1
  rw [List.take_length] at this
  exact this
end
theorem wr_wd (x : T4) : Wd4 (wr4 x) := by
  have : ∀ n : Int, Wd (IntKind.u64.wrap n) := by
    intro n
    unfold Wd
    simp only [IntKind.wrap, IntKind.bits, IntKind.signed]
    simp
    omega
  exact ⟨this _, this _, this _, this _⟩
theorem wr_id {x : T4} (h : Wd4 x) : wr4 x = x := by
  obtain ⟨⟨h1, g1⟩, ⟨h2, g2⟩, ⟨h3, g3⟩, ⟨h4, g4⟩⟩ := h
  unfold wr4
  rw [wrapU64 h1 (by omega), wrapU64 h2 (by omega), wrapU64 h3 (by omega), wrapU64 h4 (by omega)]
def cmpI (a b : Int) : Int := if a < b then -1 else if a > b then 1 else 0
section
variable {N : Nat}
theorem cmp_int (a b : Int) : F_cmp_Compare_int N a b = some (cmpI a b) := by
  unfold F_cmp_Compare_int F_cmp_isNaN_int cmpI
  by_cases h1 : a < b
  · simp [h1]
  · by_cases h2 : a > b <;> simp [h1, h2]
theorem bytes1_spec {a b : T4} (hN : 70 ≤ N) (ha : Wd4 a) (hb : Wd4 b) : F_nfa_Bytes_1 N a.1 a.2.1 a.2.2.1 a.2.2.2 b.1 b.2.1 b.2.2.1 b.2.2.2 = some (cmpI (tl a) (tl b)) := by
  unfold F_nfa_Bytes_1
  rw [tl_spec hN ha]
  simp only [bind, Option.bind_some]
  rw [tl_spec hN hb]
  simp only [Option.bind_some, cmp_int]
abbrev cmpN (N : Nat) (a b : T4) : Option Int := F_nfa_Bytes_1 N a.1 a.2.1 a.2.2.1 a.2.2.2 b.1 b.2.1 b.2.2.1 b.2.2.2
theorem cf4_eq (hN : 70 ≤ N) (x y : T4) : cf4 (cmpN N) x y = cmpI (tl (wr4 x)) (tl (wr4 y)) := by
  unfold cf4
  rw [show cmpN N (wr4 x) (wr4 y) = _ from bytes1_spec hN (wr_wd x) (wr_wd y)]
  rfl
theorem lt_eq (hN : 70 ≤ N) (x y : T4) : ltOf (cf4 (cmpN N)) x y = decide (tl (wr4 x) < tl (wr4 y)) := by
  unfold ltOf
  rw [cf4_eq hN]
  unfold cmpI
  by_cases h1 : tl (wr4 x) < tl (wr4 y)
  · simp [h1]
  · by_cases h2 : tl (wr4 x) > tl (wr4 y) <;> simp [h1, h2]
theorem swo4 (hN : 70 ≤ N) : SWO (ltOf (cf4 (cmpN N))) where
  irrefl x := by rw [lt_eq hN]; simp
  trans x y z h1 h2 := by rw [lt_eq hN] at *; simp at *; omega
  ntrans x y z h1 h2 := by rw [lt_eq hN] at *; simp at *; omega
theorem sort_spec {ps : List T4} (hN : 70 ≤ N) (hw : ∀ p ∈ ps, Wd4 p) (h0 : ps ≠ []) (hl : ps.length ≤ 256) :
    ∃ l, sortF (fun a b => F_nfa_Bytes_1 N a.1 a.2.1 a.2.2.1 a.2.2.2 b.1 b.2.1 b.2.2.1 b.2.2.2) ps = some l ∧ l.Perm ps ∧ l.Pairwise fun p q => tl p ≤ tl q := by
  have hc : CanSort (cmpN N) ps := ⟨fun x hx => wr_id (hw x hx), h0, by omega, fun x y => by rw [cf4_eq hN]; exact bytes1_spec hN (wr_wd x) (wr_wd y), swo4 hN⟩
  obtain ⟨⟨h1, h2, h3⟩, h4⟩ := pdq_sorts (ltOf (cf4 (cmpN N))) (swo4 hN) ps.toArray 0 ps.toArray.size (Lib.bitLen ps.toArray.size) true true (Nat.zero_le _) (Nat.le_refl _) (Or.inl rfl)
  have e : sortF (cmpN N) ps = some ((pdq (ltOf (cf4 (cmpN N))) ps.toArray 0 ps.toArray.size (Lib.bitLen ps.toArray.size) true true).toList.map wr4) := by
    unfold sortF
    rw [if_pos hc]
  refine ⟨_, e, ?_⟩
  generalize pdq (ltOf (cf4 (cmpN N))) ps.toArray 0 ps.toArray.size (Lib.bitLen ps.toArray.size) true true = d at h1 h2 h3 h4
  have hp : d.toList.Perm ps := by
    rw [← h1] at h3
    simp only [Array.extract_size] at h3
    rw [h1] at h3
    simpa using h3
  have hm : d.toList.map wr4 = d.toList := by
    conv => rhs; rw [← List.map_id d.toList]
    exact List.map_congr_left fun x hx => wr_id (hw x (hp.mem_iff.1 hx))
  rw [hm]
  refine ⟨hp, ?_⟩
  rw [List.pairwise_iff_getElem]
  intro i j hi hj hij
  have := h4 i j (Nat.zero_le _) hij (by simpa [← h1] using hj)
  rw [lt_eq hN] at this
  have gi : d[i]! = d.toList[i] := by rw [getElem!_pos d i (by simpa using hi)]; simp
  have gj : d[j]! = d.toList[j] := by rw [getElem!_pos d j (by simpa using hj)]; simp
  rw [gi, gj, wr_id (hw _ (hp.mem_iff.1 (List.getElem_mem hi))), wr_id (hw _ (hp.mem_iff.1 (List.getElem_mem hj)))] at this
  simpa using this
end
/-- .. and no two begin alike -/
theorem sorted_strict {T ps l : List T4} (h : PInv T ps) (hp : l.Perm ps) (hs : l.Pairwise fun p q => tl p ≤ tl q) : PInv T l ∧ l.Pairwise fun p q => tl p < tl q := by
  have hI : PInv T l :=
    { wd := fun p hp' => h.wd p (hp.mem_iff.1 hp')
      ne := fun p hp' => h.ne p (hp.mem_iff.1 hp')
      cov := fun c hc => (h.cov c hc).imp fun p hp' => ⟨hp.mem_iff.2 hp'.1, hp'.2⟩
      cls := fun p hp' => h.cls p (hp.mem_iff.1 hp')
      dis := hp.symm.pairwise h.dis fun {p q} hd c hc ⟨a, b⟩ => hd c hc ⟨b, a⟩ }
  refine ⟨hI, ?_⟩
  have := hs.and hI.dis
  refine this.imp_of_mem fun {p q} hp' hq' ⟨h1, h2⟩ => ?_
  obtain ⟨k, hk, k1, k2, _⟩ := tl_low (hI.wd p hp') (hI.ne p hp')
  obtain ⟨m, hm, m1, m2, _⟩ := tl_low (hI.wd q hq') (hI.ne q hq')
  by_cases e : tl p = tl q
  · exfalso
    have : k = m := by omega
    subst this
    exact h2 k k1 ⟨k2, m2⟩
  · omega
section
variable {N : Nat} {S : List Stt} {E : List Int}
theorem nfaBytes_spec (hN : 4294967296 ≤ N) (hs : NSz S E) (hw : SetW S) :
    ∃ l, F_nfa_Bytes N S E = some l ∧ (rtB S E = false → l = []) ∧ (rtB S E = true → PInv (sets S) l ∧ l.Pairwise fun p q => tl p < tl q) := by
  unfold F_nfa_Bytes
  rw [nfaRight_spec hN hs]
  simp only [bind, Option.bind_some]
  cases hr : rtB S E with
  | false => exact ⟨[], rfl, fun _ => rfl, fun h => by cases h⟩
  | true =>
    simp only [Bool.not_true, Bool.false_eq_true, if_false]
    rw [tall_spec (by omega)]
    simp only [Option.bind_some]
    obtain ⟨ps, h1, h2⟩ := bytes_l0 hN hw hs.a
    have h1' : iterO N (fun s => F_nfa_Bytes_l0 N S s.1 s.2.1 s.2.2) (0, [(tall.1, tall.2.1, tall.2.2.1, tall.2.2.2)], ([] : List ((List Int) × Int))) = some ps := h1
    rw [h1']
    simp only [Option.bind_some]
    have h0 : ps ≠ [] := by
      obtain ⟨p, hp, _⟩ := h2.cov 0 (by omega)
      rintro rfl
      cases hp
    obtain ⟨l, g1, g2, g3⟩ := sort_spec (N := N) (by omega) h2.wd h0 h2.len
    rw [g1]
    refine ⟨l, rfl, fun h => (by cases h), fun _ => sorted_strict h2 g2 g3⟩
end
end Go.Proofs.YtealkahefalaeaaGreatDoor
namespace Go.Proofs.YtealkahefalaeaaGreatDoor
open Go Go.Eng
set_option maxRecDepth 100000
theorem add_bit {a k : Nat} (h : a < 2 ^ k) (hk : k < 64) : a + 2 ^ k < 18446744073709551616 ∧ ∀ m, (a + 2 ^ k).testBit m = (a.testBit m || m == k) := by
  have h2 : 2 ^ (k + 1) ≤ 2 ^ 64 := Nat.pow_le_pow_right (by omega) (by omega)
  have h3 : a + 2 ^ k < 2 ^ (k + 1) := by rw [Nat.pow_succ]; omega
  refine ⟨by have : (2 : Nat) ^ 64 = 18446744073709551616 := by decide
             omega, fun m => ?_⟩
  rw [Nat.add_comm a]
  by_cases h1 : m < k
  · rw [Nat.testBit_two_pow_add_gt h1]
    have : (m == k) = false := by simp; omega
    rw [this, Bool.or_false]
  · have ha : a.testBit m = false := Nat.testBit_lt_two_pow (Nat.lt_of_lt_of_le h (Nat.pow_le_pow_right (by omega) (by omega)))
    rw [ha]
    by_cases h4 : m = k
    · subst h4
      rw [Nat.testBit_two_pow_add_eq, ha]; simp
    · have : (m == k) = false := by simp; omega
      rw [this]
      exact Nat.testBit_lt_two_pow (Nat.lt_of_lt_of_le (by omega : 2 ^ k + a < 2 ^ (k + 1)) (Nat.pow_le_pow_right (by omega) (by omega)))
def qset (s : Q4) (j v : Nat) : Q4 := (if j = 0 then v else s.1, if j = 1 then v else s.2.1, if j = 2 then v else s.2.2.1, if j = 3 then v else s.2.2.2)
theorem wd_qset {s : Q4} {j v m : Nat} (hj : j < 4) (hm : m < 4) : wd (qset s j v) m = if m = j then v else wd s m := by
  rcases four hj with rfl | rfl | rfl | rfl <;> rcases four hm with rfl | rfl | rfl | rfl <;> rfl
theorem qset_64 {s : Q4} {j v : Nat} (h : S64 s) (hv : v < 18446744073709551616) : S64 (qset s j v) := by
  obtain ⟨h1, h2, h3, h4⟩ := h
  refine ⟨?_, ?_, ?_, ?_⟩ <;> simp only [qset] <;> split <;> assumption
theorem dv64 {c : Nat} (hc : c < 256) : w64 ((c : Int).tdiv 64) = ((c / 64 : Nat) : Int) := by
  have : (c : Int).tdiv 64 = ((c / 64 : Nat) : Int) := by rw [Int.tdiv_eq_ediv_of_nonneg (by omega)]; omega
  rw [this, w64, wrap64] <;> omega
theorem md64 (c : Nat) : IntKind.wrap .u64 ((c : Int).tmod 64) = ((c % 64 : Nat) : Int) := by
  have : (c : Int).tmod 64 = ((c % 64 : Nat) : Int) := by rw [Int.tmod_eq_emod_of_nonneg (by omega)]; omega
  rw [this, wrapN]; omega
theorem nn_nat (k : Nat) : nn (k : Int) = some () := by simp [nn]
theorem idx_wd {s : Q4} {j : Nat} (hj : j < 4) : idx [(s.1 : Int), (s.2.1 : Int), (s.2.2.1 : Int), (s.2.2.2 : Int)] (j : Int) = some ((wd s j : Nat) : Int) := by
  rcases four hj with rfl | rfl | rfl | rfl <;> rfl
section
variable {N : Nat} {S : List Stt} {E : List Int}
theorem refHas_spec {t : T4} (h : Wd4 t) {c : Nat} (hc : c < 256) : F_dofferref01_Has N t.1 t.2.1 t.2.2.1 t.2.2.2 (c : Int) = some (tb t c) := by
  have e := qI_qN h
  generalize hs : qN t = s at e
  have h64 : S64 s := hs ▸ qN_64 h
  subst e
  unfold F_dofferref01_Has
  have hi := idx_wd (s := s) (show c / 64 < 4 by omega)
  have hi' : idx [(qI s).1, (qI s).2.1, (qI s).2.2.1, (qI s).2.2.2] ((c / 64 : Nat) : Int) = some ((wd s (c / 64) : Nat) : Int) := hi
  have hw := wd_lt h64 (c / 64)
  rw [dv64 hc, md64, hi', shl_one (by omega)]
  have hp : 0 < 2 ^ (c % 64) := Nat.two_pow_pos _
  have hz : Go.Eng.nz (((2 ^ (c % 64) : Nat)) : Int) = some () := by
    unfold Go.Eng.nz
    rw [if_neg (by omega)]
  simp only [bind, Option.bind_some, nn_nat, hz]
  rw [tb_qI hc]
  unfold bs
  generalize wd s (c / 64) = a at hw ⊢
  have e2 : ((a : Int).tdiv ((2 ^ (c % 64) : Nat) : Int)) = ((a / 2 ^ (c % 64) : Nat) : Int) := by
    rw [Int.tdiv_eq_ediv_of_nonneg (by omega)]; rfl
  have hq : a / 2 ^ (c % 64) < 18446744073709551616 := Nat.lt_of_le_of_lt (Nat.div_le_self _ _) hw
  rw [e2, wrapN hq, Nat.testBit_eq_decide_div_mod_eq]
  generalize a / 2 ^ (c % 64) = q
  congr 1
  rw [Bool.eq_iff_iff, beq_iff_eq, decide_eq_true_eq, Int.tmod_eq_emod_of_nonneg (by omega)]
  omega
theorem refOf_spec {row : List Bool} (hN : 4294967296 ≤ N) (hl : row.length = 256) : ∃ q : T4, F_dofferref01_Of N row = some q ∧ Wd4 q ∧ ∀ c, c < 256 → tb q c = row.getD c false := by
  obtain ⟨s, h1, h2, h3⟩ := loop_inv (f := fun s : Int × Int × Int × Int × Int => F_dofferref01_Of_l0 N row s.1 s.2.1 s.2.2.1 s.2.2.2.1 s.2.2.2.2) (fun i (s : Q4) => ((s.1 : Int), (s.2.1 : Int), (s.2.2.1 : Int), (s.2.2.2 : Int), (i : Int))) qI row
    (fun i s => S64 s ∧ ∀ c, c < 256 → bs s c = (decide (c < i) && row.getD c false)) (N := N) (s := (0, 0, 0, 0)) (by omega)
    ⟨⟨by decide, by decide, by decide, by decide⟩, fun c hc => by
      unfold bs wd
      simp⟩
    (fun i x s hx ⟨hs, hb⟩ => by
      have hi := lt_len hx
      have hi256 : i < 256 := by omega
      have hxd : row.getD i false = x := by rw [List.getD, hx]; rfl
      unfold F_dofferref01_Of_l0
      simp only [show ((i : Int) < 256) by omega, decide_true, if_true, idx_of hx, bind, Option.bind_some]
      rw [w64_succ (by omega)]
      cases x with
      | false =>
        refine ⟨s, by simp, hs, fun c hc => ?_⟩
        rw [hb c hc]
        by_cases h1 : c < i
        · simp [h1, show c < i + 1 by omega]
        · by_cases h2 : c = i
          · subst h2; simp [hx]
          · simp [h1, show ¬ c < i + 1 by omega]
      | true =>
        have hj : i / 64 < 4 := by omega
        have hk : i % 64 < 64 := by omega
        have hlow : wd s (i / 64) < 2 ^ (i % 64) := by
          apply Nat.lt_pow_two_of_testBit
          intro m hm
          by_cases h64 : m < 64
          · have := hb (64 * (i / 64) + m) (by omega)
            unfold bs at this
            rw [show (64 * (i / 64) + m) / 64 = i / 64 by omega, show (64 * (i / 64) + m) % 64 = m by omega] at this
            rw [this]
            have : ¬ 64 * (i / 64) + m < i := by omega
            simp [this]
          · exact Nat.testBit_lt_two_pow (Nat.lt_of_lt_of_le (show wd s (i / 64) < 2 ^ 64 by simpa using wd_lt hs _) (Nat.pow_le_pow_right (by omega) (by omega)))
        obtain ⟨a1, a2⟩ := add_bit hlow hk
        have e2 : IntKind.wrap .u64 (((wd s (i / 64) : Nat) : Int) + ((2 ^ (i % 64) : Nat) : Int)) = ((wd s (i / 64) + 2 ^ (i % 64) : Nat) : Int) := by
          rw [← Int.natCast_add, wrapN a1]
        refine ⟨qset s (i / 64) (wd s (i / 64) + 2 ^ (i % 64)), ?_, qset_64 hs a1, fun c hc => ?_⟩
        · simp only [if_true, dv64 hi256, md64, idx_wd hj, nn_nat, Option.bind_some, shl_one hk, e2]
          generalize wd s (i / 64) + 2 ^ (i % 64) = v
          rcases four hj with h | h | h | h <;> rw [h] <;> rfl
        · unfold bs
          rw [wd_qset hj (by omega)]
          by_cases h1 : c / 64 = i / 64
          · rw [if_pos h1, a2, ← h1, show (wd s (c / 64)).testBit (c % 64) = bs s c from rfl, hb c hc]
            by_cases h2 : c = i
            · subst h2; simp [hx]
            · have h3 : (c % 64 == i % 64) = false := by simp; omega
              rw [h3]
              by_cases h4 : c < i
              · simp [h4, show c < i + 1 by omega]
              · simp [h4, show ¬ c < i + 1 by omega]
          · rw [if_neg h1, show (wd s (c / 64)).testBit (c % 64) = bs s c from rfl, hb c hc]
            have h2 : c ≠ i := fun e => h1 (by rw [e])
            by_cases h4 : c < i
            · simp [h4, show c < i + 1 by omega]
            · simp [h4, show ¬ c < i + 1 by omega])
    (fun s _ => by simp only; unfold F_dofferref01_Of_l0; rw [hl]; simp [qI])
  refine ⟨qI s, ?_, qI_wd h2, fun c hc => ?_⟩
  · unfold F_dofferref01_Of
    have h1' : iterO N (fun s => F_dofferref01_Of_l0 N row s.1 s.2.1 s.2.2.1 s.2.2.2.1 s.2.2.2.2) (0, 0, 0, 0, 0) = some (qI s) := h1
    rw [h1']
    rfl
  · rw [tb_qI hc, h3 c hc]
    simp [hl, hc]
def alkB (S : List Stt) (c f : Nat) : Bool := S.all fun s => tb s.2.1 c == tb s.2.1 f
theorem alkB_iff {c f : Nat} : alkB S c f = true ↔ alk (sets S) c f := by
  unfold alkB alk sets
  rw [List.all_eq_true]
  constructor
  · intro h t ht
    obtain ⟨s, hs, rfl⟩ := List.mem_map.1 ht
    exact eq_of_beq (h s hs)
  · intro h s hs
    rw [h s.2.1 (List.mem_map.2 ⟨s, hs, rfl⟩)]
    simp
theorem refBytes_l2 (hN : 4294967296 ≤ N) (hw : SetW S) (hl : S.length < 4294967296) {c f : Nat} (hc : c < 256) (hf : f < 256) :
    iterO N (fun s : Int × Bool => F_dofferref15_Bytes_l2 N S (c : Int) (f : Int) s.1 s.2) (0, true) = some (alkB S c f) := by
  have e := loop_fold (f := fun s : Int × Bool => F_dofferref15_Bytes_l2 N S (c : Int) (f : Int) s.1 s.2) (fun i (o : Bool) => ((i : Int), o)) id S (fun o s => o && (tb s.2.1 c == tb s.2.1 f)) (fun _ _ => True) (N := N) (s := true) (by omega) trivial
    (fun i x o hx _ => by
      have hi := lt_len hx
      have hz : Wd4 x.2.1 := hw x (List.mem_of_getElem? hx)
      refine ⟨?_, trivial⟩
      simp only
      unfold F_dofferref15_Bytes_l2
      simp only [show ((i : Int) < (S.length : Int)) by omega, decide_true, if_true, idx_of hx, bind, Option.bind_some]
      rw [refHas_spec hz hc, refHas_spec hz hf, w64_succ (by omega)]
      cases o <;> simp)
    (fun o _ => by simp only; unfold F_dofferref15_Bytes_l2; simp)
  rw [show iterO N (fun s : Int × Bool => F_dofferref15_Bytes_l2 N S (c : Int) (f : Int) s.1 s.2) (0, true) = _ from e]
  have key : ∀ (l : List Stt) (o : Bool), l.foldl (fun o s => o && (tb s.2.1 c == tb s.2.1 f)) o = (o && l.all fun s => tb s.2.1 c == tb s.2.1 f) := by
    intro l
    induction l with
    | nil => intro o; simp
    | cons s l ih => intro o; simp only [List.foldl_cons, ih, List.all_cons, Bool.and_assoc]
  rw [key]
  simp [alkB]
abbrev ints (G : List Nat) : List Int := G.map fun n : Nat => (n : Int)
theorem refBytes_l1 (hN : 4294967296 ≤ N) (hw : SetW S) (hl : S.length < 4294967296) {G : List Nat} (hG : ∀ g ∈ G, g < 256) (hGl : G.length ≤ 256) {c : Nat} (hc : c < 256) :
    ∃ a : Int, iterO N (fun s : Int × Int => F_dofferref15_Bytes_l1 N S (ints G) (c : Int) s.1 s.2) (0, -1) = some a ∧
      ((a = -1 ∧ ∀ g ∈ G, alkB S c g = false) ∨ ∃ (k g : Nat), a = (k : Int) ∧ G[k]? = some g ∧ alkB S c g = true) := by
  obtain ⟨a, h1, h2⟩ := loop_inv (f := fun s : Int × Int => F_dofferref15_Bytes_l1 N S (ints G) (c : Int) s.1 s.2) (fun i (s : Int) => ((i : Int), s)) id G
    (fun i a => (a = -1 ∧ ∀ g ∈ G.take i, alkB S c g = false) ∨ ∃ (k g : Nat), a = (k : Int) ∧ G[k]? = some g ∧ alkB S c g = true) (N := N) (s := -1) (by omega)
    (.inl ⟨rfl, by simp⟩)
    (fun i g a hx hI => by
      have hi := lt_len hx
      have hg := hG g (List.mem_of_getElem? hx)
      have hx' : idx (ints G) (i : Int) = some (g : Int) := idx_of (by rw [List.getElem?_map, hx]; rfl)
      unfold F_dofferref15_Bytes_l1
      simp only [show ((i : Int) < ((ints G).length : Int)) by simp [ints]; omega, decide_true, if_true, hx', bind, Option.bind_some]
      rw [refBytes_l2 hN hw hl hc hg, w64_succ (by omega)]
      simp only [Option.bind_some]
      rcases hI with ⟨rfl, hI⟩ | ⟨k, g', rfl, hk, hb⟩
      · cases ha : alkB S c g with
        | true => exact ⟨(i : Int), by simp, .inr ⟨i, g, rfl, hx, ha⟩⟩
        | false =>
          refine ⟨-1, by simp, .inl ⟨rfl, fun g' hg' => ?_⟩⟩
          rw [List.take_add_one, hx] at hg'
          rcases List.mem_append.1 hg' with h | h
          · exact hI g' h
          · simp at h; subst h; exact ha
      · have : ¬ ((k : Int) < 0) := by omega
        refine ⟨(k : Int), ?_, .inr ⟨k, g', rfl, hk, hb⟩⟩
        cases alkB S c g <;> simp [this])
    (fun s _ => by simp only; unfold F_dofferref15_Bytes_l1; simp [ints])
  refine ⟨a, h1, ?_⟩
  rw [List.take_length] at h2
  exact h2
/-- a first one's row, as far as it is made -/
def rowO (S : List Stt) (i g : Nat) : List Bool := (List.range 256).map fun c => decide (c < i) && alkB S c g
theorem rowO_len (i g : Nat) : (rowO S i g).length = 256 := by simp [rowO]
theorem rowO_get {i g c : Nat} (hc : c < 256) : (rowO S i g)[c]? = some (decide (c < i) && alkB S c g) := by simp [rowO, hc]
theorem rowO_stay {i g : Nat} (h : alkB S i g = false) : rowO S (i + 1) g = rowO S i g := by
  unfold rowO
  apply List.map_congr_left
  intro c _
  by_cases h1 : c = i
  · subst h1; simp [h]
  · by_cases h2 : c < i
    · simp [h2, show c < i + 1 by omega]
    · simp [h2, show ¬ c < i + 1 by omega]
theorem rowO_set {i g : Nat} (_hi : i < 256) (h : alkB S i g = true) : (rowO S i g).set i true = rowO S (i + 1) g := by
  apply List.ext_getElem?
  intro c
  by_cases hc : c < 256
  · by_cases h1 : i = c
    · subst h1
      rw [List.getElem?_set_self (by rw [rowO_len]; exact hc), rowO_get hc]
      simp [h]
    · rw [List.getElem?_set_ne h1, rowO_get hc, rowO_get hc]
      by_cases h2 : c < i
      · simp [h2, show c < i + 1 by omega]
      · simp [h2, show ¬ c < i + 1 by omega]
  · rw [List.getElem?_eq_none (by simp [rowO_len]; omega), List.getElem?_eq_none (by simp [rowO_len]; omega)]
structure FI (S : List Stt) (i : Nat) (G : List Nat) : Prop where
  lt : ∀ g ∈ G, g < i
  inc : G.Pairwise (· < ·)
  len : G.length ≤ i
  cov : ∀ c, c < i → ∃ g ∈ G, g ≤ c ∧ alk (sets S) c g
  apt : G.Pairwise fun f g => ¬ alk (sets S) f g
theorem FI.one {i : Nat} {G : List Nat} (h : FI S i G) {f g c : Nat} (hf : f ∈ G) (hg : g ∈ G) (h1 : alk (sets S) c f) (h2 : alk (sets S) c g) : f = g := by
  refine Classical.byContradiction fun hne => ?_
  have : alk (sets S) f g := h1.symm.trans h2
  obtain ⟨a, ha⟩ := List.mem_iff_getElem?.1 hf
  obtain ⟨b, hb⟩ := List.mem_iff_getElem?.1 hg
  have hal := lt_len ha
  have hbl := lt_len hb
  rw [List.getElem?_eq_getElem hal] at ha
  rw [List.getElem?_eq_getElem hbl] at hb
  have ha := Option.some.inj ha
  have hb := Option.some.inj hb
  have hp := List.pairwise_iff_getElem.1 h.apt
  rcases Nat.lt_trichotomy a b with hab | hab | hab
  · exact hp a b hal hbl hab (by rw [ha, hb]; exact this)
  · subst hab; exact hne (ha.symm.trans hb)
  · exact hp b a hbl hal hab (by rw [ha, hb]; exact this.symm)
theorem refBytes_l0 (hN : 4294967296 ≤ N) (hw : SetW S) (hl : S.length < 4294967296) :
    ∃ G, iterO N (fun s : List Int × List (List Bool) × Int => F_dofferref15_Bytes_l0 N S s.1 s.2.1 s.2.2) ([], [], 0) = some (G.map (rowO S 256)) ∧ FI S 256 G := by
  obtain ⟨G, h1, h2⟩ := loop_inv (f := fun s : List Int × List (List Bool) × Int => F_dofferref15_Bytes_l0 N S s.1 s.2.1 s.2.2) (fun i (G : List Nat) => (ints G, G.map (rowO S i), (i : Int))) (fun G => G.map (rowO S 256)) (List.range 256)
    (fun i G => FI S i G) (N := N) (s := []) (by simp; omega)
    ⟨by simp, by simp, by simp, fun c hc => by omega, by simp⟩
    (fun i x G hx hI => by
      obtain ⟨hi, _⟩ := range_get hx
      obtain ⟨a, e1, e2⟩ := refBytes_l1 hN hw hl (fun g hg => Nat.lt_trans (hI.lt g hg) hi) (Nat.le_trans hI.len (Nat.le_of_lt hi)) (c := i) hi
      unfold F_dofferref15_Bytes_l0
      simp only [show ((i : Int) < 256) by omega, decide_true, if_true, bind]
      rw [show iterO N (fun s : Int × Int => F_dofferref15_Bytes_l1 N S (ints G) (i : Int) s.1 s.2) (0, -1) = _ from e1, w64_succ (by omega)]
      simp only [Option.bind_some]
      have hGl := hI.len
      rcases e2 with ⟨rfl, hnone⟩ | ⟨k, g, rfl, hk, hb⟩
      · have hz : mk false 256 = some (List.replicate 256 false) := mk_eq (n := 256) (by omega)
        have ea : app (ints G) [(i : Int)] = some (ints (G ++ [i])) := by rw [app_eq (by simp; omega)]; simp
        have eb : app (G.map (rowO S i)) [List.replicate 256 false] = some (G.map (rowO S i) ++ [List.replicate 256 false]) := app_eq (by simp; omega)
        have ec : idx (G.map (rowO S i) ++ [List.replicate 256 false]) ((ints G).length : Int) = some (List.replicate 256 false) := idx_of (by simp)
        have ed : idx (List.replicate 256 false) (i : Int) = some false := idx_of (by rw [List.getElem?_replicate, if_pos hi])
        have ee : setI (List.replicate 256 false) (i : Int) true = some ((List.replicate 256 false).set i true) := setI_nat (by simp [hi])
        have ef : setI (G.map (rowO S i) ++ [List.replicate 256 false]) ((ints G).length : Int) ((List.replicate 256 false).set i true) = some (G.map (rowO S i) ++ [(List.replicate 256 false).set i true]) := by
          rw [setI_nat (by simp)]
          simp
        have hself : alkB S i i = true := alkB_iff.2 (alk_refl _ _)
        have hnew : ∀ c, c < i → alkB S c i = false := fun c hc => by
          cases h : alkB S c i with
          | false => rfl
          | true =>
            obtain ⟨g, hg, _, hcg⟩ := hI.cov c hc
            have h2 := hnone g hg
            have h3 : alkB S i g = true := alkB_iff.2 ((alkB_iff.1 h).symm.trans hcg)
            rw [h2] at h3; cases h3
        have er : G.map (rowO S i) ++ [(List.replicate 256 false).set i true] = (G ++ [i]).map (rowO S (i + 1)) := by
          rw [List.map_append]
          congr 1
          · exact List.map_congr_left fun g hg => (rowO_stay (hnone g hg)).symm
          · simp only [List.map_cons, List.map_nil]
            congr 1
            apply List.ext_getElem?
            intro c
            by_cases hc : c < 256
            · rw [rowO_get hc]
              by_cases h1 : i = c
              · subst h1
                rw [List.getElem?_set_self (by simpa using hc)]
                simp [hself]
              · rw [List.getElem?_set_ne h1, List.getElem?_replicate, if_pos hc]
                by_cases h2 : c < i
                · simp [hnew c h2]
                · simp [show ¬ c < i + 1 by omega]
            · rw [List.getElem?_eq_none (by simp; omega), List.getElem?_eq_none (by rw [rowO_len]; omega)]
        refine ⟨G ++ [i], ?_, ?_⟩
        · simp only [show ((-1 : Int) < 0) by omega, decide_true, if_true, ea, hz, eb, Option.bind_some, ec, ed, ee, ef, er]
        · refine ⟨fun g hg => ?_, ?_, by simp; exact hGl, fun c hc => ?_, ?_⟩
          · rcases List.mem_append.1 hg with h | h
            · have := hI.lt g h; omega
            · simp at h; omega
          · exact List.pairwise_append.2 ⟨hI.inc, by simp, fun g hg j hj => by simp at hj; subst hj; exact hI.lt g hg⟩
          · by_cases h : c = i
            · subst h; exact ⟨c, by simp, Nat.le_refl _, alk_refl _ _⟩
            · obtain ⟨g, hg, h1, h2⟩ := hI.cov c (by omega)
              exact ⟨g, by simp [hg], h1, h2⟩
          · refine List.pairwise_append.2 ⟨hI.apt, by simp, fun g hg j hj hal => ?_⟩
            simp at hj; subst hj
            have h2 := hnone g hg
            have h3 : alkB S j g = true := alkB_iff.2 hal.symm
            rw [h2] at h3; cases h3
      · have hkl := lt_len hk
        have hgm := List.mem_of_getElem? hk
        have ec : idx (G.map (rowO S i)) (k : Int) = some (rowO S i g) := idx_of (by rw [List.getElem?_map, hk]; rfl)
        have ed : idx (rowO S i g) (i : Int) = some (decide (i < i) && alkB S i g) := idx_of (rowO_get hi)
        have ee : setI (rowO S i g) (i : Int) true = some (rowO S (i + 1) g) := by rw [setI_nat (by rw [rowO_len]; exact hi), rowO_set hi hb]
        have ef : setI (G.map (rowO S i)) (k : Int) (rowO S (i + 1) g) = some (G.map (rowO S (i + 1))) := by
          rw [setI_nat (by simpa using hkl)]
          congr 1
          apply List.ext_getElem?
          intro j
          by_cases hj : k = j
          · subst hj
            rw [List.getElem?_set_self (by simpa using hkl), List.getElem?_map, hk]; rfl
          · rw [List.getElem?_set_ne hj, List.getElem?_map, List.getElem?_map]
            cases hgj : G[j]? with
            | none => rfl
            | some g' =>
              simp only [Option.map_some]
              congr 1
              refine (rowO_stay ?_).symm
              cases h : alkB S i g' with
              | false => rfl
              | true =>
                exfalso
                have e := hI.one hgm (List.mem_of_getElem? hgj) (alkB_iff.1 hb) (alkB_iff.1 h)
                subst e
                have hp := List.pairwise_iff_getElem.1 hI.inc
                have hjl := lt_len hgj
                rw [List.getElem?_eq_getElem hkl] at hk
                rw [List.getElem?_eq_getElem hjl] at hgj
                have hk := Option.some.inj hk
                have hgj := Option.some.inj hgj
                rcases Nat.lt_or_ge k j with h1 | h1
                · have := hp k j hkl hjl h1; omega
                · have := hp j k hjl hkl (by omega); omega
        refine ⟨G, ?_, ?_⟩
        · simp only [show ¬ ((k : Int) < 0) by omega, decide_false, Bool.false_eq_true, if_false, Option.bind_some, ec, ed, ee, ef]
        · exact ⟨fun g hg => by have := hI.lt g hg; omega, hI.inc, by omega, fun c hc => by
            by_cases h : c = i
            · subst h; exact ⟨g, hgm, by have := hI.lt g hgm; omega, alkB_iff.1 hb⟩
            · exact hI.cov c (by omega), hI.apt⟩)
    (fun s _ => by simp only; unfold F_dofferref15_Bytes_l0; simp)
  exact ⟨G, h1, by simpa using h2⟩
theorem refBytes_spec (hN : 4294967296 ≤ N) (hw : SetW S) (hl : S.length < 4294967296) :
    ∃ (w : List T4) (G : List Nat), F_dofferref15_Bytes N S E = some w ∧ FI S 256 G ∧ w.length = G.length ∧ ∀ (j g : Nat), G[j]? = some g → ∃ q, w[j]? = some q ∧ Wd4 q ∧ ∀ c, c < 256 → (tb q c = true ↔ alk (sets S) c g) := by
  obtain ⟨G, h1, h2⟩ := refBytes_l0 hN hw hl
  unfold F_dofferref15_Bytes
  have h1' : iterO N (fun s => F_dofferref15_Bytes_l0 N S s.1 s.2.1 s.2.2) ([], [], 0) = some (G.map (rowO S 256)) := h1
  rw [h1']
  simp only [bind, Option.bind_some]
  have hGl := h2.len
  obtain ⟨w, g1, g2, g3⟩ := loop_inv (f := fun s : List T4 × Int => F_dofferref15_Bytes_l3 N (G.map (rowO S 256)) s.1 s.2) (fun i (o : List T4) => (o, (i : Int))) id G
    (fun i o => o.length = i ∧ ∀ (j g : Nat), j < i → G[j]? = some g → ∃ q, o[j]? = some q ∧ Wd4 q ∧ ∀ c, c < 256 → (tb q c = true ↔ alk (sets S) c g)) (N := N) (s := []) (by omega)
    ⟨rfl, fun j g hj => by omega⟩
    (fun i g o hx ⟨ho, hI⟩ => by
      have hi := lt_len hx
      obtain ⟨q, q1, q2, q3⟩ := refOf_spec (N := N) hN (rowO_len (S := S) 256 g)
      refine ⟨o ++ [q], ?_, by simp [ho], fun j g' hj hgj => ?_⟩
      · simp only
        unfold F_dofferref15_Bytes_l3
        rw [if_pos (by simp; omega), idx_of (x := rowO S 256 g) (by rw [List.getElem?_map, hx]; rfl)]
        simp only [bind, Option.bind_some, q1]
        rw [app_eq (by simp; omega), w64_succ (by omega)]
        rfl
      · by_cases h : j = i
        · subst h
          rw [hx] at hgj
          obtain rfl := Option.some.inj hgj
          refine ⟨q, by rw [List.getElem?_append_right (by omega), ho]; simp, q2, fun c hc => ?_⟩
          rw [q3 c hc, List.getD, rowO_get hc, ← alkB_iff]
          simp [hc]
        · obtain ⟨q', h1, h2⟩ := hI j g' (by omega) hgj
          exact ⟨q', by rw [List.getElem?_append_left (by omega)]; exact h1, h2⟩)
    (fun s _ => by simp only; unfold F_dofferref15_Bytes_l3; simp)
  have g1' : iterO N (fun s => F_dofferref15_Bytes_l3 N (G.map (rowO S 256)) s.1 s.2) ([], 0) = some w := g1
  rw [g1']
  exact ⟨w, G, rfl, h2, g2, fun j g hg => g3 j g (lt_len hg) hg⟩
end
theorem inc_eq : ∀ {a b : List Int}, a.Pairwise (· < ·) → b.Pairwise (· < ·) → (∀ x, x ∈ a ↔ x ∈ b) → a = b
  | [], [], _, _, _ => rfl
  | [], y :: b, _, _, h => by have := (h y).2 (by simp); cases this
  | x :: a, [], _, _, h => by have := (h x).1 (by simp); cases this
  | x :: a, y :: b, ha, hb, h => by
    obtain ⟨a1, a2⟩ := List.pairwise_cons.1 ha
    obtain ⟨b1, b2⟩ := List.pairwise_cons.1 hb
    have e : x = y := by
      have h1 := (h x).1 (by simp)
      have h2 := (h y).2 (by simp)
      rcases List.mem_cons.1 h1 with e | h1
      · exact e
      · rcases List.mem_cons.1 h2 with e | h2
        · exact e.symm
        · have := a1 y h2
          have := b1 x h1
          omega
    subst e
    rw [inc_eq a2 b2 fun z => ?_]
    have hz := h z
    simp only [List.mem_cons] at hz
    constructor
    · intro hm
      rcases hz.1 (.inr hm) with rfl | h3
      · have := a1 _ hm; omega
      · exact h3
    · intro hm
      rcases hz.2 (.inr hm) with rfl | h3
      · have := b1 _ hm; omega
      · exact h3
theorem parts_eq {S : List Stt} {l w : List T4} {G : List Nat} (hI : PInv (sets S) l) (hs : l.Pairwise fun p q => tl p < tl q) (hG : FI S 256 G) (hwl : w.length = G.length)
    (hw : ∀ (j g : Nat), G[j]? = some g → ∃ q, w[j]? = some q ∧ Wd4 q ∧ ∀ c, c < 256 → (tb q c = true ↔ alk (sets S) c g)) : l = w := by
  have e : l.map tl = ints G := by
    refine inc_eq (List.pairwise_map.2 hs) ?_ fun x => ?_
    · refine List.pairwise_map.2 (hG.inc.imp fun {a b} h => ?_)
      omega
    · constructor
      · intro hx
        obtain ⟨p, hp, rfl⟩ := List.mem_map.1 hx
        obtain ⟨k, hk, k1, k2, k3⟩ := tl_low (hI.wd p hp) (hI.ne p hp)
        obtain ⟨g, hg, g1, g2⟩ := hG.cov k k1
        have hgp : tb p g = true := (hI.cls p hp k k1 g (by omega) k2).2 g2
        have : ¬ g < k := fun h => by rw [k3 g h] at hgp; cases hgp
        have : g = k := by omega
        subst this
        exact List.mem_map.2 ⟨g, hg, hk.symm⟩
      · intro hx
        obtain ⟨g, hg, rfl⟩ := List.mem_map.1 hx
        have hg256 := hG.lt g hg
        obtain ⟨p, hp, hpg⟩ := hI.cov g hg256
        obtain ⟨k, hk, k1, k2, k3⟩ := tl_low (hI.wd p hp) (hI.ne p hp)
        have hkg : k ≤ g := Nat.le_of_not_lt fun h => by rw [k3 g h] at hpg; cases hpg
        have hal := (hI.cls p hp k k1 g hg256 k2).1 hpg
        obtain ⟨g', hg', g1, g2⟩ := hG.cov k k1
        have := hG.one hg' hg g2 hal
        subst this
        have : g' = k := by omega
        subst this
        exact List.mem_map.2 ⟨p, hp, hk⟩
  apply List.ext_getElem?
  intro j
  have hlen : l.length = G.length := by simpa using congrArg List.length e
  by_cases hj : j < G.length
  · obtain ⟨q, q1, q2, q3⟩ := hw j G[j] (List.getElem?_eq_getElem hj)
    have hjl : j < l.length := by omega
    rw [List.getElem?_eq_getElem hjl, q1]
    congr 1
    have hpm : l[j] ∈ l := List.getElem_mem hjl
    obtain ⟨k, hk, k1, k2, _⟩ := tl_low (hI.wd _ hpm) (hI.ne _ hpm)
    have hkG : k = G[j] := by
      have h1 := congrArg (fun x : List Int => x[j]?) e
      simp only [List.getElem?_map, List.getElem?_eq_getElem hjl, List.getElem?_eq_getElem hj, Option.map_some, Option.some.injEq] at h1
      omega
    refine tb_ext (hI.wd _ hpm) q2 fun c hc => ?_
    rw [Bool.eq_iff_iff, q3 c hc, hI.cls _ hpm k k1 c hc k2, hkG]
    exact ⟨fun h => h.symm, fun h => h.symm⟩
  · rw [List.getElem?_eq_none (by omega), List.getElem?_eq_none (by omega)]
end Go.Proofs.YtealkahefalaeaaGreatDoor
namespace Go.Proofs.YtealkahefalaeaaGreatDoor
open Go Go.Eng
set_option maxRecDepth 100000
section
variable {S : List Stt} {E : List Int}
theorem nfaBytes_true (hw : SetW S) : ∃ N, F_dofferlaw15_NfaBytes N S E = some true := by
  refine ⟨4294967296, ?_⟩
  generalize hN' : (4294967296 : Nat) = N
  have hN : 4294967296 ≤ N := by omega
  clear hN'
  unfold F_dofferlaw15_NfaBytes
  obtain ⟨p, hp, hq⟩ := of15_spec (N := N) (S := S) (E := E) (m := 40) hN (by omega)
  rw [hp]
  simp only [bind, Option.bind_some]
  cases h2 : p.2 with
  | false => simp
  | true =>
    obtain ⟨e, hl, hE, hf⟩ := hq h2
    have hs : NSz S E := ⟨by omega, by omega, fun s hs => by have := hf s hs; omega⟩
    obtain ⟨l, g1, g2, g3⟩ := nfaBytes_spec hN hs hw
    simp only [Bool.not_true, Bool.false_eq_true, if_false, g1, Option.bind_some, e, nrefRight_spec hN hs]
    cases hr : rtB S E with
    | false => simp [g2 hr]
    | true =>
      obtain ⟨hI, hs'⟩ := g3 hr
      obtain ⟨w, G, w1, w2, w3, w4⟩ := refBytes_spec (N := N) (E := E) hN hw hs.a
      have hlw : l = w := parts_eq hI hs' w2 w3 w4
      subst hlw
      have hll : l.length ≤ 256 := hI.len
      simp only [Bool.not_true, Bool.false_eq_true, if_false, w1, Option.bind_some, bne_self_eq_false]
      rw [loop_any l (fun _ => false) false (by omega) (fun i x hx => by
        have hi := lt_len hx
        unfold F_dofferlaw15_NfaBytes_l0
        simp only [show ((i : Int) < (l.length : Int)) by omega, decide_true, if_true, idx_of hx, bind, Option.bind_some]
        rw [w64_succ (by omega)]
        simp) (by unfold F_dofferlaw15_NfaBytes_l0; simp)]
      simp
end
end Go.Proofs.YtealkahefalaeaaGreatDoor
