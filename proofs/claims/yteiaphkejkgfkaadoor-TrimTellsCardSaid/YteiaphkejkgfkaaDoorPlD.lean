/-
  PLAIN LEAN: the bit sets of package marks.
-/
import Derived.Test.YteiaphkejkgfkaaDoorPlC
namespace Go.Proofs.YteiaphkejkgfkaaDoor
open Go Go.Eng
theorem iand_u64 {a b : Nat} (ha : a < 18446744073709551616) (hb : b < 18446744073709551616) : iand .u64 (a : Int) (b : Int) = ((a &&& b : Nat) : Int) := by
  have h : a &&& b < 18446744073709551616 := Nat.and_lt_two_pow (n := 64) _ hb
  show IntKind.wrap .u64 ((BitVec.ofInt 64 (a : Int) &&& BitVec.ofInt 64 (b : Int)).toNat : Int) = _
  rw [BitVec.ofInt_natCast, BitVec.ofInt_natCast, BitVec.toNat_and, BitVec.toNat_ofNat, BitVec.toNat_ofNat, Nat.mod_eq_of_lt ha, Nat.mod_eq_of_lt hb, wrapU64] <;> omega
theorem ior_u64 {a b : Nat} (ha : a < 18446744073709551616) (hb : b < 18446744073709551616) : ior .u64 (a : Int) (b : Int) = ((a ||| b : Nat) : Int) := by
  have h : a ||| b < 18446744073709551616 := Nat.or_lt_two_pow (n := 64) ha hb
  show IntKind.wrap .u64 ((BitVec.ofInt 64 (a : Int) ||| BitVec.ofInt 64 (b : Int)).toNat : Int) = _
  rw [BitVec.ofInt_natCast, BitVec.ofInt_natCast, BitVec.toNat_or, BitVec.toNat_ofNat, BitVec.toNat_ofNat, Nat.mod_eq_of_lt ha, Nat.mod_eq_of_lt hb, wrapU64] <;> omega
theorem shl_one {k : Nat} (h : k < 64) : shlI .u64 1 (k : Int) = ((2 ^ k : Nat) : Int) := by
  have h1 : (2 : Nat) ^ k ≤ 2 ^ 63 := Nat.pow_le_pow_right (by omega) (by omega)
  have h2 : (2 : Nat) ^ 63 = 9223372036854775808 := by decide
  simp only [shlI, IntKind.bits, Int.toNat_natCast, Nat.min_eq_left (show k ≤ 64 by omega), Int.one_mul]
  have e : ((2 : Int) ^ k) = ((2 ^ k : Nat) : Int) := by simp
  rw [e]
  generalize 2 ^ k = p at *
  rw [wrapU64] <;> omega
/-- bit i -/
def has (m : List Int) (i : Nat) : Bool := (m.getD (i / 64) 0).toNat.testBit (i % 64)
structure MkR (n : Nat) (m : List Int) : Prop where
  len : m.length = (n + 63) / 64
  rng : ∀ w ∈ m, 0 ≤ w ∧ w < 18446744073709551616
theorem new_spec {N n : Nat} (h : n ≤ 65536) : ∃ m, F_marks_New N (n : Int) = some (.inr m) ∧ MkR n m ∧ ∀ j, has m j = false := by
  refine ⟨List.replicate ((n + 63) / 64) 0, ?_, ⟨by simp, fun w hw => by rw [List.eq_of_mem_replicate hw]; omega⟩, fun j => ?_⟩
  · unfold F_marks_New
    have a1 : ¬ ((n : Int) < 0) := by omega
    have a2 : ¬ ((n : Int) > 65536) := by omega
    have e1 : w64 ((n : Int) + 64) = ((n + 64 : Nat) : Int) := by rw [w64, wrap64] <;> omega
    have e2 : w64 (((n + 64 : Nat) : Int) - 1) = ((n + 63 : Nat) : Int) := by rw [w64, wrap64] <;> omega
    have e3 : w64 (((n + 63 : Nat) : Int).tdiv 64) = (((n + 63) / 64 : Nat) : Int) := by
      have : ((n + 63 : Nat) : Int).tdiv 64 = (((n + 63) / 64 : Nat) : Int) := by rw [Int.tdiv_eq_ediv_of_nonneg (by omega)]; omega
      rw [this, w64, wrap64] <;> omega
    simp only [decide_eq_false a1, decide_eq_false a2, bind, Option.bind_some, Bool.false_eq_true, if_false, e1, e2, e3]
    rw [mk_eq (by omega)]
    rfl
  · simp [has, List.getD, List.getElem?_replicate]
    split <;> simp
theorem at_spec {N n i : Nat} {m : List Int} (hi : i < 9223372036854775808) : F_marks_Marks_at N m (n : Int) (i : Int) = some (((i / 64 : Nat) : Int), ((2 ^ (i % 64) : Nat) : Int), decide (i < n)) := by
  unfold F_marks_Marks_at
  have e0 : IntKind.wrap .u64 (i : Int) = i := by rw [wrapU64] <;> omega
  have e1 : (i : Int).tmod 64 = ((i % 64 : Nat) : Int) := by rw [Int.tmod_eq_emod_of_nonneg (by omega)]; omega
  have e2 : w64 ((i : Int).tdiv 64) = ((i / 64 : Nat) : Int) := by
    have : (i : Int).tdiv 64 = ((i / 64 : Nat) : Int) := by rw [Int.tdiv_eq_ediv_of_nonneg (by omega)]; omega
    rw [this, w64, wrap64] <;> omega
  have e3 : nn ((i % 64 : Nat) : Int) = some () := by simp [nn]; omega
  have e4 : (i : Int) ≥ 0 := by omega
  rw [e0, e1, e2, shl_one (by omega), e3]
  simp [e4, F_marks_Marks_Size]
theorem put_spec {N n i : Nat} {m : List Int} (hm : MkR n m) (hi : i < n) (hn : n ≤ 65536) :
    ∃ m', F_marks_Marks_Put N m (n : Int) (i : Int) = some (m', !has m i) ∧ MkR n m' ∧ (∀ j, has m' j = (has m j || j == i)) ∧ m' = if has m i then m else m.set (i / 64) (((m.getD (i / 64) 0).toNat ||| 2 ^ (i % 64) : Nat) : Int) := by
  have hl : i / 64 < m.length := by rw [hm.len]; omega
  have hw := hm.rng _ (List.getElem_mem hl)
  have hp : (2 : Nat) ^ (i % 64) < 18446744073709551616 := by
    have h1 : (2 : Nat) ^ (i % 64) ≤ 2 ^ 63 := Nat.pow_le_pow_right (by omega) (by omega)
    have h2 : (2 : Nat) ^ 63 = 9223372036854775808 := by decide
    omega
  obtain ⟨a, ha⟩ : ∃ a : Nat, m[i / 64] = (a : Int) := ⟨m[i / 64].toNat, by omega⟩
  have hx : m[i / 64]? = some (a : Int) := by rw [List.getElem?_eq_getElem hl, ha]
  have ha' : a < 18446744073709551616 := by omega
  have hh : has m i = a.testBit (i % 64) := by simp [has, List.getD, hx]
  unfold F_marks_Marks_Put
  rw [at_spec (by omega)]
  simp only [bind, Option.bind_some, decide_eq_true hi, Bool.not_true, Bool.false_eq_true, if_false, idx_of hx, iand_u64 ha' hp, ior_u64 ha' hp]
  have hand : (a &&& 2 ^ (i % 64) = 0) ↔ a.testBit (i % 64) = false := by
    constructor
    · intro h
      have := congrArg (·.testBit (i % 64)) h
      simpa [Nat.testBit_and, Nat.testBit_two_pow_self] using this
    · intro h
      apply Nat.eq_of_testBit_eq
      intro j
      rw [Nat.testBit_and, Nat.testBit_two_pow]
      by_cases hj : i % 64 = j
      · subst hj; simp [h]
      · simp [hj]
  by_cases hb : a.testBit (i % 64) = true
  · have h1 : ¬ (a &&& 2 ^ (i % 64) = 0) := fun h => by rw [hand.1 h] at hb; cases hb
    have h2 : (((a &&& 2 ^ (i % 64) : Nat) : Int) != 0) = true := by simp; omega
    refine ⟨m, by rw [h2, hh, hb]; rfl, hm, fun j => ?_, by rw [hh, hb]; rfl⟩
    by_cases hj : j = i
    · subst hj; simp [hh, hb]
    · simp [hj]
  · have hb : a.testBit (i % 64) = false := by simpa using hb
    have h2 : (((a &&& 2 ^ (i % 64) : Nat) : Int) != 0) = false := by rw [hand.2 hb]; rfl
    refine ⟨m.set (i / 64) ((a ||| 2 ^ (i % 64) : Nat) : Int), by rw [h2, hh, hb]; simp only [Bool.false_eq_true, if_false]; rw [setI_nat hl]; rfl, ⟨by simp [hm.len], fun w hw' => ?_⟩, fun j => ?_, ?_⟩
    rotate_right
    · rw [hh, hb, List.getD, hx]; rfl
    · rcases List.mem_or_eq_of_mem_set hw' with h | rfl
      · exact hm.rng w h
      · have := Nat.or_lt_two_pow (n := 64) ha' hp
        omega
    · by_cases hq : j / 64 = i / 64
      · have e1 : has m j = a.testBit (j % 64) := by simp [has, hq, List.getD, hx]
        have e2 : has (m.set (i / 64) ((a ||| 2 ^ (i % 64) : Nat) : Int)) j = (a ||| 2 ^ (i % 64)).testBit (j % 64) := by
          simp [has, hq, List.getD, List.getElem?_set_self hl]
        rw [e1, e2, Nat.testBit_or, Nat.testBit_two_pow]
        congr 1
        by_cases hj : j = i
        · simp [hj]
        · have : ¬ (i % 64 = j % 64) := by omega
          simp [hj, this]
      · have hj : ¬ j = i := fun h => hq (by rw [h])
        have hq' : ¬ (i / 64 = j / 64) := fun h => hq h.symm
        simp [has, List.getD, List.getElem?_set, hq', hj]
end Go.Proofs.YteiaphkejkgfkaaDoor
