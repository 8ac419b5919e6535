/-
  PLAIN LEAN: bits.OnesCount64 counts the bits; the marks' length; the edges.
-/
import Derived.Test.YteiaphkejkgfkaaDoorPlJ
namespace Go.Proofs.YteiaphkejkgfkaaDoor
open Go Go.Eng
def cat : List Nat → Nat
  | [] => 0
  | d :: r => d + 256 * cat r
theorem and_cat {d m a b : Nat} (hd : d < 256) (hm : m < 256) : (d + 256 * a) &&& (m + 256 * b) = (d &&& m) + 256 * (a &&& b) := by
  have hdm : d &&& m < 2 ^ 8 := Nat.and_lt_two_pow (n := 8) _ hm
  apply Nat.eq_of_testBit_eq
  intro j
  rw [Nat.testBit_and, show d + 256 * a = 2 ^ 8 * a + d by omega, show m + 256 * b = 2 ^ 8 * b + m by omega, show (d &&& m) + 256 * (a &&& b) = 2 ^ 8 * (a &&& b) + (d &&& m) by omega]
  rw [Nat.testBit_two_pow_mul_add _ hd, Nat.testBit_two_pow_mul_add _ hm, Nat.testBit_two_pow_mul_add _ hdm]
  split <;> rw [Nat.testBit_and]
theorem cat_rep (m : Nat) : cat (List.replicate 8 m) = m + 256 * (m + 256 * (m + 256 * (m + 256 * (m + 256 * (m + 256 * (m + 256 * (m + 256 * 0))))))) := rfl
def b1 (d : Nat) : Nat := ((d / 2) &&& 85) + (d &&& 85)
def b2 (d : Nat) : Nat := ((d / 4) &&& 51) + (d &&& 51)
def b3 (d : Nat) : Nat := (d / 16 + d) % 16
theorem f1 : ∀ d : Fin 256, ∀ e : Fin 2, ((d.val / 2 + 128 * e.val) &&& 85) = (d.val / 2) &&& 85 := by decide +kernel
theorem f2 : ∀ d : Fin 256, ∀ e : Fin 4, ((d.val / 4 + 64 * e.val) &&& 51) = (d.val / 4) &&& 51 := by decide +kernel
theorem f3 : ∀ d : Fin 256, b1 d.val < 256 ∧ b2 (b1 d.val) < 256 ∧ b2 (b1 d.val) % 16 ≤ 4 ∧ b2 (b1 d.val) / 16 ≤ 4 := by decide +kernel
theorem f4 : ∀ d : Fin 256, b3 (b2 (b1 d.val)) = (List.range 8).countP (d.val.testBit ·) ∧ b3 (b2 (b1 d.val)) ≤ 8 := by decide +kernel
theorem s1_cat : ∀ ds : List Nat, (∀ d ∈ ds, d < 256) → ((cat ds / 2) &&& cat (ds.map fun _ => 85)) + (cat ds &&& cat (ds.map fun _ => 85)) = cat (ds.map b1)
  | [], _ => rfl
  | d :: r, h => by
    have hd := h d (by simp)
    have ih := s1_cat r (fun x hx => h x (by simp [hx]))
    have e1 : cat (d :: r) / 2 = (d / 2 + 128 * (cat r % 2)) + 256 * (cat r / 2) := by simp only [cat]; omega
    have e2 := f1 ⟨d, hd⟩ ⟨cat r % 2, by omega⟩
    simp only at e2
    rw [e1]
    simp only [cat, List.map_cons]
    rw [and_cat (show d / 2 + 128 * (cat r % 2) < 256 by omega) (by omega), and_cat hd (by omega), e2, ← ih]
    unfold b1
    omega
theorem s2_cat : ∀ ds : List Nat, (∀ d ∈ ds, d < 256) → ((cat ds / 4) &&& cat (ds.map fun _ => 51)) + (cat ds &&& cat (ds.map fun _ => 51)) = cat (ds.map b2)
  | [], _ => rfl
  | d :: r, h => by
    have hd := h d (by simp)
    have ih := s2_cat r (fun x hx => h x (by simp [hx]))
    have e1 : cat (d :: r) / 4 = (d / 4 + 64 * (cat r % 4)) + 256 * (cat r / 4) := by simp only [cat]; omega
    have e2 := f2 ⟨d, hd⟩ ⟨cat r % 4, by omega⟩
    simp only at e2
    rw [e1]
    simp only [cat, List.map_cons]
    rw [and_cat (show d / 4 + 64 * (cat r % 4) < 256 by omega) (by omega), and_cat hd (by omega), e2, ← ih]
    unfold b2
    omega
theorem s3_cat : ∀ ds : List Nat, (∀ d ∈ ds, d < 256 ∧ d % 16 ≤ 4 ∧ d / 16 ≤ 4) → ((cat ds / 16 + cat ds) &&& cat (ds.map fun _ => 15)) = cat (ds.map b3) ∧ cat ds % 16 ≤ 4
  | [], _ => ⟨rfl, by simp [cat]⟩
  | d :: r, h => by
    obtain ⟨hd, h1, h2⟩ := h d (by simp)
    obtain ⟨ih, ih2⟩ := s3_cat r (fun x hx => h x (by simp [hx]))
    have e1 : cat (d :: r) / 16 + cat (d :: r) = (d / 16 + 16 * (cat r % 16) + d) + 256 * (cat r / 16 + cat r) := by simp only [cat]; omega
    refine ⟨?_, by simp only [cat]; omega⟩
    rw [e1]
    simp only [cat, List.map_cons]
    rw [and_cat (show d / 16 + 16 * (cat r % 16) + d < 256 by omega) (by omega), ih]
    have e3 : (d / 16 + 16 * (cat r % 16) + d) &&& 15 = (d / 16 + 16 * (cat r % 16) + d) % 16 := Nat.and_two_pow_sub_one_eq_mod _ 4
    rw [e3]
    unfold b3
    omega
def M0 : Nat := 6148914691236517205
def M1 : Nat := 3689348814741910323
def M2 : Nat := 1085102592571150095
def pop (x : Nat) : Nat := (List.range 64).countP (x.testBit ·)
def n3 (x : Nat) : Nat :=
  let a := ((x / 2) &&& M0) + (x &&& M0)
  let b := ((a / 4) &&& M1) + (a &&& M1)
  (b / 16 + b) &&& M2
def n6 (y : Nat) : Nat :=
  let a := y + y / 256
  let b := a + a / 65536
  b + b / 4294967296
theorem digits (x : Nat) : ∃ d0 d1 d2 d3 d4 d5 d6 d7, (∀ d ∈ [d0, d1, d2, d3, d4, d5, d6, d7], d < 256) ∧ x % 18446744073709551616 = cat [d0, d1, d2, d3, d4, d5, d6, d7] :=
  ⟨x % 256, x / 256 % 256, x / 65536 % 256, x / 16777216 % 256, x / 4294967296 % 256, x / 1099511627776 % 256, x / 281474976710656 % 256, x / 72057594037927936 % 256, by
    intro d hd
    simp only [List.mem_cons, List.not_mem_nil, or_false] at hd
    omega, by simp only [cat]; omega⟩
theorem testBit_cat {d a j : Nat} (hd : d < 256) : (d + 256 * a).testBit j = if j < 8 then d.testBit j else a.testBit (j - 8) := by
  rw [show d + 256 * a = 2 ^ 8 * a + d by omega, Nat.testBit_two_pow_mul_add _ hd]
theorem countP_cat : ∀ ds : List Nat, (∀ d ∈ ds, d < 256) → (List.range (8 * ds.length)).countP ((cat ds).testBit ·) = (ds.map fun d => (List.range 8).countP (d.testBit ·)).sum
  | [], _ => by simp
  | d :: r, h => by
    have hd := h d (by simp)
    have ih := countP_cat r (fun x hx => h x (by simp [hx]))
    rw [show 8 * (d :: r).length = 8 + 8 * r.length by simp; omega, List.range_add, List.countP_append, List.countP_map]
    simp only [List.map_cons, List.sum_cons, cat]
    congr 1
    · refine List.countP_congr fun j hj => ?_
      have : j < 8 := by simpa using hj
      rw [testBit_cat hd, if_pos this]
    · rw [← ih]
      refine List.countP_congr fun j hj => ?_
      simp only [Function.comp]
      rw [testBit_cat hd, if_neg (by omega), Nat.add_sub_cancel_left]
theorem cat_lt : ∀ ds : List Nat, (∀ d ∈ ds, d < 256) → cat ds < 256 ^ ds.length
  | [], _ => by simp [cat]
  | d :: r, h => by
    have hd := h d (by simp)
    have ih := cat_lt r (fun x hx => h x (by simp [hx]))
    simp only [cat, List.length_cons, Nat.pow_succ]
    omega
theorem cat_lt2 : ∀ ds : List Nat, (∀ d ∈ ds, d < 128) → 2 * cat ds < 256 ^ ds.length
  | [], _ => by simp [cat]
  | d :: r, h => by
    have hd := h d (by simp)
    have ih := cat_lt2 r (fun x hx => h x (by simp [hx]))
    simp only [cat, List.length_cons, Nat.pow_succ]
    omega
theorem n3_pop {x : Nat} (hx : x < 18446744073709551616) : ∃ p0 p1 p2 p3 p4 p5 p6 p7, (p0 ≤ 8 ∧ p1 ≤ 8 ∧ p2 ≤ 8 ∧ p3 ≤ 8 ∧ p4 ≤ 8 ∧ p5 ≤ 8 ∧ p6 ≤ 8 ∧ p7 ≤ 8) ∧ n3 x = cat [p0, p1, p2, p3, p4, p5, p6, p7] ∧ pop x = p0 + p1 + p2 + p3 + p4 + p5 + p6 + p7 ∧ ((x / 2) &&& M0) + (x &&& M0) < 18446744073709551616 ∧
    ((((x / 2) &&& M0) + (x &&& M0)) / 4 &&& M1) + ((((x / 2) &&& M0) + (x &&& M0)) &&& M1) < 9223372036854775808 := by
  obtain ⟨d0, d1, d2, d3, d4, d5, d6, d7, hd, e⟩ := digits x
  rw [Nat.mod_eq_of_lt hx] at e
  have c1 := s1_cat [d0, d1, d2, d3, d4, d5, d6, d7] hd
  have hb1 : ∀ d ∈ [d0, d1, d2, d3, d4, d5, d6, d7].map b1, d < 256 := fun y hy => by
    obtain ⟨d, hm, rfl⟩ := List.mem_map.1 hy
    exact (f3 ⟨d, hd d hm⟩).1
  have c2 := s2_cat _ hb1
  have hb2 : ∀ d ∈ ([d0, d1, d2, d3, d4, d5, d6, d7].map b1).map b2, d < 256 ∧ d % 16 ≤ 4 ∧ d / 16 ≤ 4 := fun y hy => by
    rw [List.map_map] at hy
    obtain ⟨d, hm, rfl⟩ := List.mem_map.1 hy
    exact (f3 ⟨d, hd d hm⟩).2
  have c3 := (s3_cat _ hb2).1
  have hp : ∀ d ∈ [d0, d1, d2, d3, d4, d5, d6, d7], b3 (b2 (b1 d)) = (List.range 8).countP (d.testBit ·) ∧ b3 (b2 (b1 d)) ≤ 8 := fun d hm => f4 ⟨d, hd d hm⟩
  have cc := countP_cat _ hd
  rw [← e] at c1 cc
  have m0 : cat ([d0, d1, d2, d3, d4, d5, d6, d7].map fun _ => 85) = M0 := by simp only [List.map_cons, List.map_nil, cat, M0]
  have m1 : cat (([d0, d1, d2, d3, d4, d5, d6, d7].map b1).map fun _ => 51) = M1 := by simp only [List.map_cons, List.map_nil, cat, M1]
  have m2 : cat ((([d0, d1, d2, d3, d4, d5, d6, d7].map b1).map b2).map fun _ => 15) = M2 := by simp only [List.map_cons, List.map_nil, cat, M2]
  rw [m0] at c1
  rw [m1] at c2
  rw [m2] at c3
  have g1 := hp d0 (by simp); have g2 := hp d1 (by simp); have g3 := hp d2 (by simp); have g4 := hp d3 (by simp); have g5 := hp d4 (by simp); have g6 := hp d5 (by simp); have g7 := hp d6 (by simp); have g8 := hp d7 (by simp)
  refine ⟨_, _, _, _, _, _, _, _, ⟨g1.2, g2.2, g3.2, g4.2, g5.2, g6.2, g7.2, g8.2⟩, ?_, ?_, ?_, ?_⟩
  · unfold n3
    simp only
    rw [c1, c2, c3]
    rfl
  · unfold pop
    simp only [List.length_cons, List.length_nil, Nat.reduceAdd, Nat.reduceMul, List.map_cons, List.map_nil, List.sum_cons, List.sum_nil] at cc
    rw [cc]
    omega
  · rw [c1]
    have := cat_lt _ hb1
    simp only [List.length_map, List.length_cons, List.length_nil, Nat.reduceAdd, Nat.reducePow] at this
    exact this
  · rw [c1, c2]
    have := cat_lt2 _ fun d hd => (show d < 128 by have := hb2 d hd; omega)
    simp only [List.length_map, List.length_cons, List.length_nil, Nat.reduceAdd, Nat.reducePow] at this
    omega
theorem dv {a b : Nat} (h : a < 256) : (a + 256 * b) / 256 = b := by omega
theorem ad (a b c d : Nat) : (a + 256 * b) + (c + 256 * d) = (a + c) + 256 * (b + d) := by omega
theorem ad0 (a b c : Nat) : (a + 256 * b) + c = (a + c) + 256 * b := by omega
theorem n6_lt {y : Nat} (h : y < 1152921504606846976) : n6 y < 9223372036854775808 := by
  obtain ⟨a, ha⟩ : ∃ a, a = y + y / 256 := ⟨_, rfl⟩
  obtain ⟨b, hb⟩ : ∃ b, b = a + a / 65536 := ⟨_, rfl⟩
  have hn : n6 y = b + b / 4294967296 := by subst hb ha; rfl
  rw [hn]
  omega
theorem y_lt {p0 p1 p2 p3 p4 p5 p6 p7 : Nat} (h : p0 ≤ 8 ∧ p1 ≤ 8 ∧ p2 ≤ 8 ∧ p3 ≤ 8 ∧ p4 ≤ 8 ∧ p5 ≤ 8 ∧ p6 ≤ 8 ∧ p7 ≤ 8) : cat [p0, p1, p2, p3, p4, p5, p6, p7] < 1152921504606846976 := by
  simp only [cat]
  omega
theorem n6_sum {p0 p1 p2 p3 p4 p5 p6 p7 : Nat} (h : p0 ≤ 8 ∧ p1 ≤ 8 ∧ p2 ≤ 8 ∧ p3 ≤ 8 ∧ p4 ≤ 8 ∧ p5 ≤ 8 ∧ p6 ≤ 8 ∧ p7 ≤ 8) : n6 (cat [p0, p1, p2, p3, p4, p5, p6, p7]) % 128 = p0 + p1 + p2 + p3 + p4 + p5 + p6 + p7 := by
  have k0 : p0 < 256 := by omega
  have k1 : p0 + p1 < 256 := by omega
  have k2 : p1 + p2 < 256 := by omega
  have q0 : p0 + p1 + (p2 + p3) < 256 := by omega
  have q1 : p1 + p2 + (p3 + p4) < 256 := by omega
  have q2 : p2 + p3 + (p4 + p5) < 256 := by omega
  have q3 : p3 + p4 + (p5 + p6) < 256 := by omega
  have l : p0 + p1 + (p2 + p3) + (p4 + p5 + (p6 + p7)) = p0 + p1 + p2 + p3 + p4 + p5 + p6 + p7 := by omega
  have l2 : p0 + p1 + p2 + p3 + p4 + p5 + p6 + p7 < 128 := by omega
  clear h
  have e1 : cat [p0, p1, p2, p3, p4, p5, p6, p7] / 256 = p1 + 256 * (p2 + 256 * (p3 + 256 * (p4 + 256 * (p5 + 256 * (p6 + 256 * p7))))) := by simp only [cat, Nat.mul_zero, Nat.add_zero]; rw [dv k0]
  have e2 : cat [p0, p1, p2, p3, p4, p5, p6, p7] + cat [p0, p1, p2, p3, p4, p5, p6, p7] / 256 = (p0 + p1) + 256 * ((p1 + p2) + 256 * ((p2 + p3) + 256 * ((p3 + p4) + 256 * ((p4 + p5) + 256 * ((p5 + p6) + 256 * (p6 + p7 + 256 * p7)))))) := by
    rw [e1]
    simp only [cat, Nat.mul_zero, Nat.add_zero]
    rw [ad, ad, ad, ad, ad, ad, ad0]
  have e3 : ((p0 + p1) + 256 * ((p1 + p2) + 256 * ((p2 + p3) + 256 * ((p3 + p4) + 256 * ((p4 + p5) + 256 * ((p5 + p6) + 256 * (p6 + p7 + 256 * p7))))))) / 65536 = (p2 + p3) + 256 * ((p3 + p4) + 256 * ((p4 + p5) + 256 * ((p5 + p6) + 256 * (p6 + p7 + 256 * p7)))) := by
    rw [show (65536 : Nat) = 256 * 256 by rfl, ← Nat.div_div_eq_div_mul, dv k1, dv k2]
  have e4 : ((p0 + p1) + 256 * ((p1 + p2) + 256 * ((p2 + p3) + 256 * ((p3 + p4) + 256 * ((p4 + p5) + 256 * ((p5 + p6) + 256 * (p6 + p7 + 256 * p7))))))) + ((p2 + p3) + 256 * ((p3 + p4) + 256 * ((p4 + p5) + 256 * ((p5 + p6) + 256 * (p6 + p7 + 256 * p7)))))
      = (p0 + p1 + (p2 + p3)) + 256 * ((p1 + p2 + (p3 + p4)) + 256 * ((p2 + p3 + (p4 + p5)) + 256 * ((p3 + p4 + (p5 + p6)) + 256 * ((p4 + p5 + (p6 + p7)) + 256 * ((p5 + p6 + p7) + 256 * (p6 + p7 + 256 * p7)))))) := by
    rw [ad, ad, ad, ad, ad, ad0]
  have e5 : ((p0 + p1 + (p2 + p3)) + 256 * ((p1 + p2 + (p3 + p4)) + 256 * ((p2 + p3 + (p4 + p5)) + 256 * ((p3 + p4 + (p5 + p6)) + 256 * ((p4 + p5 + (p6 + p7)) + 256 * ((p5 + p6 + p7) + 256 * (p6 + p7 + 256 * p7))))))) / 4294967296 = (p4 + p5 + (p6 + p7)) + 256 * ((p5 + p6 + p7) + 256 * (p6 + p7 + 256 * p7)) := by
    rw [show (4294967296 : Nat) = 256 * 256 * 256 * 256 by rfl, ← Nat.div_div_eq_div_mul, ← Nat.div_div_eq_div_mul, ← Nat.div_div_eq_div_mul, dv q0, dv q1, dv q2, dv q3]
  have hn : n6 (cat [p0, p1, p2, p3, p4, p5, p6, p7]) = (p0 + p1 + (p2 + p3) + (p4 + p5 + (p6 + p7))) + 256 * ((p1 + p2 + (p3 + p4) + 256 * ((p2 + p3 + (p4 + p5)) + 256 * ((p3 + p4 + (p5 + p6)) + 256 * ((p4 + p5 + (p6 + p7)) + 256 * ((p5 + p6 + p7) + 256 * (p6 + p7 + 256 * p7)))))) + ((p5 + p6 + p7) + 256 * (p6 + p7 + 256 * p7))) := by
    unfold n6
    simp only
    rw [e2, e3, e4, e5, ad]
  rw [hn, l]
  clear hn e1 e2 e3 e4 e5
  generalize (p1 + p2 + (p3 + p4) + 256 * ((p2 + p3 + (p4 + p5)) + 256 * ((p3 + p4 + (p5 + p6)) + 256 * ((p4 + p5 + (p6 + p7)) + 256 * ((p5 + p6 + p7) + 256 * (p6 + p7 + 256 * p7)))))) + ((p5 + p6 + p7) + 256 * (p6 + p7 + 256 * p7)) = z
  omega
theorem shr_u64 {a : Nat} {k : Nat} (hk : k < 64) : shrI .u64 (a : Int) (k : Int) = ((a / 2 ^ k : Nat) : Int) := by
  simp only [shrI, IntKind.bits, Int.toNat_natCast, Nat.min_eq_left (show k ≤ 64 by omega)]
  rw [Int.fdiv_eq_ediv_of_nonneg _ (Int.le_of_lt (Int.pow_pos (by decide)))]
  push_cast
  rfl
theorem wrapN {a : Nat} (h : a < 18446744073709551616) : IntKind.wrap .u64 (a : Int) = (a : Int) := by rw [wrapU64] <;> omega
theorem iand_i64 {a b : Nat} (ha : a < 9223372036854775808) (hb : b < 9223372036854775808) : iand .i64 (a : Int) (b : Int) = ((a &&& b : Nat) : Int) := by
  have h : a &&& b < 9223372036854775808 := Nat.and_lt_two_pow (n := 63) _ hb
  show IntKind.wrap .i64 ((BitVec.ofInt 64 (a : Int) &&& BitVec.ofInt 64 (b : Int)).toNat : Int) = _
  rw [BitVec.ofInt_natCast, BitVec.ofInt_natCast, BitVec.toNat_and, BitVec.toNat_ofNat, BitVec.toNat_ofNat, Nat.mod_eq_of_lt (show a < 2 ^ 64 by omega), Nat.mod_eq_of_lt (show b < 2 ^ 64 by omega), wrap64] <;> omega
def t1 (x : Int) : Int := IntKind.wrap .u64 ((iand .u64 (shrI .u64 x 1) 6148914691236517205) + (iand .u64 x 6148914691236517205))
def t2 (x : Int) : Int := IntKind.wrap .u64 ((iand .u64 (shrI .u64 x 2) 3689348814741910323) + (iand .u64 x 3689348814741910323))
def t3 (x : Int) : Int := iand .u64 (IntKind.wrap .u64 ((shrI .u64 x 4) + x)) 1085102592571150095
def t4 (x : Int) : Int := IntKind.wrap .u64 (x + shrI .u64 x 8)
def t5 (x : Int) : Int := IntKind.wrap .u64 (x + shrI .u64 x 16)
def t6 (x : Int) : Int := IntKind.wrap .u64 (x + shrI .u64 x 32)
theorem ones_shape (N : Nat) (x : Int) : F_math_bits_OnesCount64 N x = some (iand .i64 (IntKind.wrap .i64 (t6 (t5 (t4 (t3 (t2 (t1 x))))))) 127) := rfl
theorem ones_spec {N x : Nat} (hx : x < 18446744073709551616) : F_math_bits_OnesCount64 N (x : Int) = some ((pop x : Nat) : Int) := by
  obtain ⟨p0, p1, p2, p3, p4, p5, p6, p7, hp, h1, h2, h3, h4⟩ := n3_pop hx
  rw [ones_shape]
  have hM0 : M0 < 18446744073709551616 := by decide
  have hM1 : M1 < 18446744073709551616 := by decide
  have hM2 : M2 < 18446744073709551616 := by decide
  have e1 : t1 (x : Int) = ((((x / 2) &&& M0) + (x &&& M0) : Nat) : Int) := by
    unfold t1
    have a1 := shr_u64 (a := x) (k := 1) (by omega)
    rw [show ((1 : Nat) : Int) = 1 from rfl] at a1
    simp only [Nat.reducePow] at a1
    rw [a1, show (6148914691236517205 : Int) = ((M0 : Nat) : Int) from rfl, iand_u64 (by omega) hM0, iand_u64 hx hM0, ← Int.natCast_add, wrapN h3]
  generalize ha : ((x / 2) &&& M0) + (x &&& M0) = a at *
  have e2 : t2 (a : Int) = ((((a / 4) &&& M1) + (a &&& M1) : Nat) : Int) := by
    unfold t2
    have a1 := shr_u64 (a := a) (k := 2) (by omega)
    rw [show ((2 : Nat) : Int) = 2 from rfl] at a1
    simp only [Nat.reducePow] at a1
    rw [a1, show (3689348814741910323 : Int) = ((M1 : Nat) : Int) from rfl, iand_u64 (by omega) hM1, iand_u64 h3 hM1, ← Int.natCast_add, wrapN (by omega)]
  generalize hb : ((a / 4) &&& M1) + (a &&& M1) = b at *
  have e3 : t3 (b : Int) = (((b / 16 + b) &&& M2 : Nat) : Int) := by
    unfold t3
    have a1 := shr_u64 (a := b) (k := 4) (by omega)
    rw [show ((4 : Nat) : Int) = 4 from rfl] at a1
    simp only [Nat.reducePow] at a1
    rw [a1, show (1085102592571150095 : Int) = ((M2 : Nat) : Int) from rfl, ← Int.natCast_add, wrapN (by omega), iand_u64 (by omega) hM2]
  have hn : n3 x = (b / 16 + b) &&& M2 := by subst hb ha; rfl
  rw [← hn] at e3
  have hy := y_lt hp
  have hl := n6_lt hy
  have hs := n6_sum hp
  rw [← h1] at hy hl hs
  rw [e1, e2, e3]
  generalize n3 x = y at *
  have e4 : t4 (y : Int) = ((y + y / 256 : Nat) : Int) := by
    unfold t4
    have a1 := shr_u64 (a := y) (k := 8) (by omega)
    rw [show ((8 : Nat) : Int) = 8 from rfl] at a1
    simp only [Nat.reducePow] at a1
    rw [a1, ← Int.natCast_add, wrapN (by omega)]
  obtain ⟨c, hc⟩ : ∃ c, c = y + y / 256 := ⟨_, rfl⟩
  rw [e4, ← hc]
  have e5 : t5 (c : Int) = ((c + c / 65536 : Nat) : Int) := by
    unfold t5
    have a1 := shr_u64 (a := c) (k := 16) (by omega)
    rw [show ((16 : Nat) : Int) = 16 from rfl] at a1
    simp only [Nat.reducePow] at a1
    rw [a1, ← Int.natCast_add, wrapN (by omega)]
  obtain ⟨d, hd⟩ : ∃ d, d = c + c / 65536 := ⟨_, rfl⟩
  rw [e5, ← hd]
  have e6 : t6 (d : Int) = ((d + d / 4294967296 : Nat) : Int) := by
    unfold t6
    have a1 := shr_u64 (a := d) (k := 32) (by omega)
    rw [show ((32 : Nat) : Int) = 32 from rfl] at a1
    simp only [Nat.reducePow] at a1
    rw [a1, ← Int.natCast_add, wrapN (by omega)]
  have hn6 : n6 y = d + d / 4294967296 := by subst hd hc; rfl
  rw [e6, ← hn6, wrap64 (by omega) (by omega), show (127 : Int) = ((127 : Nat) : Int) from rfl, iand_i64 hl (by omega)]
  have : n6 y &&& 127 = n6 y % 128 := Nat.and_two_pow_sub_one_eq_mod _ 7
  rw [this, hs, h2]
end Go.Proofs.YteiaphkejkgfkaaDoor
