/-
  MY ENGINE, part J: stores into parts of elements; pointers against nil; max, min.
-/
import Derived.Test.YteiaphkejkgfkaaDoorEngI
namespace Go.Eng
open Go
theorem setC_in {cs c : List Value} {a b n : Nat} (h1 : b + c.length ≤ n) (h2 : a + n ≤ cs.length) : setC cs a (setC ((cs.drop a).take n) b c) = setC cs (a + b) c := by
  have hl : ((cs.drop a).take n).length = n := by simp; omega
  unfold setC
  rw [List.take_take, List.length_append, List.length_append, List.length_drop, hl]
  have e0 : min b n = b := by omega
  have e1 : (List.take b (List.drop a cs)).length = b := by simp; omega
  rw [e0, e1]
  have e2 : a + (b + c.length + (n - (b + c.length))) = a + n := by omega
  rw [e2, List.drop_take, List.drop_drop]
  have e3 : List.take (a + b) cs = List.take a cs ++ List.take b (List.drop a cs) := by rw [← List.take_add]
  have e4 : List.drop (a + b + c.length) cs = List.take (n - (b + c.length)) (List.drop (a + (b + c.length)) cs) ++ List.drop (a + n) cs := by
    have : a + b + c.length = a + (b + c.length) := by omega
    rw [this]
    have h5 : List.drop (a + n) cs = List.drop (n - (b + c.length)) (List.drop (a + (b + c.length)) cs) := by
      rw [List.drop_drop]; congr 1; omega
    rw [h5, List.take_append_drop]
  rw [e3, e4]
  simp only [List.append_assoc]
theorem idx_fit {i : Int} {N m : Nat} (h : 0 ≤ i ∧ i < (N : Int)) : i.toNat * m + m ≤ N * m := by
  have : i.toNat + 1 ≤ N := by omega
  have := Nat.mul_le_mul_right m this
  rwa [Nat.add_mul, Nat.one_mul] at this
theorem setI_len {α : Type} {xs ys : List α} {i : Int} {x : α} {N : Nat} (h : setI xs i x = some ys) (hl : xs.length = N) : ys.length = N := by
  obtain ⟨_, _, rfl⟩ := setI_some h
  simpa using hl
theorem setI_bd {α : Type} {xs ys : List α} {i : Int} {x : α} {N : Nat} (h : setI xs i x = some ys) (hl : xs.length = N) : 0 ≤ i ∧ i < (N : Int) := by
  obtain ⟨h0, h1, rfl⟩ := setI_some h
  omega
/-- a store into one element's array -/
theorem rdL_set2 {α : Type} {e : Enc α} {ρ : View} {N : Nat} {xs ys : List (List α)} {x0 y1 : List α} {cs c : List Value} {i j : Int} {x : α} (hr : rdL (eA N e) ρ xs cs) (hc : (eA N e).rd ρ x0 ((cs.drop (i.toNat * (N * e.n))).take (N * e.n)))
    (h1 : setI x0 j x = some y1) (h2 : setI xs i y1 = some ys) (hx : e.rd ρ x c) : rdL (eA N e) ρ ys (setC cs (i.toNat * (N * e.n) + j.toNat * e.n) c) := by
  obtain ⟨h3, h4, rfl⟩ := setI_some h1
  obtain ⟨h5, h6, rfl⟩ := setI_some h2
  have hin : (eA N e).rd ρ (x0.set j.toNat x) (setC ((cs.drop (i.toNat * (N * e.n))).take (N * e.n)) (j.toNat * e.n) c) := ⟨by simpa using hc.1, rdL.set hc.2 h4 hx⟩
  have hl := hr.len
  have hcl := e.len hx
  have h7 : j.toNat * e.n + e.n ≤ N * e.n := by
    have : j.toNat + 1 ≤ N := by have := hc.1; omega
    have := Nat.mul_le_mul_right e.n this
    rwa [Nat.add_mul, Nat.one_mul] at this
  have h8 : i.toNat * (N * e.n) + N * e.n ≤ cs.length := by
    rw [hl]
    have : i.toNat + 1 ≤ xs.length := by omega
    have := Nat.mul_le_mul_right (N * e.n) this
    rwa [Nat.add_mul, Nat.one_mul] at this
  rw [← setC_in (n := N * e.n) (by omega) h8]
  exact rdL.set hr h6 hin
section
variable {P : Program} {E : Env} {w : World} {C : Cx} {ρ : View} {hs : List Hl} {d : Option Tmp} {ty : TypeId} {pos : String} {af : Array Edge} {g : Option (Nat × Bool)}
theorem eqIn_PN {t e : TypeId} (ht : P.underlying t = some (.pointer e)) (D : Nat) (o : Option Addr) : (Op.equalIn (D + 1) t (.pointer o) (.pointer none)).run P w = .ok o.isNone w := by
  cases o <;> simp [Op.equalIn, run_underlying ht]
theorem Q_eqlP {t e t' : TypeId} {x : Operand} {o : Option Addr} (ht : P.underlying t = some (.pointer e)) (hx : ev E x = some (.pointer o)) : Qv P E ⟨d, .binOp .eql t x (.const (.pointer none)) t', ty, pos, af, g⟩ (.bool o.isNone) w := fun n a hf => by
  have h1 : a.eval (.const (.pointer none)) = .pointer none := rfl
  have h2 := fun w => eqIn_PN (P := P) (w := w) ht 9999 o
  simp [execOp, hf.eval hx, h1, eqGuard, binOp, Op.equal, Op.maxDepth, h2]
theorem Q_neqP {t e t' : TypeId} {x : Operand} {o : Option Addr} (ht : P.underlying t = some (.pointer e)) (hx : ev E x = some (.pointer o)) : Qv P E ⟨d, .binOp .neq t x (.const (.pointer none)) t', ty, pos, af, g⟩ (.bool (!o.isNone)) w := fun n a hf => by
  have h1 : a.eval (.const (.pointer none)) = .pointer none := rfl
  have h2 := fun w => eqIn_PN (P := P) (w := w) ht 9999 o
  simp [execOp, hf.eval hx, h1, eqGuard, binOp, Op.equal, Op.maxDepth, h2]
def imax (m l : Int) : Int := if l > m then l else m
def imin (m l : Int) : Int := if l < m then l else m
theorem Q_max {k : IntKind} {x y : Operand} {ts : Array TypeId} {m l : Int} (hx : ev E x = some (.int k m)) (hy : ev E y = some (.int k l)) :
    Qv P E ⟨d, .call { callee := .builtin .max, args := #[x, y], argTypes := ts }, ty, pos, af, g⟩ (.int k (imax m l)) w := fun n a hf => by
  simp [execOp, resolve, invoke, builtin, Builtin.max_, Builtin.max2, hf.eval hx, hf.eval hy, imax]
theorem Q_min {k : IntKind} {x y : Operand} {ts : Array TypeId} {m l : Int} (hx : ev E x = some (.int k m)) (hy : ev E y = some (.int k l)) :
    Qv P E ⟨d, .call { callee := .builtin .min, args := #[x, y], argTypes := ts }, ty, pos, af, g⟩ (.int k (imin m l)) w := fun n a hf => by
  simp [execOp, resolve, invoke, builtin, Builtin.min_, Builtin.min2, hf.eval hx, hf.eval hy, imin]
end
end Go.Eng
