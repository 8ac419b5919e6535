/-
  MY ENGINE, part H: equality of arrays; slices against nil; variables of the package.
-/
import Derived.Test.YteiaphkejkgfkaaDoorEngG
namespace Go.Eng
open Go
theorem one_nil : ∀ u ∈ ([] : List Value), u.oneCell' = true := by simp
theorem one_cons {x : Value} {l : List Value} (h : x.oneCell' = true) (t : ∀ u ∈ l, u.oneCell' = true) : ∀ u ∈ x :: l, u.oneCell' = true := by
  intro u hu
  rcases List.mem_cons.1 hu with rfl | hu
  · exact h
  · exact t u hu
section
variable {P : Program} {E : Env} {w : World} {C : Cx} {ρ : View} {hs : List Hl} {d : Option Tmp} {ty : TypeId} {pos : String} {af : Array Edge} {g : Option (Nat × Bool)}
theorem run_forEq {N : Nat} {xs ys : List Int} (hx : xs.length = N) (hy : ys.length = N) (f : Nat → Option Bool × Unit → Sem (ForInStep (Option Bool × Unit)))
    (hf : ∀ i s, i < N → (f i s).run P w = .ok (if xs[i]? = ys[i]? then .yield (none, ()) else .done (some false, ())) w) :
    ∀ m i, i + m = N → (forIn (m := Sem) (List.range' i m) ((none, ()) : Option Bool × Unit) f).run P w = .ok (if xs.drop i = ys.drop i then (none, ()) else (some false, ())) w
  | 0, i, h => by
    have h1 : xs.drop i = [] := List.drop_eq_nil_of_le (by omega)
    have h2 : ys.drop i = [] := List.drop_eq_nil_of_le (by omega)
    simp [h1, h2]
  | m + 1, i, h => by
    have h1 : xs.drop i = xs[i]'(by omega) :: xs.drop (i + 1) := (List.drop_eq_getElem_cons (by omega))
    have h2 : ys.drop i = ys[i]'(by omega) :: ys.drop (i + 1) := (List.drop_eq_getElem_cons (by omega))
    rw [List.range'_succ, List.forIn_cons, Sem.run_bind, hf i _ (by omega)]
    have e1 : xs[i]? = some (xs[i]'(by omega)) := List.getElem?_eq_getElem (by omega)
    have e2 : ys[i]? = some (ys[i]'(by omega)) := List.getElem?_eq_getElem (by omega)
    simp only [Result.andThen_ok]
    have h3 : (xs.drop i = ys.drop i) ↔ (xs[i]'(by omega) = ys[i]'(by omega) ∧ xs.drop (i + 1) = ys.drop (i + 1)) := by
      rw [h1, h2]; exact List.cons_eq_cons
    by_cases he : xs[i]'(by omega) = ys[i]'(by omega)
    · rw [if_pos (by rw [e1, e2, he])]
      simp only
      rw [run_forEq hx hy f hf m (i + 1) (by omega)]
      by_cases ht : xs.drop (i + 1) = ys.drop (i + 1)
      · rw [if_pos ht, if_pos (h3.2 ⟨he, ht⟩)]
      · rw [if_neg ht, if_neg (fun h => ht (h3.1 h).2)]
    · rw [if_neg (by rw [e1, e2]; simpa using he), if_neg (fun h => he (h3.1 h).1)]
      simp
theorem run_eqInts {t e : TypeId} {N by_ : Nat} {z : Value} {k k' : IntKind} {xs ys : List Int} (ht : P.underlying t = some (.array N e)) (hty : Ty P e 1 by_ z false) (hu : P.underlying e = some (.int k')) (hx : xs.length = N) (hy : ys.length = N) (D : Nat) :
    (Op.equalIn (D + 2) t (.agg (xs.map (Value.int k)).toArray) (.agg (ys.map (Value.int k)).toArray)).run P w = .ok (xs == ys) w := by
  have hp : ∀ (l : List Int) (i : Nat) (a : Int), l[i]? = some a → (part e (l.map (Value.int k)).toArray i).run P w = .ok (.int k a) w := by
    intro l i a hl
    unfold part
    rw [Sem.run_bind, hty.isAgg]
    simp [hl]
  have he : ∀ a b : Int, (Op.equalIn (D + 1) e (.int k a) (.int k b)).run P w = .ok (a == b) w := by
    intro a b
    simp [Op.equalIn, run_underlying hu]
  unfold Op.equalIn
  simp only [Sem.run_bind, run_underlying ht, Result.andThen_ok, hty.sizeOf]
  simp
  rw [run_forEq hx hy _ (fun i s hi => ?_) N 0 (by omega)]
  · simp only [Result.andThen_ok, List.drop_zero]
    by_cases h : xs = ys <;> simp [h]
  · have e1 : xs[i]? = some (xs[i]'(by omega)) := List.getElem?_eq_getElem (by omega)
    have e2 : ys[i]? = some (ys[i]'(by omega)) := List.getElem?_eq_getElem (by omega)
    simp only [Sem.run_bind, hp xs i _ e1, hp ys i _ e2, Result.andThen_ok, he]
    by_cases h : xs[i]'(by omega) = ys[i]'(by omega) <;> simp [h, e1, e2]
section
variable {t e : TypeId} {N by_ : Nat} {z : Value} {k k' : IntKind} {xs ys : List Int} {x y : Operand} {t' : TypeId} {cs ds : List Value} (ht : P.underlying t = some (.array N e)) (hty : Ty P e 1 by_ z false) (hg : P.eqGuardType P.depth t = false) (hu : P.underlying e = some (.int k'))
    (hr : rdL (eI k) ρ xs cs) (hx : xs.length = N) (hr' : rdL (eI k) ρ ys ds) (hy : ys.length = N) (he : ev E x = some (.agg cs.toArray)) (he' : ev E y = some (.agg ds.toArray))
include ht hty hg hu hr hx hr' hy he he'
theorem Q_eqlA : Qv P E ⟨d, .binOp .eql t x y t', ty, pos, af, g⟩ (.bool (xs == ys)) w := fun n a hf => by
  obtain rfl := rdL_ints_eq hr
  obtain rfl := rdL_ints_eq hr'
  have := run_eqInts (P := P) (w := w) (k := k) ht hty hu hx hy 9998
  simp [execOp, hf.eval he, hf.eval he', eqGuard, hg, binOp, Op.equal, Op.maxDepth, this]
theorem Q_neqA : Qv P E ⟨d, .binOp .neq t x y t', ty, pos, af, g⟩ (.bool (xs != ys)) w := fun n a hf => by
  obtain rfl := rdL_ints_eq hr
  obtain rfl := rdL_ints_eq hr'
  have := run_eqInts (P := P) (w := w) (k := k) ht hty hu hx hy 9998
  simp [execOp, hf.eval he, hf.eval he', eqGuard, hg, binOp, Op.equal, Op.maxDepth, this, bne]
end
end
end Go.Eng
