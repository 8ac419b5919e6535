/-
  MY ENGINE, part I: shifts; errors of the package; slices against nil; guards of what was passed over; operations in any place of a drawn order.
-/
import Derived.Test.YteiaphkejkgfkaaDoorEngH
namespace Go.Eng
open Go
def shlI (k : IntKind) (x y : Int) : Int := k.wrap (x * 2 ^ (min y.toNat k.bits))
def shrI (k : IntKind) (x y : Int) : Int := x.fdiv (2 ^ (min y.toNat k.bits))
/-- not negative -/
def nn (y : Int) : Option Unit := if 0 ≤ y then some () else none
theorem nn_some {y : Int} {u : Unit} (h : nn y = some u) : 0 ≤ y := by
  unfold nn at h
  split at h
  · assumption
  · cases h
def GErr (ρ : View) (g : Nat) (v : Value) : Prop := cellsAt ρ g 0 [v] ∧ ∃ T a, v = .iface T (.pointer (some a))
theorem GErr.up {ρ ρ' : View} {g : Nat} {v : Value} (hl : View.le ρ ρ') (h : GErr ρ g v) : GErr ρ' g v := ⟨h.1.up hl, h.2⟩
theorem GErr.one {ρ : View} {g : Nat} {v : Value} (h : GErr ρ g v) : v.oneCell' = true := by obtain ⟨_, T, a, rfl⟩ := h; rfl
theorem GErr.cells {ρ : View} {g : Nat} {v : Value} (h : GErr ρ g v) : v.cells = #[v] := by obtain ⟨_, T, a, rfl⟩ := h; rfl
section
variable {P : Program} {E : Env} {w : World} {C : Cx} {ρ : View} {hs : List Hl} {d : Option Tmp} {ty : TypeId} {pos : String} {af : Array Edge} {g : Option (Nat × Bool)} {ops : Array Oper} {Q : Exit → Act → World → Prop} {n : Nat} {S : World → Prop}
theorem Q_shl {k k' : IntKind} {t t' : TypeId} {x y : Operand} {m l : Int} (hx : ev E x = some (.int k m)) (hy : ev E y = some (.int k' l)) (h0 : 0 ≤ l) : Qv P E ⟨d, .binOp .shl t x y t', ty, pos, af, g⟩ (.int k (shlI k m l)) w := fun n a hf => by
  have : ¬ l < 0 := by omega
  simp [execOp, hf.eval hx, hf.eval hy, eqGuard, binOp, Op.shift, this, shlI]
theorem Q_shr {k k' : IntKind} {t t' : TypeId} {x y : Operand} {m l : Int} (hx : ev E x = some (.int k m)) (hy : ev E y = some (.int k' l)) (h0 : 0 ≤ l) : Qv P E ⟨d, .binOp .shr t x y t', ty, pos, af, g⟩ (.int k (shrI k m l)) w := fun n a hf => by
  have : ¬ l < 0 := by omega
  simp [execOp, hf.eval hx, hf.eval hy, eqGuard, binOp, Op.shift, this, shrI]
theorem Q_neg {k : IntKind} {t : TypeId} {x : Operand} {m : Int} (hx : ev E x = some (.int k m)) : Qv P E ⟨d, .unOp .neg t x, ty, pos, af, g⟩ (.int k (k.wrap (0 - m))) w := fun n a hf => by
  simp [execOp, hf.eval hx, Op.unary, Op.intArith]
theorem Q_ldG {T : TypeId} {gl by_ : Nat} {z v : Value} (hok : Ok w ρ hs) (hg : GErr ρ gl v) (hty : Ty P T 1 by_ z false) : Qv P E ⟨d, .load T (.global gl), ty, pos, af, g⟩ v w :=
  Q_ld (hg.1.up hok.view) hty rfl (fun _ => rfl) rfl rfl
theorem eqIn_EN {t : TypeId} {ms : Array (String × TypeId)} (ht : P.underlying t = some (.interface ms)) (D : Nat) (T : TypeId) (v : Value) : (Op.equalIn (D + 1) t (.iface T v) .nilIface).run P w = .ok false w := by
  simp [Op.equalIn, run_underlying ht]
theorem eqIn_NN {t : TypeId} {ms : Array (String × TypeId)} (ht : P.underlying t = some (.interface ms)) (D : Nat) : (Op.equalIn (D + 1) t .nilIface .nilIface).run P w = .ok true w := by
  simp [Op.equalIn, run_underlying ht]
theorem eqIn_SN {t e : TypeId} (ht : P.underlying t = some (.slice e)) (D : Nat) (o : Option Addr) (l c : Nat) : (Op.equalIn (D + 1) t (.slice o l c) (.slice none 0 0)).run P w = .ok o.isNone w := by
  cases o <;> simp [Op.equalIn, run_underlying ht]
/-- an error against nil -/
theorem Q_neqE {t t' : TypeId} {ms : Array (String × TypeId)} {x : Operand} {v : Value} {gl : Nat} (ht : P.underlying t = some (.interface ms)) (hg : GErr ρ gl v) (hx : ev E x = some v) : Qv P E ⟨d, .binOp .neq t x (.const .nilIface) t', ty, pos, af, g⟩ (.bool true) w := fun n a hf => by
  obtain ⟨_, T, ad, rfl⟩ := hg
  have h1 : a.eval (.const .nilIface) = .nilIface := rfl
  have h2 := fun w => eqIn_EN (P := P) (w := w) ht 9999 T (.pointer (some ad))
  simp [execOp, hf.eval hx, h1, eqGuard, binOp, Op.equal, Op.maxDepth, h2]
theorem Q_eqlE {t t' : TypeId} {ms : Array (String × TypeId)} {x : Operand} {v : Value} {gl : Nat} (ht : P.underlying t = some (.interface ms)) (hg : GErr ρ gl v) (hx : ev E x = some v) : Qv P E ⟨d, .binOp .eql t x (.const .nilIface) t', ty, pos, af, g⟩ (.bool false) w := fun n a hf => by
  obtain ⟨_, T, ad, rfl⟩ := hg
  have h1 : a.eval (.const .nilIface) = .nilIface := rfl
  have h2 := fun w => eqIn_EN (P := P) (w := w) ht 9999 T (.pointer (some ad))
  simp [execOp, hf.eval hx, h1, eqGuard, binOp, Op.equal, Op.maxDepth, h2]
theorem Q_neqN {t t' : TypeId} {ms : Array (String × TypeId)} {x : Operand} (ht : P.underlying t = some (.interface ms)) (hx : ev E x = some .nilIface) : Qv P E ⟨d, .binOp .neq t x (.const .nilIface) t', ty, pos, af, g⟩ (.bool false) w := fun n a hf => by
  have h1 : a.eval (.const .nilIface) = .nilIface := rfl
  have h2 := fun w => eqIn_NN (P := P) (w := w) ht 9999
  simp [execOp, hf.eval hx, h1, eqGuard, binOp, Op.equal, Op.maxDepth, h2]
theorem Q_eqlN {t t' : TypeId} {ms : Array (String × TypeId)} {x : Operand} (ht : P.underlying t = some (.interface ms)) (hx : ev E x = some .nilIface) : Qv P E ⟨d, .binOp .eql t x (.const .nilIface) t', ty, pos, af, g⟩ (.bool true) w := fun n a hf => by
  have h1 : a.eval (.const .nilIface) = .nilIface := rfl
  have h2 := fun w => eqIn_NN (P := P) (w := w) ht 9999
  simp [execOp, hf.eval hx, h1, eqGuard, binOp, Op.equal, Op.maxDepth, h2]
/-- a slice against nil -/
theorem Q_eqlS {t e t' : TypeId} {x : Operand} {o : Option Addr} {l c : Nat} (ht : P.underlying t = some (.slice e)) (hx : ev E x = some (.slice o l c)) : Qv P E ⟨d, .binOp .eql t x (.const (.slice none 0 0)) t', ty, pos, af, g⟩ (.bool o.isNone) w := fun n a hf => by
  have h1 : a.eval (.const (.slice none 0 0)) = .slice none 0 0 := rfl
  have h2 := fun w => eqIn_SN (P := P) (w := w) ht 9999 o l c
  simp [execOp, hf.eval hx, h1, eqGuard, binOp, Op.equal, Op.maxDepth, h2]

/-! guards of an operation that was passed over -/
def gdU (ops : Array Oper) (E : Env) (j : Nat) : Prop := ∃ o d, ops[j]? = some o ∧ o.dst = some d ∧ look E d = some undef
theorem gdU_yielded {a : Act} (hf : Fr n a E) {j : Nat} (h : gdU ops E j) : yielded ops a.tmps j = none := by
  obtain ⟨o, d, ho, hd, hl⟩ := h
  have := hf.slots d _ hl
  unfold yielded
  simp only [Array.getD_eq_getD_getElem?] at this
  simp only [ho, Option.bind_some, hd]
  cases ht : a.tmps[d]? with
  | none => rfl
  | some u => simp [ht] at this; subst this; rfl
theorem gsu {o : Oper} {rest : List Oper} {j : Nat} {b : Bool} (hg : o.guard = some (j, b)) (hj : gdU ops E j) (hd : inN n o.dst = true) (h : WL P ops Q rest n (putE E o.dst undef) w) : WL P ops Q (o :: rest) n E w :=
  fun a hf => wpList_step fun K hK => by
    have hw : Region.wanted o (yielded ops a.tmps) = false := by simp [Region.wanted, hg, gdU_yielded hf hj]
    rw [if_neg (by simp [hw])]
    exact hK _ _ (h _ (hf.putE hd _))
theorem dgsu {i : Nat} {r : Ord} {o : Oper} {j : Nat} {b : Bool} (hi : ops[i]? = some o) (hg : o.guard = some (j, b)) (hj : gdU ops E j) (hd : inN n o.dst = true) (h : DL P ops S Q r n (putE E o.dst undef) w) : DL P ops S Q (.take i r) n E w :=
  fun a hf => ⟨o, hi, by
    rw [if_neg (by simp [Region.wanted, hg, gdU_yielded hf hj])]
    exact h _ (hf.putE hd _)⟩
theorem dgesu {i : Nat} {r : Ord} {o : Oper} {j : Nat} {b : Bool} (hi : ops[i]? = some o) (hg : o.guard = some (j, b)) (hj : gdU ops E j) (hd : inN n o.dst = true) (h : DL P ops S Q r n (putE E o.dst undef) w) : DO P ops S Q i r n E w :=
  fun a hf => ⟨o, hi, by
    rw [if_neg (by simp [Region.wanted, hg, gdU_yielded hf hj])]
    exact h _ (hf.putE hd _)⟩
/-- a quiet operation in the place of one that does something -/
theorem Eff.quiet {o : Oper} {v : Value} (hq : Qv P E o v w) : Eff P E o w (fun v' w' => v = v' ∧ w = w') := Eff.of_run fun n a hf => ⟨v, w, hq n a hf, rfl, rfl⟩
end
end Go.Eng
