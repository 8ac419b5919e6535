/-
  MY ENGINE, part L: bools compared; slices cut.
-/
import Derived.Test.YteiaphkejkgfkaaDoorEngK
namespace Go.Eng
open Go
/-- the pure xs[lo:hi] -/
def slc {α : Type} (xs : List α) (lo hi : Int) : Option (List α) := if 0 ≤ lo ∧ lo ≤ hi ∧ hi ≤ xs.length then some ((xs.take hi.toNat).drop lo.toNat) else none
theorem slc_some {α : Type} {xs ys : List α} {lo hi : Int} (h : slc xs lo hi = some ys) : 0 ≤ lo ∧ lo ≤ hi ∧ hi ≤ xs.length ∧ ys = (xs.take hi.toNat).drop lo.toNat := by
  unfold slc at h
  split at h
  · rename_i hc; exact ⟨hc.1, hc.2.1, hc.2.2, (Option.some.inj h).symm⟩
  · cases h
section
variable {P : Program} {E : Env} {w : World} {C : Cx} {ρ : View} {hs : List Hl} {d : Option Tmp} {ty : TypeId} {pos : String} {af : Array Edge} {g : Option (Nat × Bool)}
theorem eqIn_B {t : TypeId} (ht : P.underlying t = some .bool) (D : Nat) (a b : Bool) : (Op.equalIn (D + 1) t (.bool a) (.bool b)).run P w = .ok (a == b) w := by
  simp [Op.equalIn, run_underlying ht]
theorem Q_eqlB {t t' : TypeId} {x y : Operand} {a b : Bool} (ht : P.underlying t = some .bool) (hx : ev E x = some (.bool a)) (hy : ev E y = some (.bool b)) : Qv P E ⟨d, .binOp .eql t x y t', ty, pos, af, g⟩ (.bool (a == b)) w := fun n ac hf => by
  have h2 := fun w => eqIn_B (P := P) (w := w) ht 9999 a b
  simp [execOp, hf.eval hx, hf.eval hy, eqGuard, binOp, Op.equal, Op.maxDepth, h2]
theorem Q_neqB {t t' : TypeId} {x y : Operand} {a b : Bool} (ht : P.underlying t = some .bool) (hx : ev E x = some (.bool a)) (hy : ev E y = some (.bool b)) : Qv P E ⟨d, .binOp .neq t x y t', ty, pos, af, g⟩ (.bool (a != b)) w := fun n ac hf => by
  have h2 := fun w => eqIn_B (P := P) (w := w) ht 9999 a b
  simp [execOp, hf.eval hx, hf.eval hy, eqGuard, binOp, Op.equal, Op.maxDepth, h2, bne]

/-- the bounds of a cut: what each operand comes to -/
def bdv (E : Env) : Option Operand → Int → Prop
  | none, _ => True
  | some x, i => ∃ k, ev E x = some (.int k i)
theorem run_bound {v : Value} {k : IntKind} {i : Int} {y : Nat} {code : BoundsCode} (hv : v = .int k i) (h0 : 0 ≤ i) (h1 : i ≤ y) : (Instr.sliceBound v y code).run P w = .ok i.toNat w := by
  subst hv
  simp [Instr.sliceBound, asIntOf, h0, h1]
theorem run_slice {t e : TypeId} {a : Option Addr} {len cap n by_ : Nat} {z : Value} {ag : Bool} {lo hi : Int} {vlo vhi : Option Value} (ht : P.underlying t = some (.slice e)) (hty : Ty P e n by_ z ag)
    (hlo : vlo = none ∧ lo = 0 ∨ ∃ k, vlo = some (.int k lo)) (hhi : vhi = none ∧ hi = len ∨ ∃ k, vhi = some (.int k hi)) (h0 : 0 ≤ lo) (h1 : lo ≤ hi) (h2 : hi ≤ cap) :
    (Instr.slice t (.slice a len cap) vlo vhi none).run P w = .ok (.slice (if cap = lo.toNat then a else a.map (·.add (lo.toNat * n))) (hi.toNat - lo.toNat) (cap - lo.toNat)) w := by
  have hb : (Instr.sliceBounds true len cap vlo vhi none).run P w = .ok (lo.toNat, hi.toNat, cap) w := by
    have e1 : (match vhi with | some v => Instr.sliceBound v cap .sliceAcap | none => pure len : Sem Nat).run P w = .ok hi.toNat w := by
      rcases hhi with ⟨rfl, rfl⟩ | ⟨k, rfl⟩
      · simp
      · exact run_bound rfl (by omega) h2
    have e2 : (match vlo with | some v => Instr.sliceBound v hi.toNat .sliceB | none => pure 0 : Sem Nat).run P w = .ok lo.toNat w := by
      rcases hlo with ⟨rfl, rfl⟩ | ⟨k, rfl⟩
      · simp
      · exact run_bound rfl h0 (by omega)
    unfold Instr.sliceBounds
    rcases hhi with ⟨rfl, rfl⟩ | ⟨k, rfl⟩ <;> rcases hlo with ⟨rfl, rfl⟩ | ⟨k', rfl⟩ <;> simp at e1 e2 ⊢ <;> simp [e1, e2]
  simp [Instr.slice, run_underlying ht, hb, hty.sizeOf]
/-- how the operands of a cut lie in the frame -/
def Bd (E : Env) (dft : Int) : Option Operand → Int → Prop
  | none, i => i = dft
  | some x, i => ∃ k, ev E x = some (.int k i)
theorem Bd.val {n : Nat} {a : Act} (hf : Fr n a E) {dft : Int} {x : Option Operand} {i : Int} (h : Bd E dft x i) : x.map a.eval = none ∧ i = dft ∨ ∃ k, x.map a.eval = some (.int k i) := by
  cases x with
  | none => exact .inl ⟨rfl, h⟩
  | some x => obtain ⟨k, h⟩ := h; exact .inr ⟨k, by simp [hf.eval h]⟩
/-- a slice that is read, cut -/
theorem sliceR {α : Type} {en : Enc α} {v : Value} {xs : List α} {lo hi : Int} (hr : RdSl ρ en v xs) (h0 : 0 ≤ lo) (h1 : lo ≤ hi) (h2 : hi ≤ xs.length) :
    ∃ v', RdSl ρ en v' ((xs.take hi.toNat).drop lo.toNat) ∧ ∀ (E : Env) (w : World) (d : Option Tmp) (ty : TypeId) (pos : String) (af : Array Edge) (g : Option (Nat × Bool)) (t e : TypeId) (by_ : Nat) (z : Value) (ag : Bool) (x : Operand) (l h : Option Operand),
      P.underlying t = some (.slice e) → Ty P e en.n by_ z ag → ev E x = some v → Bd E 0 l lo → Bd E xs.length h hi → Qv P E ⟨d, .slice t x l h none, ty, pos, af, g⟩ v' w := by
  have hlen : ((xs.take hi.toNat).drop lo.toNat).length = hi.toNat - lo.toNat := by simp; omega
  rcases hr with ⟨ad, cap, rfl, rfl⟩ | ⟨b, o, cap, cs, rfl, hc, h3, h4⟩
  · simp at h2
    obtain rfl : hi = 0 := by omega
    obtain rfl : lo = 0 := by omega
    refine ⟨.slice ad 0 cap, .inl ⟨ad, cap, rfl, by simp⟩, ?_⟩
    intro E w d ty pos af g t e by_ z ag x l h ht hty hx hl hh n a hf
    have := run_slice (P := P) (w := w) (a := ad) (len := 0) (cap := cap) (lo := 0) (hi := 0) ht hty (hl.val hf) (by exact hh.val hf) (by omega) (by omega) (by omega)
    simp only [execOp, hf.eval hx, Instr.sliceAt, Sem.run_bind, run_underlying ht, Result.andThen_ok, Option.map_none, this]
    cases ad <;> simp [Addr.add]
  · refine ⟨.slice (if cap = lo.toNat then some ⟨b, o, none⟩ else (some ⟨b, o, none⟩ : Option Addr).map (·.add (lo.toNat * en.n))) (hi.toNat - lo.toNat) (cap - lo.toNat), ?_, ?_⟩
    · by_cases hcl : cap = lo.toNat
      · have hnil : (xs.take hi.toNat).drop lo.toNat = [] := List.eq_nil_of_length_eq_zero (by omega)
        refine .inr ⟨b, o, cap - lo.toNat, [], ?_, by omega, ?_, fun j u hj => by simp at hj⟩
        · simp [hcl, hnil]; omega
        · rw [hnil]; rfl
      · refine .inr ⟨b, o + lo.toNat * en.n, cap - lo.toNat, _, ?_, by omega, (h3.take hi.toNat).drop lo.toNat, fun j u hj => ?_⟩
        · simp only [if_neg hcl, Option.map_some, Addr.add_none, hlen]
        · rw [List.getElem?_drop, List.getElem?_take] at hj
          split at hj
          · have := h4 (lo.toNat * en.n + j) u hj
            rwa [← Nat.add_assoc] at this
          · cases hj
    · intro E w d ty pos af g t e by_ z ag x l h ht hty hx hl hh n a hf
      have := run_slice (P := P) (w := w) (a := some ⟨b, o, none⟩) (len := xs.length) (cap := cap) (lo := lo) (hi := hi) ht hty (hl.val hf) (hh.val hf) h0 h1 (by omega)
      simp only [execOp, hf.eval hx, Instr.sliceAt, Sem.run_bind, run_underlying ht, Result.andThen_ok, Option.map_none, this]
      simp
/-- a slice that is owned, cut: what is owned behind it is the rest -/
theorem sliceO {v : Value} {k n lo hi len : Nat} {cs : List Value} (H : Hp C w ρ hs) (hk : hs[k]? = some (Arr v n cs)) (hn : 0 < n) (hl : cs.length = len * n) (h1 : lo ≤ hi) (h2 : hi ≤ len) :
    ∃ v', Hp C w ρ (hs.set k (Arr v' n ((cs.take (hi * n)).drop (lo * n)))) ∧ ∀ (E : Env) (d : Option Tmp) (ty : TypeId) (pos : String) (af : Array Edge) (g : Option (Nat × Bool)) (t e : TypeId) (by_ : Nat) (z : Value) (ag : Bool) (x : Operand) (l h : Option Operand),
      P.underlying t = some (.slice e) → Ty P e n by_ z ag → ev E x = some v → Bd E 0 l lo → Bd E len h hi → ∀ w, Qv P E ⟨d, .slice t x l h none, ty, pos, af, g⟩ v' w := by
  rcases H.ok.get hk with ⟨rfl, rfl⟩ | ⟨b, o, len', cap, cur, T, rfl, hcl, hlc, hfit, hb, htake⟩
  · have hl0 : len = 0 := by
      have : len * n = 0 := by simpa using hl.symm
      rcases Nat.mul_eq_zero.1 this with h | h
      · exact h
      · omega
    subst hl0
    obtain rfl : hi = 0 := by omega
    obtain rfl : lo = 0 := by omega
    refine ⟨.slice none 0 0, ?_, ?_⟩
    · simp only [List.take_nil, List.drop_nil]
      rw [set_self hk]; exact H
    · intro E d ty pos af g t e by_ z ag x l h ht hty hx hlo hh w n' a hf
      have := run_slice (P := P) (w := w) (a := none) (len := 0) (cap := 0) (lo := ((0 : Nat) : Int)) (hi := ((0 : Nat) : Int)) ht hty (by exact hlo.val hf) (by exact hh.val hf) (by omega) (by omega) (by omega)
      simp only [execOp, hf.eval hx, Instr.sliceAt, Sem.run_bind, run_underlying ht, Result.andThen_ok, Option.map_none, this]
      simp
  · have e1 : len' = len := Nat.eq_of_mul_eq_mul_right hn (hcl.symm.trans hl)
    subst e1
    have hlen2 : ((cs.take (hi * n)).drop (lo * n)).length = (hi - lo) * n := by
      simp only [List.length_drop, List.length_take, hcl]
      have : hi * n ≤ len' * n := Nat.mul_le_mul_right _ h2
      rw [Nat.sub_mul]; omega
    have hq : ∀ (E : Env) (d : Option Tmp) (ty : TypeId) (pos : String) (af : Array Edge) (g : Option (Nat × Bool)) (t e : TypeId) (by_ : Nat) (z : Value) (ag : Bool) (x : Operand) (l h : Option Operand),
      P.underlying t = some (.slice e) → Ty P e n by_ z ag → ev E x = some (.slice (some ⟨b, o, none⟩) len' cap) → Bd E 0 l lo → Bd E len' h hi → ∀ w, Qv P E ⟨d, .slice t x l h none, ty, pos, af, g⟩ (.slice (if cap = lo then some ⟨b, o, none⟩ else some ⟨b, o + lo * n, none⟩) (hi - lo) (cap - lo)) w := by
      intro E d ty pos af g t e by_ z ag x l h ht hty hx hlo hh w n' a hf
      have := run_slice (P := P) (w := w) (a := some ⟨b, o, none⟩) (len := len') (cap := cap) (lo := lo) (hi := hi) ht hty (hlo.val hf) (hh.val hf) (by omega) (by omega) (by omega)
      simp only [execOp, hf.eval hx, Instr.sliceAt, Sem.run_bind, run_underlying ht, Result.andThen_ok, Option.map_none, this]
      simp [Addr.add_none]
    refine ⟨_, ?_, hq⟩
    have hbw : w.heap[b]? = some (.cells cur T (0, 0)) := hb
    have hfp : ∀ o' c1 c2, (Arr (.slice (some ⟨b, o', none⟩) c1 c2) n ((cs.take (hi * n)).drop (lo * n))).fp = [b] := fun _ _ _ => rfl
    have hmn : lo * n + (hi - lo) * n = hi * n := by rw [← Nat.add_mul]; congr 1; omega
    have hmc : hi * n ≤ cs.length := by rw [hcl]; exact Nat.mul_le_mul_right _ h2
    have hpart : (cur.toList.drop (o + lo * n)).take ((hi - lo) * n) = (cs.take (hi * n)).drop (lo * n) := by
      rw [← htake, List.take_take, Nat.min_eq_left hmc, ← hmn, List.drop_take, List.drop_drop]
      congr 1
      omega
    have hcapn : lo * n + (cap - lo) * n = cap * n := by rw [← Nat.add_mul]; congr 1; omega
    by_cases hcl2 : cap = lo
    · simp only [if_pos hcl2]
      have hz : hi - lo = 0 := by omega
      refine H.upd hk rfl rfl rfl (Nat.le_refl _) (fun _ _ _ => rfl) (by simp [Arr, vblk]) (fun b' hb' => .inl hb') (fun b' hb' => by simp [Arr, vblk] at hb'; subst hb'; exact lt_of_hv hb) (.inr ⟨b, o, hi - lo, cap - lo, cur, T, rfl, hlen2, by omega, by omega, hb, ?_⟩)
      rw [hlen2, hz]
      have : ((cs.take (hi * n)).drop (lo * n)).length = 0 := by rw [hlen2, hz]; simp
      rw [List.eq_nil_of_length_eq_zero this]; simp
    · simp only [if_neg hcl2]
      refine H.upd hk rfl rfl rfl (Nat.le_refl _) (fun _ _ _ => rfl) (by simp [Arr, vblk]) (fun b' hb' => .inl hb') (fun b' hb' => by simp [Arr, vblk] at hb'; subst hb'; exact lt_of_hv hb) (.inr ⟨b, o + lo * n, hi - lo, cap - lo, cur, T, rfl, hlen2, by omega, by omega, hb, ?_⟩)
      rw [hlen2]; exact hpart
end
end Go.Eng
