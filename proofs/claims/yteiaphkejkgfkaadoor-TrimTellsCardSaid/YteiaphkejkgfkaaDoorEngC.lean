/-
  MY ENGINE, part C: what single operations do.
-/
import Derived.Test.YteiaphkejkgfkaaDoorEngB
namespace Go.Eng
open Go

structure Ty (P : Program) (T : TypeId) (n bytes : Nat) (zero : Value) (agg : Bool) : Prop where
  info : (P.info? T).map (fun i => (i.size, i.bytes, i.zero)) = some (n, bytes, some zero)
  und : (P.underlying T).map (fun d => match d with | .struct _ | .array _ _ => true | _ => false) = some agg
section
variable {P : Program} {E : Env} {w : World} {C : Cx} {ρ : View} {hs : List Hl} {d : Option Tmp} {ty : TypeId} {pos : String} {af : Array Edge} {g : Option (Nat × Bool)}

theorem Ty.parts {T : TypeId} {n by_ : Nat} {z : Value} {ag : Bool} (h : Ty P T n by_ z ag) : ∃ i, P.info? T = some i ∧ i.size = n ∧ i.bytes = by_ ∧ i.zero = some z := by
  have := h.info
  cases hi : P.info? T with
  | none => simp [hi] at this
  | some i => simp [hi] at this; exact ⟨i, rfl, this.1, this.2.1, this.2.2⟩
theorem Ty.isAgg {T : TypeId} {n by_ : Nat} {z : Value} {ag : Bool} (h : Ty P T n by_ z ag) : (isAgg T).run P w = .ok ag w := by
  have := h.und
  cases hu : P.underlying T with
  | none => simp [hu] at this
  | some d =>
    simp [hu] at this
    unfold Go.isAgg
    rw [Sem.run_bind, run_underlying hu]
    simp only [Result.andThen_ok]
    subst this
    cases d <;> simp
theorem Ty.sizeOf {T : TypeId} {n by_ : Nat} {z : Value} {ag : Bool} (h : Ty P T n by_ z ag) : (sizeOf T).run P w = .ok n w := by
  obtain ⟨i, hi, hn, _⟩ := h.parts
  simp [Go.sizeOf, typeInfo, hi, hn]
theorem Ty.zeroValue {T : TypeId} {n by_ : Nat} {z : Value} {ag : Bool} (h : Ty P T n by_ z ag) : (zeroValue T).run P w = .ok z w := by
  obtain ⟨i, hi, _, _, hz⟩ := h.parts
  simp [Go.zeroValue, typeInfo, hi, hz]

/-! ### Quiet ones -/
theorem Q_move {x : Operand} {v : Value} (hx : ev E x = some v) : Qv P E ⟨d, .move x, ty, pos, af, g⟩ v w := fun n a hf => by simp [execOp, hf.eval hx]
theorem Q_assign {x : Operand} {v : Value} (hx : ev E x = some v) : Qv P E ⟨d, .assign x, ty, pos, af, g⟩ v w := fun n a hf => by simp [execOp, hf.eval hx]
theorem Q_pickT {c x y : Operand} {v : Value} (hc : ev E c = some (.bool true)) (hx : ev E x = some v) : Qv P E ⟨d, .pick c x y, ty, pos, af, g⟩ v w := fun n a hf => by simp [execOp, hf.eval hc, hf.eval hx, asBool]
theorem Q_pickF {c x y : Operand} {v : Value} (hc : ev E c = some (.bool false)) (hx : ev E y = some v) : Qv P E ⟨d, .pick c x y, ty, pos, af, g⟩ v w := fun n a hf => by simp [execOp, hf.eval hc, hf.eval hx, asBool]
theorem Q_nilP {x : Operand} {a : Addr} (hx : ev E x = some (.pointer (some a))) : Qv P E ⟨d, .nilCheck x, ty, pos, af, g⟩ (.pointer (some a)) w := fun n a hf => by simp [execOp, hf.eval hx]
theorem Q_extract {x : Operand} {vs : List Value} {i : Nat} {v : Value} (hx : ev E x = some (.tuple vs.toArray)) (hi : vs[i]? = some v) : Qv P E ⟨d, .extract x i, ty, pos, af, g⟩ v w := fun n a hf => by simp [execOp, hf.eval hx, Instr.extract, hi]
theorem Q_func {f : Fn} {cs : List Operand} {vs : List Value} (hx : evs E cs = some vs) : Qv P E ⟨d, .makeFunc f #[] cs.toArray, ty, pos, af, g⟩ (.func f #[] vs.toArray) w := fun n a hf => by
  have := hf.evals hx
  simp [execOp, Instr.makeFunc, this]
theorem Q_not {t : TypeId} {x : Operand} {b : Bool} (hx : ev E x = some (.bool b)) : Qv P E ⟨d, .unOp .not t x, ty, pos, af, g⟩ (.bool (!b)) w := fun n a hf => by simp [execOp, hf.eval hx, Op.unary]
section
variable {k : IntKind} {t t' : TypeId} {x y : Operand} {m l : Int} (hx : ev E x = some (.int k m)) (hy : ev E y = some (.int k l))
include hx hy
theorem Q_add : Qv P E ⟨d, .binOp .add t x y t', ty, pos, af, g⟩ (.int k (k.wrap (m + l))) w := fun n a hf => by simp [execOp, hf.eval hx, hf.eval hy, eqGuard, binOp, Op.intArith]
theorem Q_sub : Qv P E ⟨d, .binOp .sub t x y t', ty, pos, af, g⟩ (.int k (k.wrap (m - l))) w := fun n a hf => by simp [execOp, hf.eval hx, hf.eval hy, eqGuard, binOp, Op.intArith]
theorem Q_mul : Qv P E ⟨d, .binOp .mul t x y t', ty, pos, af, g⟩ (.int k (k.wrap (m * l))) w := fun n a hf => by simp [execOp, hf.eval hx, hf.eval hy, eqGuard, binOp, Op.intArith]
theorem Q_lss : Qv P E ⟨d, .binOp .lss t x y t', ty, pos, af, g⟩ (.bool (decide (m < l))) w := fun n a hf => by simp [execOp, hf.eval hx, hf.eval hy, eqGuard, binOp, Op.intCmp]
theorem Q_leq : Qv P E ⟨d, .binOp .leq t x y t', ty, pos, af, g⟩ (.bool (decide (m ≤ l))) w := fun n a hf => by simp [execOp, hf.eval hx, hf.eval hy, eqGuard, binOp, Op.intCmp]
theorem Q_gtr : Qv P E ⟨d, .binOp .gtr t x y t', ty, pos, af, g⟩ (.bool (decide (m > l))) w := fun n a hf => by simp [execOp, hf.eval hx, hf.eval hy, eqGuard, binOp, Op.intCmp]
theorem Q_geq : Qv P E ⟨d, .binOp .geq t x y t', ty, pos, af, g⟩ (.bool (decide (m ≥ l))) w := fun n a hf => by simp [execOp, hf.eval hx, hf.eval hy, eqGuard, binOp, Op.intCmp]
theorem Q_eql : Qv P E ⟨d, .binOp .eql t x y t', ty, pos, af, g⟩ (.bool (m == l)) w := fun n a hf => by simp [execOp, hf.eval hx, hf.eval hy, eqGuard, binOp, Op.intCmp]
theorem Q_neq : Qv P E ⟨d, .binOp .neq t x y t', ty, pos, af, g⟩ (.bool (m != l)) w := fun n a hf => by simp [execOp, hf.eval hx, hf.eval hy, eqGuard, binOp, Op.intCmp]
theorem Q_quo (h0 : l ≠ 0) : Qv P E ⟨d, .binOp .quo t x y t', ty, pos, af, g⟩ (.int k (k.wrap (m.tdiv l))) w := fun n a hf => by simp [execOp, hf.eval hx, hf.eval hy, eqGuard, binOp, Op.intDiv, h0]
theorem Q_rem (h0 : l ≠ 0) : Qv P E ⟨d, .binOp .rem t x y t', ty, pos, af, g⟩ (.int k (m.tmod l)) w := fun n a hf => by simp [execOp, hf.eval hx, hf.eval hy, eqGuard, binOp, Op.intDiv, h0]
end
/-- the bit operations, as the model has them -/
def iand (k : IntKind) (m l : Int) : Int := k.wrap (BitVec.ofInt k.bits m &&& BitVec.ofInt k.bits l).toNat
def ior (k : IntKind) (m l : Int) : Int := k.wrap (BitVec.ofInt k.bits m ||| BitVec.ofInt k.bits l).toNat
def ixor (k : IntKind) (m l : Int) : Int := k.wrap (BitVec.ofInt k.bits m ^^^ BitVec.ofInt k.bits l).toNat
def iandn (k : IntKind) (m l : Int) : Int := k.wrap (BitVec.ofInt k.bits m &&& ~~~ BitVec.ofInt k.bits l).toNat
section
variable {k : IntKind} {t t' : TypeId} {x y : Operand} {m l : Int} (hx : ev E x = some (.int k m)) (hy : ev E y = some (.int k l))
include hx hy
theorem Q_and : Qv P E ⟨d, .binOp .and t x y t', ty, pos, af, g⟩ (.int k (iand k m l)) w := fun n a hf => by simp [execOp, hf.eval hx, hf.eval hy, eqGuard, binOp, Op.intBits, iand]
theorem Q_or : Qv P E ⟨d, .binOp .or t x y t', ty, pos, af, g⟩ (.int k (ior k m l)) w := fun n a hf => by simp [execOp, hf.eval hx, hf.eval hy, eqGuard, binOp, Op.intBits, ior]
theorem Q_xor : Qv P E ⟨d, .binOp .xor t x y t', ty, pos, af, g⟩ (.int k (ixor k m l)) w := fun n a hf => by simp [execOp, hf.eval hx, hf.eval hy, eqGuard, binOp, Op.intBits, ixor]
theorem Q_andNot : Qv P E ⟨d, .binOp .andNot t x y t', ty, pos, af, g⟩ (.int k (iandn k m l)) w := fun n a hf => by simp [execOp, hf.eval hx, hf.eval hy, eqGuard, binOp, Op.intBits, iandn]
end
theorem Q_cvI {s t : TypeId} {ks k : IntKind} {x : Operand} {m : Int} (hs : ∃ u, P.underlying s = some u) (ht : P.underlying t = some (.int k)) (hx : ev E x = some (.int ks m)) :
    Qv P E ⟨d, .convert s t x, ty, pos, af, g⟩ (.int k (k.wrap m)) w := fun n a hf => by
  obtain ⟨u, hu⟩ := hs
  simp [execOp, hf.eval hx, convert, run_underlying hu, run_underlying ht, Conv.intToInt]
theorem Q_lenS {e t : TypeId} {x : Operand} {o : Option Addr} {l c : Nat} (ht : P.underlying t = some (.slice e)) (hx : ev E x = some (.slice o l c)) :
    Qv P E ⟨d, .call { callee := .builtin .len, args := #[x], argTypes := #[t] }, ty, pos, af, g⟩ (.int .i64 l) w := fun n a hf => by
  simp [execOp, resolve, invoke, builtin, Builtin.len_, run_underlying ht, hf.eval hx, goInt]
theorem Q_len {α : Type} {en : Enc α} {xs : List α} {v : Value} {e t : TypeId} {x : Operand} (ht : P.underlying t = some (.slice e)) (hx : ev E x = some v) (hr : RdSl ρ en v xs) :
    Qv P E ⟨d, .call { callee := .builtin .len, args := #[x], argTypes := #[t] }, ty, pos, af, g⟩ (.int .i64 xs.length) w := by
  rcases hr with ⟨ad, cap, rfl, rfl⟩ | ⟨b, o, cap, cs, rfl, _⟩
  · exact Q_lenS ht hx
  · exact Q_lenS ht hx
theorem rdL.nil_of {α : Type} {en : Enc α} {xs : List α} (hn : 0 < en.n) (h : rdL en ρ xs []) : xs = [] := by
  cases xs with
  | nil => rfl
  | cons x xs =>
    have := h.len
    simp [Nat.add_mul] at this
    omega
/-- an owned slice: its length -/
theorem arr_len {α : Type} {en : Enc α} {xs : List α} {v : Value} {cs : List Value} (hn : 0 < en.n) {h : View} (hp : (Arr v en.n cs).P h) (hr : rdL en ρ xs cs) : ∃ o c, v = .slice o xs.length c := by
  rcases hp with ⟨rfl, rfl⟩ | ⟨b, o, len, cap, cur, T, rfl, h1, _⟩
  · have := rdL.nil_of hn hr
    subst this; exact ⟨_, _, rfl⟩
  · have := hr.len
    rw [h1] at this
    have := Nat.eq_of_mul_eq_mul_right hn this
    subst this
    exact ⟨_, _, rfl⟩
theorem Q_lenA {α : Type} {en : Enc α} {xs : List α} {v : Value} {cs : List Value} {e t : TypeId} {x : Operand} {k : Nat} (hok : Ok w ρ hs) (hk : hs[k]? = some (Arr v en.n cs)) (hr : rdL en ρ xs cs) (hn : 0 < en.n)
    (ht : P.underlying t = some (.slice e)) (hx : ev E x = some v) :
    Qv P E ⟨d, .call { callee := .builtin .len, args := #[x], argTypes := #[t] }, ty, pos, af, g⟩ (.int .i64 xs.length) w := by
  obtain ⟨o, c, rfl⟩ := arr_len hn (hok.get hk) hr
  exact Q_lenS ht hx
theorem Q_fld {s : TypeId} {x : Operand} {f : Nat} {fs : Array Field} {fd : Field} {b o n' by_ : Nat} {z : Value} {ag : Bool} (hs : P.underlying s = some (.struct fs)) (hf' : fs[f]? = some fd) (hty : Ty P fd.type n' by_ z ag) (hn : n' ≠ 0) {ad : Addr}
    (hx : ev E x = some (.pointer (some ⟨b, o, none⟩))) (had : (⟨b, o, none⟩ : Addr).add fd.offset = ad) : Qv P E ⟨d, .fieldAddr s x f, ty, pos, af, g⟩ (.pointer (some ad)) w := fun n a hf => by
  subst had
  simp [execOp, hf.eval hx, Instr.fieldAt, run_underlying hs, hf', Instr.sureAddr, fieldPlace, hty.sizeOf, hn]
theorem Addr.add_none (b o k : Nat) : (⟨b, o, none⟩ : Addr).add k = ⟨b, o + k, none⟩ := by
  unfold Addr.add; split <;> simp_all
theorem Q_idx {t e : TypeId} {x i : Operand} {v : Value} {m : Int} {b o n' by_ : Nat} {z : Value} {ag : Bool} (hi : IdxOk v m n' b o) (ht : P.underlying t = some (.slice e)) (hty : Ty P e n' by_ z ag)
    (hx : ev E x = some v) {k : IntKind} (hi' : ev E i = some (.int k m)) : Qv P E ⟨d, .indexAddr t x i, ty, pos, af, g⟩ (.pointer (some ⟨b, o, none⟩)) w := fun n a hf => by
  obtain ⟨a0, len, cap, rfl, h0, hlt, rfl⟩ := hi
  simp [execOp, hf.eval hx, hf.eval hi', Instr.indexAt, asIntOf, run_underlying ht, h0, hlt, hty.sizeOf, Addr.add_none]
theorem Q_idxA {t e : TypeId} {x i : Operand} {m : Int} {N b o n' by_ : Nat} {z : Value} {ag : Bool} (h0 : 0 ≤ m) (hN : m < N) (ht : P.underlying t = some (.array N e)) (hty : Ty P e n' by_ z ag)
    (hx : ev E x = some (.pointer (some ⟨b, o, none⟩))) {k : IntKind} (hi' : ev E i = some (.int k m)) : Qv P E ⟨d, .indexAddr t x i, ty, pos, af, g⟩ (.pointer (some ⟨b, o + m.toNat * n', none⟩)) w := fun n a hf => by
  simp [execOp, hf.eval hx, hf.eval hi', Instr.indexAt, asIntOf, run_underlying ht, Instr.sureAddr, h0, hN, hty.sizeOf, Addr.add_none]

def mkv : Bool → List Value → Value
  | true, cs => .agg cs.toArray
  | false, [c] => c
  | false, cs => .tuple cs.toArray
theorem run_ldv {T : TypeId} {n by_ b o : Nat} {z : Value} {ag : Bool} {cs : List Value} (hty : Ty P T n by_ z ag) (hl : cs.length = n) (h1 : ag = false → n = 1) (hat : cellsAt (hv w) b o cs) :
    (loadVar T ⟨b, o, none⟩).run P w = .ok (mkv ag cs) w := by
  unfold loadVar
  rw [Sem.run_bind, hty.isAgg]
  simp only [Result.andThen_ok]
  cases ag with
  | true =>
    simp only [if_true, Sem.run_bind, hty.sizeOf, Result.andThen_ok]
    rw [← hl, run_loadCells_list w ⟨b, o, none⟩ cs (fun j v hj => by rw [Addr.add_none, hv_cell]; exact hat j v hj)]
    simp [mkv]
  | false =>
    have hn := h1 rfl
    subst hl
    match cs, hn with
    | [c], _ =>
      have hc := hat 0 c (by simp)
      rw [Nat.add_zero, ← hv_cell] at hc
      simp [mkv, load, Sem.run, hc]
theorem Q_ld {T : TypeId} {x : Operand} {n' by_ b o : Nat} {z v : Value} {ag : Bool} {cs : List Value} (hat : cellsAt (hv w) b o cs) (hty : Ty P T n' by_ z ag) (hl : cs.length = n') (h1 : ag = false → n' = 1)
    (hx : ev E x = some (.pointer (some ⟨b, o, none⟩))) (hm : mkv ag cs = v) : Qv P E ⟨d, .load T x, ty, pos, af, g⟩ v w := fun n a hf => by
  subst hm
  simp [execOp, hf.eval hx, Instr.loadAt, Instr.sureAddr, run_ldv hty hl h1 hat]
theorem box_at {b : Nat} {vs : List Value} {h : View} (hp : (Box b vs).P h) (o m : Nat) : cellsAt h b o ((vs.drop o).take m) := by
  obtain ⟨T, hp⟩ := hp
  intro j u hj
  rw [List.getElem?_take] at hj
  split at hj
  · rw [List.getElem?_drop] at hj
    simp [View.cell, hp, hj]
  · cases hj
/-- a load out of a box -/
theorem Q_ldB {T : TypeId} {x : Operand} {n' by_ b o k : Nat} {z v : Value} {ag : Bool} {vs cs : List Value} (hok : Ok w ρ hs) (hk : hs[k]? = some (Box b vs)) (hty : Ty P T n' by_ z ag)
    (hx : ev E x = some (.pointer (some ⟨b, o, none⟩))) (hcs : (vs.drop o).take n' = cs) (hl : cs.length = n') (h1 : ag = false → n' = 1) (hm : mkv ag cs = v) : Qv P E ⟨d, .load T x, ty, pos, af, g⟩ v w :=
  Q_ld (hcs ▸ box_at (hok.get hk) o n') hty hl h1 hx hm
/-- the element of an owned slice -/
theorem arr_at {α : Type} {en : Enc α} {xs : List α} {x : α} {v : Value} {cs : List Value} {i : Int} {k : Nat} (hn : 0 < en.n) (hok : Ok w ρ hs) (hk : hs[k]? = some (Arr v en.n cs)) (hr : rdL en ρ xs cs) (hx : idx xs i = some x) :
    ∃ b o, IdxOk v i en.n b o ∧ en.rd ρ x ((cs.drop (i.toNat * en.n)).take en.n) ∧ ∀ w', Ok w' ρ hs → cellsAt (hv w') b o ((cs.drop (i.toNat * en.n)).take en.n) := by
  obtain ⟨h0, hlt, hx⟩ := idx_some hx
  have hg := hr.get hx
  rcases hok.get hk with ⟨rfl, rfl⟩ | ⟨b, o, len, cap, cur, T, rfl, h1, h2, h3, h4, h5⟩
  · have := rdL.nil_of hn hr
    subst this; simp at hlt
  · have hlen := hr.len
    rw [h1] at hlen
    refine ⟨b, o + i.toNat * en.n, ⟨o, len, cap, rfl, h0, ?_, rfl⟩, hg, fun w' hok' => ?_⟩
    · have := Nat.eq_of_mul_eq_mul_right hn hlen; omega
    · rcases hok'.get hk with ⟨h6, _⟩ | ⟨b', o', len', cap', cur', T', h6, h7, h8, h9, h10, h11⟩
      · cases h6
      · injection h6 with h6 h12 h13
        injection h6 with h6
        injection h6 with h6 h14
        subst h6 h12 h13 h14
        have : cellsAt (hv w') b o cs := fun j u hj => by
          rw [← h11, List.getElem?_take] at hj
          split at hj
          · rw [List.getElem?_drop] at hj
            simp [View.cell, h10]
            simpa using hj
          · cases hj
        exact this.part _ _
end
end Go.Eng
