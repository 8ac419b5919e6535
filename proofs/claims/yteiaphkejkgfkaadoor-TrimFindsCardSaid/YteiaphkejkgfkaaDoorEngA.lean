/-
  MY ENGINE, part A: frames as lists of live slots; walks of lists of operations, of regions that draw their order, and of code, from such frames.
-/
import Derived.WalkKit
import Derived.OrdersHeld
namespace Go.Eng
open Go

abbrev Env := List (Nat × Value)
def look : Env → Nat → Option Value
  | [], _ => none
  | (j, v) :: r, k => bif Nat.beq j k then some v else look r k
def ev (E : Env) : Operand → Option Value
  | .tmp t => look E t
  | .const v => some v
  | .global g => some (.pointer (some ⟨g, 0, none⟩))
  | .func f => some (.func (.func f) #[] #[])
def evs (E : Env) : List Operand → Option (List Value)
  | [] => some []
  | x :: r => match ev E x, evs E r with
    | some v, some vs => some (v :: vs)
    | _, _ => none

/-- The frame a has n slots, no deferred calls, and the slots of E hold what E says. -/
structure Fr (n : Nat) (a : Act) (E : Env) : Prop where
  size : a.tmps.size = n
  defers : a.defers = []
  slots : ∀ k v, look E k = some v → a.tmps.getD k undef = v

theorem look_cons {j k : Nat} {v : Value} {E : Env} : look ((j, v) :: E) k = if j = k then some v else look E k := by
  simp only [look]
  by_cases h : j = k
  · subst h; simp
  · have : Nat.beq j k = false := by
      cases hb : Nat.beq j k with
      | false => rfl
      | true => exact absurd (Nat.eq_of_beq_eq_true hb) h
    simp [this, h]

theorem Fr.eval {n : Nat} {a : Act} {E : Env} (h : Fr n a E) {x : Operand} {v : Value} (hx : ev E x = some v) : a.eval x = v := by
  cases x with
  | tmp t => exact h.slots t v hx
  | const c => exact Option.some.inj hx
  | global g => exact Option.some.inj hx
  | func f => exact Option.some.inj hx

theorem Fr.evals {n : Nat} {a : Act} {E : Env} (h : Fr n a E) : ∀ {l : List Operand} {vs : List Value}, evs E l = some vs → l.map a.eval = vs
  | [], vs, hx => by simpa [evs] using hx
  | x :: r, vs, hx => by
    simp only [evs] at hx
    cases hv : ev E x with
    | none => simp [hv] at hx
    | some v =>
      cases hr : evs E r with
      | none => simp [hv, hr] at hx
      | some us =>
        simp [hv, hr] at hx
        subst hx
        simp [h.eval hv, h.evals hr]

theorem Fr.put {n : Nat} {a : Act} {E : Env} (h : Fr n a E) {d : Nat} (hd : d < n) (v : Value) : Fr n (a.put (some d) v) ((d, v) :: E) where
  size := by simp [Act.put, h.size]
  defers := h.defers
  slots := by
    intro k u hk
    rw [look_cons] at hk
    simp only [Act.put]
    by_cases e : d = k
    · subst e
      simp at hk
      subst hk
      have : d < a.tmps.size := by rw [h.size]; exact hd
      simp [this]
    · rw [if_neg e] at hk
      have h1 := h.slots k u hk
      simp only [Array.getD_eq_getD_getElem?] at h1 ⊢
      rw [Array.getElem?_setIfInBounds_ne e]
      exact h1

theorem Fr.put_none {n : Nat} {a : Act} {E : Env} (h : Fr n a E) (v : Value) : Fr n (a.put none v) E := h

/-- E' is a part of E. -/
def subE : Env → Env → Prop
  | [], _ => True
  | (k, v) :: r, E => look E k = some v ∧ subE r E
theorem subE.look : ∀ {E' E : Env}, subE E' E → ∀ k v, look E' k = some v → look E k = some v
  | [], _, _, _, _, h => by simp [Eng.look] at h
  | (j, u) :: r, E, hs, k, v, h => by
    rw [look_cons] at h
    by_cases e : j = k
    · subst e; simp at h; subst h; exact hs.1
    · rw [if_neg e] at h; exact subE.look hs.2 k v h
theorem Fr.sub {n : Nat} {a : Act} {E E' : Env} (h : Fr n a E) (hs : subE E' E) : Fr n a E' :=
  ⟨h.size, h.defers, fun k v hk => h.slots k v (hs.look k v hk)⟩

section
variable {P : Program} {ops : Array Oper} {Q : Exit → Act → World → Prop} {n : Nat} {E : Env} {w : World}

/-- A walk of a list of operations, in the text's order. -/
def WL (P : Program) (ops : Array Oper) (Q : Exit → Act → World → Prop) (l : List Oper) (n : Nat) (E : Env) (w : World) : Prop :=
  ∀ a, Fr n a E → wpList P ops Q l a w
/-- Code, from a frame. -/
def CW (P : Program) (c : Code) (Q : Exit → Act → World → Prop) (n : Nat) (E : Env) (w : World) : Prop :=
  ∀ a, Fr n a E → c.wp P Q a w
/-- An exit, in a frame. -/
def XX (Q : Exit → Act → World → Prop) (e : Exit) (n : Nat) (E : Env) (w : World) : Prop :=
  ∀ a, Fr n a E → Q e a w

/-- o yields v in w and leaves w alone. -/
def Qv (P : Program) (E : Env) (o : Oper) (v : Value) (w : World) : Prop :=
  ∀ n a, Fr n a E → (execOp a.eval o).run P w = .ok (.value v) w
/-- o does something: it yields some v in some w' of which 'post' is known. -/
def Eff (P : Program) (E : Env) (o : Oper) (w : World) (post : Value → World → Prop) : Prop :=
  ∀ n a, Fr n a E → ∀ (K : Act → World → Prop) (Q : Exit → Act → World → Prop), (∀ v w', post v w' → K (a.put o.dst v) w') → o.wp P a w K Q

/-- What the frame is behind an operation. -/
def putE (E : Env) : Option Nat → Value → Env
  | some d, v => (d, v) :: E
  | none, _ => E
def inN (n : Nat) : Option Nat → Bool
  | some d => Nat.blt d n
  | none => true
theorem Fr.putE {a : Act} (h : Fr n a E) {d : Option Nat} (hd : inN n d = true) (v : Value) : Fr n (a.put d v) (putE E d v) := by
  cases d with
  | none => exact h
  | some d => exact h.put (by simpa [inN] using hd) v

theorem WL_nil (h : XX Q .normal n E w) : WL P ops Q [] n E w := h
/-- a quiet operation -/
theorem nq {o : Oper} {rest : List Oper} {v : Value} (hq : Qv P E o v w) (hg : o.guard = none) (hd : inN n o.dst = true) (h : WL P ops Q rest n (putE E o.dst v) w) : WL P ops Q (o :: rest) n E w :=
  fun a hf => wpList_plain hg fun K hK => by
    unfold Oper.wp
    rw [hq n a hf]
    exact hK _ _ (h _ (hf.putE hd v))
/-- an operation that does something -/
theorem ne {o : Oper} {rest : List Oper} {post : Value → World → Prop} (he : Eff P E o w post) (hg : o.guard = none) (hd : inN n o.dst = true)
    (h : ∀ v w', post v w' → WL P ops Q rest n (putE E o.dst v) w') : WL P ops Q (o :: rest) n E w :=
  fun a hf => wpList_plain hg fun K hK => he n a hf K Q fun v w' hp => hK _ _ (h v w' hp _ (hf.putE hd v))

/-- What the operation j of the region has yielded, off the frame. -/
def gd (ops : Array Oper) (E : Env) (j : Nat) : Option Bool :=
  match (ops[j]?).bind (·.dst) with
  | some d => match look E d with
    | some (.bool b) => some b
    | _ => none
  | none => none
theorem gd_yielded {a : Act} (hf : Fr n a E) {j : Nat} {b : Bool} (h : gd ops E j = some b) : yielded ops a.tmps j = some b := by
  unfold gd at h
  unfold yielded
  cases hd : (ops[j]?).bind (·.dst) with
  | none => simp [hd] at h
  | some d =>
    simp only [hd] at h
    cases hl : look E d with
    | none => simp [hl] at h
    | some v =>
      have := hf.slots d v hl
      cases v <;> simp [hl] at h
      subst h
      simp only [Array.getD_eq_getD_getElem?] at this
      cases ho : ops[j]? with
      | none => simp [ho] at hd
      | some o =>
        simp [ho] at hd
        simp only [Option.bind_some]
        cases ht : a.tmps[d]? with
        | none => simp [ht] at this; simp [undef] at this
        | some u => simp [ht] at this; subst this; rfl
/-- a guarded quiet operation, its guard met -/
theorem gq {o : Oper} {rest : List Oper} {v : Value} {j : Nat} {b : Bool} (hq : Qv P E o v w) (hg : o.guard = some (j, b)) (hj : gd ops E j = some b) (hd : inN n o.dst = true) (h : WL P ops Q rest n (putE E o.dst v) w) : WL P ops Q (o :: rest) n E w :=
  fun a hf => wpList_step fun K hK => by
    have hw : Region.wanted o (yielded ops a.tmps) = true := by simp [Region.wanted, hg, gd_yielded hf hj]
    rw [if_pos hw]
    unfold Oper.wp
    rw [hq n a hf]
    exact hK _ _ (h _ (hf.putE hd v))
theorem ge {o : Oper} {rest : List Oper} {post : Value → World → Prop} {j : Nat} {b : Bool} (he : Eff P E o w post) (hg : o.guard = some (j, b)) (hj : gd ops E j = some b) (hd : inN n o.dst = true)
    (h : ∀ v w', post v w' → WL P ops Q rest n (putE E o.dst v) w') : WL P ops Q (o :: rest) n E w :=
  fun a hf => wpList_step fun K hK => by
    have hw : Region.wanted o (yielded ops a.tmps) = true := by simp [Region.wanted, hg, gd_yielded hf hj]
    rw [if_pos hw]
    exact he n a hf K Q fun v w' hp => hK _ _ (h v w' hp _ (hf.putE hd v))
/-- a guarded operation, its guard not met -/
theorem gs {o : Oper} {rest : List Oper} {j : Nat} {b c : Bool} (hg : o.guard = some (j, b)) (hj : gd ops E j = some c) (hbc : (b != c) = true) (hd : inN n o.dst = true) (h : WL P ops Q rest n (putE E o.dst undef) w) : WL P ops Q (o :: rest) n E w :=
  fun a hf => wpList_step fun K hK => by
    have hw : Region.wanted o (yielded ops a.tmps) = false := by
      simp [Region.wanted, hg, gd_yielded hf hj]; intro e; subst e; simp at hbc
    rw [if_neg (by simp [hw])]
    exact hK _ _ (h _ (hf.putE hd _))

/-! ### Regions -/
theorem R_nd {id : Nat} {l : List Oper} (h : WL P l.toArray Q l n E w) : CW P (.region id l.toArray false) Q n E w :=
  fun a hf => wp_region_lit (h a hf)

/-- Which operations change the world. -/
def effB (o : Oper) : Bool :=
  match o.op with
  | .move _ | .assign _ | .pick .. | .build .. | .load .. | .nilCheck _ | .binOp .. | .unOp .. | .makeInterface .. | .makeFunc .. | .slice .. | .fieldAddr .. | .field .. | .indexAddr .. | .index .. | .lookup .. | .extract .. | .sliceToArrayPointer .. => false
  | .convert .. => !(o.guard.isNone && o.type == o.type && o.dst.isNone)
  | .call c => match c.callee with
    | .builtin b => !(b matches .len | .cap | .min | .max)
    | _ => true
  | _ => true
inductive Ord where
  | done
  | take (i : Nat) (r : Ord)
  | one (i : Nat) (r : Ord)
  | two (i j : Nat) (r s : Ord)
  | three (i j k : Nat) (r s t : Ord)
def Ord.ok (ops : Array Oper) : Ord → Nat → Array Bool → Bool
  | .done, f, L => (Region.ready .any ops L).isEmpty && f == 0
  | .take i r, f + 1, L => (Region.ready .any ops L).contains i && Region.free .any ops L i && r.ok ops f (L.setIfInBounds i true)
  | .one i r, f + 1, L => Region.ready .any ops L == [i] && r.ok ops f (L.setIfInBounds i true)
  | .two i j r s, f + 1, L => Region.ready .any ops L == [i, j] && r.ok ops f (L.setIfInBounds i true) && s.ok ops f (L.setIfInBounds j true)
  | .three i j k r s t, f + 1, L => Region.ready .any ops L == [i, j, k] && r.ok ops f (L.setIfInBounds i true) && s.ok ops f (L.setIfInBounds j true) && t.ok ops f (L.setIfInBounds k true)
  | _, 0, _ => false
def dOp (P : Program) (ops : Array Oper) (S : World → Prop) (Q : Exit → Act → World → Prop) (i : Nat) (K : Act → World → Prop) (a : Act) (w : World) : Prop :=
  ∃ o, ops[i]? = some o ∧ if Region.wanted o (yielded ops a.tmps) then o.wp P a w (fun a' w' => S w' ∧ K a' w') Q else K (a.put o.dst undef) w
def tOp (P : Program) (ops : Array Oper) (S : World → Prop) (i : Nat) (K : Act → World → Prop) (a : Act) (w : World) : Prop :=
  ∃ o, ops[i]? = some o ∧ if Region.wanted o (yielded ops a.tmps) then ∃ v, (∀ w', S w' → (execOp a.eval o).run P w' = .ok (.value v) w') ∧ K (a.put o.dst v) w else K (a.put o.dst undef) w
def DLa (P : Program) (ops : Array Oper) (S : World → Prop) (Q : Exit → Act → World → Prop) : Ord → Act → World → Prop
  | .done, a, w => Q .normal a w
  | .take i r, a, w => tOp P ops S i (DLa P ops S Q r) a w
  | .one i r, a, w => dOp P ops S Q i (DLa P ops S Q r) a w
  | .two i j r s, a, w => dOp P ops S Q i (DLa P ops S Q r) a w ∧ dOp P ops S Q j (DLa P ops S Q s) a w
  | .three i j k r s t, a, w => dOp P ops S Q i (DLa P ops S Q r) a w ∧ dOp P ops S Q j (DLa P ops S Q s) a w ∧ dOp P ops S Q k (DLa P ops S Q t) a w

theorem dOp_wpOp {S : World → Prop} {i : Nat} {K K' : Act → World → Prop} {a : Act} {w : World} (hS : S w) (hk : ∀ a w, S w → K a w → K' a w) (h : dOp P ops S Q i K a w) :
    wpOp P ops Q i (fun a' w' => S w' ∧ K' a' w') a w := by
  obtain ⟨o, ho, h⟩ := h
  unfold wpOp
  simp only [ho]
  split
  · rename_i hw; simp only [hw, if_true] at h; exact .inl (Oper.wp_mono (fun a' w' hh => ⟨hh.1, hk _ _ hh.1 hh.2⟩) h)
  · rename_i hw; simp only [hw] at h; exact ⟨hS, hk _ _ hS h⟩

theorem Ord.sound (hs : Region.noSelect ops = true) {S : World → Prop} (hQ : ∀ c a a' w, Q (.panic c) a w → Q (.panic c) a' w) :
    ∀ (r : Ord) (f : Nat) (L : Array Bool) (a : Act) (w : World), r.ok ops f L = true → S w → DLa P ops S Q r a w → wpAnyH P .any ops Q S f L a w
  | .done, f, L, a, w, ho, _, h => by
    simp only [Ord.ok, Bool.and_eq_true, List.isEmpty_iff] at ho
    exact wpAnyH_done ho.1 h f
  | .take i r, 0, L, a, w, ho, _, _ => by simp [Ord.ok] at ho
  | .take i r, f + 1, L, a, w, ho, hS, h => by
    simp only [Ord.ok, Bool.and_eq_true] at ho
    obtain ⟨o, hi, h⟩ := h
    by_cases hw : Region.wanted o (yielded ops a.tmps) = true
    · simp only [hw, if_true] at h
      obtain ⟨v, hv, hK⟩ := h
      exact wpAnyH_take hi hs ho.1.2 ho.1.1 (fun c a' w' hq => hQ _ _ _ _ hq) (.inl ⟨hw, hv⟩) hS (Ord.sound hs hQ r f _ _ w ho.2 hS hK)
    · simp only [hw] at h
      exact wpAnyH_take hi hs ho.1.2 ho.1.1 (fun c a' w' hq => hQ _ _ _ _ hq) (.inr ⟨by simpa using hw, rfl⟩) hS (Ord.sound hs hQ r f _ _ w ho.2 hS h)
  | .one i r, 0, L, a, w, ho, _, _ => by simp [Ord.ok] at ho
  | .one i r, f + 1, L, a, w, ho, hS, h => by
    simp only [Ord.ok, Bool.and_eq_true, beq_iff_eq] at ho
    refine wpAnyH_all ho.1 (by simp) fun j hj => ?_
    obtain rfl : j = i := by simpa using hj
    exact dOp_wpOp hS (fun a' w' hS' hh => Ord.sound hs hQ r f _ a' w' ho.2 hS' hh) h
  | .two i k r s, 0, L, a, w, ho, _, _ => by simp [Ord.ok] at ho
  | .two i k r s, f + 1, L, a, w, ho, hS, h => by
    simp only [Ord.ok, Bool.and_eq_true, beq_iff_eq] at ho
    refine wpAnyH_all ho.1.1 (by simp) fun j hj => ?_
    rcases (by simpa using hj : j = i ∨ j = k) with rfl | rfl
    · exact dOp_wpOp hS (fun a' w' hS' hh => Ord.sound hs hQ r f _ a' w' ho.1.2 hS' hh) h.1
    · exact dOp_wpOp hS (fun a' w' hS' hh => Ord.sound hs hQ s f _ a' w' ho.2 hS' hh) h.2
  | .three i k l r s t, 0, L, a, w, ho, _, _ => by simp [Ord.ok] at ho
  | .three i k l r s t, f + 1, L, a, w, ho, hS, h => by
    simp only [Ord.ok, Bool.and_eq_true, beq_iff_eq] at ho
    refine wpAnyH_all ho.1.1.1 (by simp) fun j hj => ?_
    rcases (by simpa using hj : j = i ∨ j = k ∨ j = l) with rfl | rfl | rfl
    · exact dOp_wpOp hS (fun a' w' hS' hh => Ord.sound hs hQ r f _ a' w' ho.1.1.2 hS' hh) h.1
    · exact dOp_wpOp hS (fun a' w' hS' hh => Ord.sound hs hQ s f _ a' w' ho.1.2 hS' hh) h.2.1
    · exact dOp_wpOp hS (fun a' w' hS' hh => Ord.sound hs hQ t f _ a' w' ho.2 hS' hh) h.2.2

/-- The posts of regions here never speak of a panic. -/
def noP (Q : Exit → Act → World → Prop) : Exit → Act → World → Prop
  | .normal, a, w => Q .normal a w
  | _, _, _ => False
theorem noP_mono : ∀ (e : Exit) (a : Act) (w : World), noP Q e a w → Q e a w := fun e a w h => by cases e <;> first | exact h | exact h.elim
def DL (P : Program) (ops : Array Oper) (S : World → Prop) (Q : Exit → Act → World → Prop) (r : Ord) (n : Nat) (E : Env) (w : World) : Prop :=
  ∀ a, Fr n a E → DLa P ops S (noP Q) r a w
theorem R_dr {id : Nat} {l : List Oper} (r : Ord) (S : World → Prop) (hm : P.follows .mixedOrders = true) (hs : Region.noSelect l.toArray = true)
    (ho : r.ok l.toArray l.toArray.size (Array.replicate l.toArray.size false) = true) (hS : S w.drew) (h : DL P l.toArray S Q r n E w.drew) : CW P (.region id l.toArray true) Q n E w :=
  fun a hf => wp_mono (wp_region_held (Q := noP Q) hm (Ord.sound (S := S) hs (fun _ _ _ _ hq => hq.elim) r _ _ _ _ ho hS (h a hf))) (fun e a w q => noP_mono e a w q)

variable {S : World → Prop}
theorem DL_nil (h : XX Q .normal n E w) : DL P ops S Q .done n E w := h
/-- in a region that draws: a quiet operation -/
theorem dq {i : Nat} {r : Ord} {o : Oper} {v : Value} (hi : ops[i]? = some o) (hq : ∀ w', S w' → Qv P E o v w') (hg : o.guard = none) (hd : inN n o.dst = true) (h : DL P ops S Q r n (putE E o.dst v) w) : DL P ops S Q (.take i r) n E w :=
  fun a hf => ⟨o, hi, by
    rw [if_pos (by simp [Region.wanted, hg])]
    exact ⟨v, fun w' hw' => hq w' hw' n a hf, h _ (hf.putE hd v)⟩⟩
theorem dgq {i : Nat} {r : Ord} {o : Oper} {v : Value} {j : Nat} {b : Bool} (hi : ops[i]? = some o) (hq : ∀ w', S w' → Qv P E o v w') (hg : o.guard = some (j, b)) (hj : gd ops E j = some b) (hd : inN n o.dst = true) (h : DL P ops S Q r n (putE E o.dst v) w) : DL P ops S Q (.take i r) n E w :=
  fun a hf => ⟨o, hi, by
    rw [if_pos (by simp [Region.wanted, hg, gd_yielded hf hj])]
    exact ⟨v, fun w' hw' => hq w' hw' n a hf, h _ (hf.putE hd v)⟩⟩
theorem dgs {i : Nat} {r : Ord} {o : Oper} {j : Nat} {b c : Bool} (hi : ops[i]? = some o) (hg : o.guard = some (j, b)) (hj : gd ops E j = some c) (hbc : (b != c) = true) (hd : inN n o.dst = true) (h : DL P ops S Q r n (putE E o.dst undef) w) : DL P ops S Q (.take i r) n E w :=
  fun a hf => ⟨o, hi, by
    rw [if_neg (by simp [Region.wanted, hg, gd_yielded hf hj]; intro e; subst e; simp at hbc)]
    exact h _ (hf.putE hd _)⟩
/-- an operation that does something, the i-th, in whatever place of the order -/
def DO (P : Program) (ops : Array Oper) (S : World → Prop) (Q : Exit → Act → World → Prop) (i : Nat) (r : Ord) (n : Nat) (E : Env) (w : World) : Prop :=
  ∀ a, Fr n a E → dOp P ops S (noP Q) i (DLa P ops S (noP Q) r) a w
theorem de {i : Nat} {r : Ord} {o : Oper} {post : Value → World → Prop} (hi : ops[i]? = some o) (he : Eff P E o w post) (hg : o.guard = none) (hd : inN n o.dst = true)
    (h : ∀ v w', post v w' → S w' ∧ DL P ops S Q r n (putE E o.dst v) w') : DO P ops S Q i r n E w :=
  fun a hf => ⟨o, hi, by
    rw [if_pos (by simp [Region.wanted, hg])]
    exact he n a hf _ _ fun v w' hp => ⟨(h v w' hp).1, (h v w' hp).2 _ (hf.putE hd v)⟩⟩
theorem dge {i : Nat} {r : Ord} {o : Oper} {post : Value → World → Prop} {j : Nat} {b : Bool} (hi : ops[i]? = some o) (he : Eff P E o w post) (hg : o.guard = some (j, b)) (hj : gd ops E j = some b) (hd : inN n o.dst = true)
    (h : ∀ v w', post v w' → S w' ∧ DL P ops S Q r n (putE E o.dst v) w') : DO P ops S Q i r n E w :=
  fun a hf => ⟨o, hi, by
    rw [if_pos (by simp [Region.wanted, hg, gd_yielded hf hj])]
    exact he n a hf _ _ fun v w' hp => ⟨(h v w' hp).1, (h v w' hp).2 _ (hf.putE hd v)⟩⟩
theorem dges {i : Nat} {r : Ord} {o : Oper} {j : Nat} {b c : Bool} (hi : ops[i]? = some o) (hg : o.guard = some (j, b)) (hj : gd ops E j = some c) (hbc : (b != c) = true) (hd : inN n o.dst = true) (h : DL P ops S Q r n (putE E o.dst undef) w) : DO P ops S Q i r n E w :=
  fun a hf => ⟨o, hi, by
    rw [if_neg (by simp [Region.wanted, hg, gd_yielded hf hj]; intro e; subst e; simp at hbc)]
    exact h _ (hf.putE hd _)⟩
theorem d1 {i : Nat} {r : Ord} (h : DO P ops S Q i r n E w) : DL P ops S Q (.one i r) n E w := h
theorem d2 {i j : Nat} {r s : Ord} (h1 : DO P ops S Q i r n E w) (h2 : DO P ops S Q j s n E w) : DL P ops S Q (.two i j r s) n E w := fun a hf => ⟨h1 a hf, h2 a hf⟩
theorem d3 {i j k : Nat} {r s t : Ord} (h1 : DO P ops S Q i r n E w) (h2 : DO P ops S Q j s n E w) (h3 : DO P ops S Q k t n E w) : DL P ops S Q (.three i j k r s t) n E w := fun a hf => ⟨h1 a hf, h2 a hf, h3 a hf⟩

/-! ### Code -/
theorem CW.sub {c : Code} {E' : Env} (hs : subE E' E) (h : CW P c Q n E' w) : CW P c Q n E w := fun a hf => h a (hf.sub hs)
theorem CW.at {c : Code} {a : Act} (hf : Fr n a E) (h : CW P c Q n E w) : c.wp P Q a w := h a hf
theorem C_seq {x y : Code} (h : CW P x (Exit.then (y.wp P Q) Q) n E w) : CW P (.seq x y) Q n E w := fun a hf => wp_seq (h a hf)
theorem C_skip (h : XX Q .normal n E w) : CW P .skip Q n E w := fun a hf => wp_skip (h a hf)
theorem C_ret (h : XX Q .ret n E w) : CW P .ret Q n E w := fun a hf => wp_ret (h a hf)
theorem C_exit {id : Nat} (h : XX Q (.exit id) n E w) : CW P (.exit id) Q n E w := fun a hf => wp_exit (h a hf)
theorem C_block {id : Nat} {c : Code} (h : CW P c (Exit.inBlock id Q) n E w) : CW P (.block id c) Q n E w := fun a hf => wp_block (h a hf)
theorem C_cond {c : Operand} {x y : Code} {b : Bool} (hc : ev E c = some (.bool b)) (ht : b = true → CW P x Q n E w) (hf : b = false → CW P y Q n E w) : CW P (.cond c x y) Q n E w :=
  fun a ha => wp_cond_split (ha.eval hc) (fun h => ht h a ha) (fun h => hf h a ha)
/-- cut behind x: what is known there is A -/
theorem C_cut {x y : Code} (A : Act → World → Prop) (hx : CW P x (Exit.then A Q) n E w) (hy : ∀ a w', A a w' → y.wp P Q a w') : CW P (.seq x y) Q n E w :=
  fun a hf => wp_seq (wp_mono (hx a hf) fun e a w q => by cases e <;> first | exact hy _ _ q | exact q)
theorem wp_loop_n {c : Code} (I : Nat → Act → World → Prop) (h0 : ∀ a w, ¬ I 0 a w) (round : ∀ m a w, I (m + 1) a w → c.wp P (Exit.then (I m) Q) a w) : ∀ m a w, I m a w → (Code.loop c).wp P Q a w := by
  have key : ∀ m a w, I m a w → ∀ (b : Frame) (k : List Item) (cs : List Frame),
      ∃ e a' w', Q e a' w' ∧ Arrives P (lone (b.at a (.code c :: .inLoop c :: k)) cs w) b k cs e a' w' := by
    intro m
    induction m with
    | zero => intro a w h; exact absurd h (h0 a w)
    | succ m ih =>
      intro a w hI b k cs
      obtain ⟨e, a₁, w₁, hq, harr⟩ := round m a w hI b (.inLoop c :: k) cs
      cases e with
      | normal =>
        obtain ⟨e₂, a₂, w₂, hq₂, harr₂⟩ := ih a₁ w₁ hq b k cs
        exact ⟨e₂, a₂, w₂, hq₂, .of_steps (Steps.trans harr (.one step_inLoop)) harr₂⟩
      | exit id => exact ⟨_, a₁, w₁, hq, .pass (x := .inLoop c) rfl (fun _ _ => .inl (by simp)) harr⟩
      | goto l => exact ⟨_, a₁, w₁, hq, .pass (x := .inLoop c) rfl (fun _ _ => .inl (by simp)) harr⟩
      | ret => exact ⟨_, a₁, w₁, hq, .pass (x := .inLoop c) rfl (fun _ _ => .inl (by simp)) harr⟩
      | panic ch => exact ⟨_, a₁, w₁, hq, .pass (x := .inLoop c) rfl (fun _ _ => .inl (by simp)) harr⟩
      | outgrown => exact ⟨_, a₁, w₁, hq, .pass (x := .inLoop c) rfl (fun _ _ => .inl (by simp)) harr⟩
  intro m a w h b k cs
  obtain ⟨e, a', w', hq, harr⟩ := key m a w h b k cs
  exact ⟨e, a', w', hq, .of_steps (.one step_loop) harr⟩
/-- a loop whose rounds are counted down -/
theorem C_loop {c : Code} (m : Nat) (I : Nat → Act → World → Prop) (h0 : ∀ a w, ¬ I 0 a w) (hI : ∀ a, Fr n a E → I m a w)
    (round : ∀ m a w, I (m + 1) a w → c.wp P (Exit.then (I m) Q) a w) : CW P (.loop c) Q n E w :=
  fun a hf => wp_loop_n I h0 round m a w (hI a hf)

/-! ### Exits -/
theorem x_then {y : Code} (h : CW P y Q n E w) : XX (Exit.then (y.wp P Q) Q) .normal n E w := h
theorem x_A {A : Act → World → Prop} (h : ∀ a, Fr n a E → A a w) : XX (Exit.then A Q) .normal n E w := h
theorem x_block {id : Nat} (h : XX Q .normal n E w) : XX (Exit.inBlock id Q) .normal n E w := h
theorem x_then_exit {A : Act → World → Prop} {id : Nat} (h : XX Q (.exit id) n E w) : XX (Exit.then A Q) (.exit id) n E w := h
theorem x_then_ret {A : Act → World → Prop} (h : XX Q .ret n E w) : XX (Exit.then A Q) .ret n E w := h
theorem x_block_ret {id : Nat} (h : XX Q .ret n E w) : XX (Exit.inBlock id Q) .ret n E w := h
theorem x_block_exit {id : Nat} (h : XX Q .normal n E w) : XX (Exit.inBlock id Q) (.exit id) n E w := fun a hf => by simp only [Exit.inBlock, if_true]; exact h a hf
theorem x_block_other {id id' : Nat} (hne : Nat.beq id' id = false) (h : XX Q (.exit id') n E w) : XX (Exit.inBlock id Q) (.exit id') n E w := fun a hf => by
  have : id' ≠ id := fun e => by subst e; simp at hne
  simp only [Exit.inBlock, if_neg this]; exact h a hf

/-! ### A function -/
def Rets (post : Value → World → Prop) (e : Ending) (w' : World) : Prop := ∃ v, e = .returned v ∧ post v w'
def resTmps : List ResultVar → Option (List Operand)
  | [] => some []
  | .tmp t :: r => (resTmps r).map (.tmp t :: ·)
  | _ :: _ => none
def packR : List Value → Value
  | [v] => v
  | vs => .tuple vs.toArray
theorem results_run {fn : Func} {rs : List ResultVar} (hrs : fn.results = rs.toArray) : ∀ {l : List Operand}, resTmps rs = some l → ∀ {a : Act} {vs : List Value}, Fr n a E → evs E l = some vs →
    (results fn a.tmps).run P w = .ok (packR vs) w := by
  intro l hl a vs hf hv
  have key : ∀ (f : ResultVar → Sem Value), (∀ t, f (.tmp t) = pure (a.tmps.getD t undef)) → ∀ (rs : List ResultVar) (l : List Operand) (vs : List Value), resTmps rs = some l → evs E l = some vs →
      ∀ acc : List Value, (rs.foldlM (m := Sem) (fun (acc : Array Value) r => do acc.push <$> f r) acc.toArray).run P w = .ok (acc ++ vs).toArray w := by
    intro f hfr rs
    induction rs with
    | nil => intro l vs h1 h2 acc; simp [resTmps] at h1; subst h1; simp [evs] at h2; subst h2; simp
    | cons r rs ih =>
      intro l vs h1 h2 acc
      cases r with
      | cell => simp [resTmps] at h1
      | tmp t =>
        simp only [resTmps, Option.map_eq_some_iff] at h1
        obtain ⟨l', h1, rfl⟩ := h1
        simp only [evs] at h2
        cases hv : ev E (.tmp t) with
        | none => simp [hv] at h2
        | some v =>
          cases hr : evs E l' with
          | none => simp [hv, hr] at h2
          | some us =>
            simp [hv, hr] at h2
            subst h2
            have h3 := ih l' us h1 hr (acc ++ [v])
            have h4 : a.tmps.getD t undef = v := hf.slots t v hv
            simp only [List.foldlM_cons, hfr, h4]
            simp at h3 ⊢
            exact h3
  have hm : ∀ (f : ResultVar → Sem Value), (∀ t, f (.tmp t) = pure (a.tmps.getD t undef)) → (fn.results.mapM f).run P w = .ok vs.toArray w := by
    intro f hfr
    rw [hrs, Array.mapM_eq_foldlM]
    simpa using key f hfr rs l vs hl hv []
  unfold results
  rw [Sem.run_bind, hm _ (fun _ => rfl)]
  simp only [Result.andThen_ok]
  clear key hm hv hf
  match vs with
  | [] => simp [packR]
  | [v] => simp [packR]
  | v :: u :: r => simp [packR]

theorem fn_ret {fn : Func} {rs : List ResultVar} {l : List Operand} {vs : List Value} {post : Value → World → Prop} (hrs : fn.results = rs.toArray) (hl : resTmps rs = some l) (hv : evs E l = some vs)
    (h : post (packR vs) w) : XX (bodyPost P fn (Rets post)) .ret n E w :=
  fun _ hf => ⟨hf.defers, _, results_run hrs hl hf hv, _, rfl, h⟩
theorem fn_end {fn : Func} {rs : List ResultVar} {l : List Operand} {vs : List Value} {post : Value → World → Prop} (hrs : fn.results = rs.toArray) (hl : resTmps rs = some l) (hv : evs E l = some vs)
    (h : post (packR vs) w) : XX (bodyPost P fn (Rets post)) .normal n E w :=
  fun _ hf => ⟨hf.defers, _, results_run hrs hl hf hv, _, rfl, h⟩

def argE : Nat → List Value → Env
  | _, [] => []
  | k, v :: r => (k, v) :: argE (k + 1) r
theorem look_argE : ∀ (l : List Value) (k j : Nat) (v : Value), look (argE k l) j = some v → k ≤ j ∧ l[j - k]? = some v
  | [], _, _, _, h => by simp [argE, look] at h
  | u :: l, k, j, v, h => by
    simp only [argE, look_cons] at h
    by_cases e : k = j
    · subst e; simp at h; subst h; simp
    · rw [if_neg e] at h
      have := look_argE l (k + 1) j v h
      refine ⟨by omega, ?_⟩
      have e2 : j - k = (j - (k + 1)) + 1 := by omega
      rw [e2]; simpa using this.2
theorem fn_calls {f : FuncId} {fn : Func} {c : Code} {args : List Value} {R : Ending → World → Prop} (hf : P.funcs[f]? = some fn) (hb : fn.body = some c) (hn : args.length ≤ fn.ntmps)
    (h : CW P c (bodyPost P fn R) fn.ntmps (argE 0 args) w) : Calls P f args.toArray w R := by
  refine calls_of_wp hf hb (h _ ⟨?_, rfl, ?_⟩)
  · simp; omega
  · intro k v hk
    have := look_argE args 0 k v hk
    have h2 : args[k]? = some v := by simpa using this.2
    have hlt : k < args.length := (List.getElem?_eq_some_iff.1 h2).1
    simpa [Array.getElem?_append, hlt] using (List.getElem?_eq_some_iff.1 h2).2
end
end Go.Eng
