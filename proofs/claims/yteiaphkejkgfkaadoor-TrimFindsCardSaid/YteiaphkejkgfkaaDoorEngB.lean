/-
  MY ENGINE, part B: views of memory, readings of data, heaplets; what the operations on integers, boxes, slices and arrays do.
-/
import Derived.Test.YteiaphkejkgfkaaDoorEngA
namespace Go.Eng
open Go

/-! ### Views -/
abbrev View := Nat → Option Obj
def View.le (ρ ρ' : View) : Prop := ∀ b o, ρ b = some o → ρ' b = some o
theorem View.le_refl (ρ : View) : View.le ρ ρ := fun _ _ h => h
theorem View.le_trans {a b c : View} (h : View.le a b) (h' : View.le b c) : View.le a c := fun x o hx => h' x o (h x o hx)
def hv (w : World) : View := fun b => w.heap[b]?
def View.cell (ρ : View) (b o : Nat) : Option Value :=
  match ρ b with
  | some (.cells c _ _) => c[o]?
  | _ => none
theorem View.cell_le {ρ ρ' : View} (h : View.le ρ ρ') {b o : Nat} {v : Value} (hc : ρ.cell b o = some v) : ρ'.cell b o = some v := by
  unfold View.cell at *
  cases hb : ρ b with
  | none => simp [hb] at hc
  | some x => rw [h b x hb]; rw [hb] at hc; exact hc
theorem hv_cell (w : World) (b o : Nat) : w.cell? ⟨b, o, none⟩ = (hv w).cell b o := by
  unfold World.cell? View.cell hv
  cases w.heap[b]? with
  | none => rfl
  | some x => cases x <;> rfl
/-- From offset o on, block b holds cs. -/
def cellsAt (ρ : View) (b o : Nat) (cs : List Value) : Prop := ∀ j u, cs[j]? = some u → ρ.cell b (o + j) = some u
theorem cellsAt.up {ρ ρ' : View} (h : View.le ρ ρ') {b o : Nat} {cs : List Value} (hc : cellsAt ρ b o cs) : cellsAt ρ' b o cs := fun j u hj => View.cell_le h (hc j u hj)
theorem cellsAt.left {ρ : View} {b o : Nat} {c1 c2 : List Value} (h : cellsAt ρ b o (c1 ++ c2)) : cellsAt ρ b o c1 := fun j u hj =>
  h j u (by rw [List.getElem?_append_left ((List.getElem?_eq_some_iff.1 hj).1)]; exact hj)
theorem cellsAt.right {ρ : View} {b o : Nat} {c1 c2 : List Value} (h : cellsAt ρ b o (c1 ++ c2)) : cellsAt ρ b (o + c1.length) c2 := fun j u hj => by
  have := h (c1.length + j) u (by rw [List.getElem?_append_right (by omega)]; simpa using hj)
  rwa [← Nat.add_assoc] at this
theorem cellsAt.part {ρ : View} {b o : Nat} {cs : List Value} (h : cellsAt ρ b o cs) (k m : Nat) : cellsAt ρ b (o + k) ((cs.drop k).take m) := fun j u hj => by
  rw [List.getElem?_take] at hj
  split at hj
  · rw [List.getElem?_drop] at hj
    have := h (k + j) u hj
    rwa [← Nat.add_assoc] at this
  · cases hj

/-! ### Readings -/
structure Enc (α : Type) where
  n : Nat
  rd : View → α → List Value → Prop
  len : ∀ {ρ x cs}, rd ρ x cs → cs.length = n
  one : ∀ {ρ x cs}, rd ρ x cs → ∀ u ∈ cs, u.oneCell' = true
  up : ∀ {ρ ρ' x cs}, View.le ρ ρ' → rd ρ x cs → rd ρ' x cs
def eI (k : IntKind) : Enc Int where
  n := 1
  rd _ x cs := cs = [.int k x]
  len h := by subst h; rfl
  one h := by subst h; simp [Value.oneCell']
  up _ h := h
def eB : Enc Bool where
  n := 1
  rd _ x cs := cs = [.bool x]
  len h := by subst h; rfl
  one h := by subst h; simp [Value.oneCell']
  up _ h := h
def eS : Enc ByteArray where
  n := 1
  rd _ x cs := cs = [.string x]
  len h := by subst h; rfl
  one h := by subst h; simp [Value.oneCell']
  up _ h := h
def eV : Enc Value where
  n := 1
  rd _ x cs := cs = [x] ∧ x.oneCell' = true
  len h := by obtain ⟨rfl, _⟩ := h; rfl
  one h := by obtain ⟨rfl, h⟩ := h; simpa using h
  up _ h := h
def eP {α β : Type} (e : Enc α) (f : Enc β) : Enc (α × β) where
  n := e.n + f.n
  rd ρ x cs := ∃ c d, cs = c ++ d ∧ e.rd ρ x.1 c ∧ f.rd ρ x.2 d
  len h := by obtain ⟨c, d, rfl, h1, h2⟩ := h; simp [e.len h1, f.len h2]
  one h := by
    obtain ⟨c, d, rfl, h1, h2⟩ := h
    intro u hu
    rcases List.mem_append.1 hu with hu | hu
    · exact e.one h1 u hu
    · exact f.one h2 u hu
  up hl h := by obtain ⟨c, d, rfl, h1, h2⟩ := h; exact ⟨c, d, rfl, e.up hl h1, f.up hl h2⟩
def rdL {α : Type} (e : Enc α) (ρ : View) : List α → List Value → Prop
  | [], cs => cs = []
  | x :: xs, cs => ∃ c d, cs = c ++ d ∧ e.rd ρ x c ∧ rdL e ρ xs d
section
variable {α : Type} {e : Enc α} {ρ ρ' : View}
theorem rdL.len : ∀ {xs : List α} {cs : List Value}, rdL e ρ xs cs → cs.length = xs.length * e.n
  | [], cs, h => by simp [rdL] at h; simp [h]
  | x :: xs, cs, h => by
    obtain ⟨c, d, rfl, h1, h2⟩ := h
    simp [e.len h1, rdL.len h2, Nat.add_mul]; omega
theorem rdL.one : ∀ {xs : List α} {cs : List Value}, rdL e ρ xs cs → ∀ u ∈ cs, u.oneCell' = true
  | [], cs, h => by simp [rdL] at h; simp [h]
  | x :: xs, cs, h => by
    obtain ⟨c, d, rfl, h1, h2⟩ := h
    intro u hu
    rcases List.mem_append.1 hu with hu | hu
    · exact e.one h1 u hu
    · exact rdL.one h2 u hu
theorem rdL.up (hl : View.le ρ ρ') : ∀ {xs : List α} {cs : List Value}, rdL e ρ xs cs → rdL e ρ' xs cs
  | [], _, h => h
  | _ :: _, _, h => by obtain ⟨c, d, rfl, h1, h2⟩ := h; exact ⟨c, d, rfl, e.up hl h1, rdL.up hl h2⟩
theorem rdL.app : ∀ {xs ys : List α} {cs ds : List Value}, rdL e ρ xs cs → rdL e ρ ys ds → rdL e ρ (xs ++ ys) (cs ++ ds)
  | [], _, cs, ds, h, h' => by simp [rdL] at h; subst h; simpa using h'
  | x :: xs, ys, cs, ds, h, h' => by
    obtain ⟨c, d, rfl, h1, h2⟩ := h
    exact ⟨c, d ++ ds, by simp, h1, rdL.app h2 h'⟩
theorem rdL.nil : rdL e ρ [] [] := rfl
theorem rdL.single {x : α} {c : List Value} (h : e.rd ρ x c) : rdL e ρ [x] c := ⟨c, [], by simp, h, rfl⟩
/-- the i-th -/
theorem rdL.get : ∀ {xs : List α} {cs : List Value} {i : Nat} {x : α}, rdL e ρ xs cs → xs[i]? = some x → e.rd ρ x ((cs.drop (i * e.n)).take e.n)
  | [], _, _, _, _, hx => by simp at hx
  | y :: xs, cs, 0, x, h, hx => by
    obtain ⟨c, d, rfl, h1, h2⟩ := h
    simp at hx; subst hx
    simp only [Nat.zero_mul, List.drop_zero]
    rw [← e.len h1, List.take_left]; exact h1
  | y :: xs, cs, i + 1, x, h, hx => by
    obtain ⟨c, d, rfl, h1, h2⟩ := h
    have h3 := rdL.get (i := i) h2 (by simpa using hx)
    have : (i + 1) * e.n = c.length + i * e.n := by rw [e.len h1, Nat.add_mul]; omega
    rw [this, ← List.drop_drop, List.drop_left]
    exact h3
def setC (vs : List Value) (o : Nat) (cs : List Value) : List Value := vs.take o ++ cs ++ vs.drop (o + cs.length)
theorem setC_length {vs cs : List Value} {o : Nat} (h : o + cs.length ≤ vs.length) : (setC vs o cs).length = vs.length := by
  simp [setC]; omega
theorem rdL.set : ∀ {xs : List α} {cs : List Value} {i : Nat} {x : α} {c : List Value}, rdL e ρ xs cs → i < xs.length → e.rd ρ x c → rdL e ρ (xs.set i x) (setC cs (i * e.n) c)
  | [], _, _, _, _, _, hi, _ => by simp at hi
  | y :: xs, cs, 0, x, c, h, _, hx => by
    obtain ⟨c0, d, rfl, h1, h2⟩ := h
    refine ⟨c, d, ?_, hx, h2⟩
    simp only [setC, Nat.zero_mul, List.take_zero, List.nil_append, Nat.zero_add]
    rw [e.len hx, ← e.len h1, List.drop_left]
  | y :: xs, cs, i + 1, x, c, h, hi, hx => by
    obtain ⟨c0, d, rfl, h1, h2⟩ := h
    have h3 := rdL.set (i := i) h2 (by simpa using hi) hx
    refine ⟨c0, setC d (i * e.n) c, ?_, h1, h3⟩
    have e1 : (i + 1) * e.n = c0.length + i * e.n := by rw [e.len h1, Nat.add_mul]; omega
    simp only [setC, e1]
    rw [List.take_length_add_append]
    have e2 : c0.length + i * e.n + c.length = c0.length + (i * e.n + c.length) := by omega
    rw [e2, List.drop_length_add_append]
    simp
theorem rdL.drop : ∀ {xs : List α} {cs : List Value} (k : Nat), rdL e ρ xs cs → rdL e ρ (xs.drop k) (cs.drop (k * e.n))
  | xs, cs, 0, h => by simpa using h
  | [], cs, k + 1, h => by simp [rdL] at h; subst h; simp [rdL]
  | y :: xs, cs, k + 1, h => by
    obtain ⟨c, d, rfl, h1, h2⟩ := h
    have h3 := rdL.drop k h2
    have e1 : (k + 1) * e.n = c.length + k * e.n := by rw [e.len h1, Nat.add_mul]; omega
    rw [e1, List.drop_length_add_append, List.drop_succ_cons]
    exact h3
theorem rdL.take : ∀ {xs : List α} {cs : List Value} (k : Nat), rdL e ρ xs cs → rdL e ρ (xs.take k) (cs.take (k * e.n))
  | xs, cs, 0, h => by simp [rdL]
  | [], cs, k + 1, h => by simp [rdL] at h; subst h; simp [rdL]
  | y :: xs, cs, k + 1, h => by
    obtain ⟨c, d, rfl, h1, h2⟩ := h
    have e1 : (k + 1) * e.n = c.length + k * e.n := by rw [e.len h1, Nat.add_mul]; omega
    refine ⟨c, d.take (k * e.n), ?_, h1, rdL.take k h2⟩
    rw [e1, List.take_length_add_append]
theorem rdL_ints (k : IntKind) (ρ : View) : ∀ (xs : List Int), rdL (eI k) ρ xs (xs.map (.int k))
  | [] => rfl
  | x :: xs => ⟨[.int k x], xs.map (.int k), rfl, rfl, rdL_ints k ρ xs⟩
theorem rdL_ints_eq {k : IntKind} : ∀ {xs : List Int} {cs : List Value}, rdL (eI k) ρ xs cs → cs = xs.map (.int k)
  | [], _, h => h
  | x :: xs, cs, h => by obtain ⟨c, d, rfl, h1, h2⟩ := h; obtain rfl := rdL_ints_eq h2; obtain rfl : c = [.int k x] := h1; rfl
end
/-- an array of N elements -/
def eA {α : Type} (N : Nat) (e : Enc α) : Enc (List α) where
  n := N * e.n
  rd ρ xs cs := xs.length = N ∧ rdL e ρ xs cs
  len h := by rw [rdL.len h.2, h.1]
  one h := rdL.one h.2
  up hl h := ⟨h.1, rdL.up hl h.2⟩
/-- v, a slice, reads as xs, in the view -/
def RdSl {α : Type} (ρ : View) (e : Enc α) (v : Value) (xs : List α) : Prop :=
  (∃ ad cap, v = .slice ad 0 cap ∧ xs = []) ∨ ∃ b o cap cs, v = .slice (some ⟨b, o, none⟩) xs.length cap ∧ xs.length ≤ cap ∧ rdL e ρ xs cs ∧ cellsAt ρ b o cs
theorem RdSl.up {α : Type} {e : Enc α} {ρ ρ' : View} {v : Value} {xs : List α} (hl : View.le ρ ρ') (h : RdSl ρ e v xs) : RdSl ρ' e v xs := by
  rcases h with h | ⟨b, o, cap, cs, h1, h0, h2, h3⟩
  · exact .inl h
  · exact .inr ⟨b, o, cap, cs, h1, h0, rdL.up hl h2, h3.up hl⟩
def eL {α : Type} (e : Enc α) : Enc (List α) where
  n := 1
  rd ρ xs cs := ∃ v, cs = [v] ∧ RdSl ρ e v xs
  len h := by obtain ⟨v, rfl, _⟩ := h; rfl
  one h := by
    obtain ⟨v, rfl, h⟩ := h
    rcases h with ⟨ad, cap, rfl, _⟩ | ⟨b, o, cap, cs, rfl, _⟩ <;> simp [Value.oneCell']
  up hl h := by obtain ⟨v, rfl, h⟩ := h; exact ⟨v, rfl, h.up hl⟩

/-- The pure index. -/
def idx {α : Type} (xs : List α) (i : Int) : Option α := if 0 ≤ i then xs[i.toNat]? else none
def setI {α : Type} (xs : List α) (i : Int) (x : α) : Option (List α) := if 0 ≤ i ∧ i.toNat < xs.length then some (xs.set i.toNat x) else none
/-- the pure append: with room enough in memory -/
def app {α : Type} (xs ys : List α) : Option (List α) := if xs.length + ys.length ≤ 4294967296 then some (xs ++ ys) else none
theorem idx_some {α : Type} {xs : List α} {i : Int} {x : α} (h : idx xs i = some x) : 0 ≤ i ∧ i.toNat < xs.length ∧ xs[i.toNat]? = some x := by
  unfold idx at h
  split at h
  · exact ⟨by assumption, (List.getElem?_eq_some_iff.1 h).1, h⟩
  · cases h
theorem setI_some {α : Type} {xs ys : List α} {i : Int} {x : α} (h : setI xs i x = some ys) : 0 ≤ i ∧ i.toNat < xs.length ∧ ys = xs.set i.toNat x := by
  unfold setI at h
  split at h
  · rename_i hc; exact ⟨hc.1, hc.2, (Option.some.inj h).symm⟩
  · cases h
theorem app_some {α : Type} {xs ys zs : List α} (h : app xs ys = some zs) : xs.length + ys.length ≤ 4294967296 ∧ zs = xs ++ ys := by
  unfold app at h
  split at h
  · exact ⟨by assumption, (Option.some.inj h).symm⟩
  · cases h
theorem bnd {α β : Type} {a : Option α} {f : α → Option β} {r : β} (h : (a >>= f) = some r) : ∃ x, a = some x ∧ f x = some r := Option.bind_eq_some_iff.1 h

/-- element i of the slice v (n cells an element) lies at (b, o) -/
def IdxOk (v : Value) (i : Int) (n b o : Nat) : Prop := ∃ a0 len cap, v = .slice (some ⟨b, a0, none⟩) len cap ∧ 0 ≤ i ∧ i < len ∧ o = a0 + i.toNat * n
theorem idxR {α : Type} {e : Enc α} {ρ : View} {v : Value} {xs : List α} {i : Int} {x : α} (hr : RdSl ρ e v xs) (hx : idx xs i = some x) :
    ∃ b o cs, e.rd ρ x cs ∧ cellsAt ρ b o cs ∧ IdxOk v i e.n b o := by
  obtain ⟨h0, hlt, hx⟩ := idx_some hx
  rcases hr with ⟨ad, cap, rfl, rfl⟩ | ⟨b, o, cap, cs, rfl, hc, h2, h3⟩
  · simp at hlt
  · exact ⟨b, o + i.toNat * e.n, _, rdL.get h2 hx, h3.part _ _, o, xs.length, cap, rfl, h0, by omega, rfl⟩
/-- element i of an array -/
theorem arrR {α : Type} {e : Enc α} {ρ : View} {N b o : Nat} {cs : List Value} {xs : List α} {i : Int} {x : α} (hr : (eA N e).rd ρ xs cs) (hat : cellsAt ρ b o cs) (hx : idx xs i = some x) :
    ∃ c, e.rd ρ x c ∧ cellsAt ρ b (o + i.toNat * e.n) c ∧ 0 ≤ i ∧ i < N := by
  obtain ⟨h0, hlt, hx⟩ := idx_some hx
  exact ⟨_, rdL.get hr.2 hx, hat.part _ _, h0, by have := hr.1; omega⟩

/-! ### Heaplets -/
structure Hl where
  fp : List Nat
  P : View → Prop
  loc : ∀ {h h' : View}, (∀ b ∈ fp, h b = h' b) → P h → P h'
def Box (b : Nat) (vs : List Value) : Hl where
  fp := [b]
  P h := ∃ T, h b = some (.cells vs.toArray T (0, 0))
  loc he hp := by obtain ⟨T, hp⟩ := hp; exact ⟨T, (he b (by simp)).symm.trans hp⟩
def vblk : Value → List Nat
  | .slice (some a) _ _ => [a.block]
  | _ => []
/-- the slice v owns its block; its elements, of n cells each, are the cells cs -/
def Arr (v : Value) (n : Nat) (cs : List Value) : Hl where
  fp := vblk v
  P h := (v = .slice none 0 0 ∧ cs = []) ∨ ∃ b o len cap cur T, v = .slice (some ⟨b, o, none⟩) len cap ∧ cs.length = len * n ∧ len ≤ cap ∧ o + cap * n ≤ cur.size ∧ h b = some (.cells cur T (0, 0)) ∧ (cur.toList.drop o).take cs.length = cs
  loc he hp := by
    rcases hp with hp | ⟨b, o, len, cap, cur, T, rfl, h1, h2, h3, h4, h5⟩
    · exact .inl hp
    · exact .inr ⟨b, o, len, cap, cur, T, rfl, h1, h2, h3, (he b (by simp [vblk])).symm.trans h4, h5⟩

def fps (hs : List Hl) : List Nat := hs.flatMap (·.fp)
structure Cx where
  w0 : World
  S : List Nat
/-- memory, as it stands: w is w0 but for new blocks and those of S; the view's blocks and those of the heaplets are apart. -/
structure Hp (C : Cx) (w : World) (ρ : View) (hs : List Hl) : Prop where
  os : w.os = C.w0.os
  tape : w.tape = C.w0.tape
  out : w.output = C.w0.output
  size : C.w0.heap.size ≤ w.heap.size
  old : ∀ b, b < C.w0.heap.size → b ∉ C.S → w.heap[b]? = C.w0.heap[b]?
  fresh : ∀ b ∈ fps hs, b ∈ C.S ∨ C.w0.heap.size ≤ b
  lt : ∀ b ∈ fps hs, b < w.heap.size
  nodup : (fps hs).Nodup
  view : View.le ρ (hv w)
  apart : ∀ b ∈ fps hs, ρ b = none
  all : ∀ h ∈ hs, h.P (hv w)
/-- what reading asks of a world -/
structure Ok (w : World) (ρ : View) (hs : List Hl) : Prop where
  view : View.le ρ (hv w)
  all : ∀ h ∈ hs, h.P (hv w)
section
variable {C : Cx} {w w' : World} {ρ : View} {hs : List Hl}
theorem Hp.ok (H : Hp C w ρ hs) : Ok w ρ hs := ⟨H.view, H.all⟩
theorem Hp.okS (H : Hp C w ρ hs) {l : List Hl} (hl : ∀ h ∈ l, h ∈ hs) : Ok w ρ l := ⟨H.view, fun h hh => H.all h (hl h hh)⟩
theorem Ok.get (H : Ok w ρ hs) {k : Nat} {h : Hl} (hk : hs[k]? = some h) : h.P (hv w) := H.all h (List.mem_of_getElem? hk)
theorem Ok.drew (H : Ok w ρ hs) : Ok w.drew ρ hs := ⟨H.view, H.all⟩
theorem Hp.drew (H : Hp C w ρ hs) : Hp C w.drew ρ hs := ⟨H.os, H.tape, H.out, H.size, H.old, H.fresh, H.lt, H.nodup, H.view, H.apart, H.all⟩
theorem fps_cons (h : Hl) (hs : List Hl) : fps (h :: hs) = h.fp ++ fps hs := by simp [fps]
theorem mem_fps {b : Nat} : b ∈ fps hs ↔ ∃ h ∈ hs, b ∈ h.fp := by simp [fps]

theorem hv_alloc_old (w : World) (o : Obj) {b : Nat} (hb : b < w.heap.size) : hv (w.alloc o) b = hv w b := heap_alloc_old w o hb
theorem hv_alloc_new (w : World) (o : Obj) : hv (w.alloc o) w.heap.size = some o := heap_alloc_new w o
theorem lt_of_hv {w : World} {b : Nat} {o : Obj} (h : hv w b = some o) : b < w.heap.size := (Array.getElem?_eq_some_iff.1 h).1

theorem Hp.alloc (H : Hp C w ρ hs) (o : Obj) {h : Hl} (hf : h.fp = [w.heap.size]) (hp : h.P (hv (w.alloc o))) : Hp C (w.alloc o) ρ (h :: hs) where
  os := H.os
  tape := H.tape
  out := H.out
  size := by have := H.size; simp; omega
  old b hb hs := (hv_alloc_old w o (by have := H.size; omega)).trans (H.old b hb hs)
  fresh b hb := by
    rw [fps_cons, hf] at hb
    rcases List.mem_append.1 hb with hb | hb
    · simp at hb; subst hb; exact .inr H.size
    · exact H.fresh b hb
  lt b hb := by
    rw [fps_cons, hf] at hb
    rcases List.mem_append.1 hb with hb | hb
    · simp at hb; subst hb; simp
    · have := H.lt b hb; simp; omega
  nodup := by
    rw [fps_cons, hf]
    refine List.nodup_append.2 ⟨by simp, H.nodup, fun a ha b hb => ?_⟩
    simp at ha; subst ha
    have := H.lt b hb; omega
  view b x hx := by
    have := H.view b x hx
    rw [hv_alloc_old w o (lt_of_hv this)]; exact this
  apart b hb := by
    rw [fps_cons, hf] at hb
    rcases List.mem_append.1 hb with hb | hb
    · simp at hb; subst hb
      cases hr : ρ w.heap.size with
      | none => rfl
      | some x => have := lt_of_hv (H.view _ x hr); omega
    · exact H.apart b hb
  all h' hh := by
    rcases List.mem_cons.1 hh with rfl | hh
    · exact hp
    · exact h'.loc (fun b hb => (hv_alloc_old w o (H.lt b (mem_fps.2 ⟨h', hh, hb⟩))).symm) (H.all h' hh)

theorem mem_fps_set {k : Nat} {h' : Hl} {b : Nat} (hb : b ∈ fps (hs.set k h')) : b ∈ h'.fp ∨ b ∈ fps hs := by
  obtain ⟨x, hx, hbx⟩ := mem_fps.1 hb
  rcases List.mem_or_eq_of_mem_set hx with h1 | rfl
  · exact .inr (mem_fps.2 ⟨x, h1, hbx⟩)
  · exact .inl hbx
theorem nodup_set : ∀ {hs : List Hl} {k : Nat} {h h' : Hl} {N : Nat}, (fps hs).Nodup → (∀ b ∈ fps hs, b < N) → hs[k]? = some h → h'.fp.Nodup → (∀ b ∈ h'.fp, b ∈ h.fp ∨ N ≤ b) → (fps (hs.set k h')).Nodup
  | [], _, _, _, _, _, _, hk, _, _ => by simp at hk
  | x :: hs, 0, h, h', N, hn, hl, hk, hd, hf => by
    simp at hk; subst hk
    simp only [List.set_cons_zero, fps_cons] at *
    obtain ⟨h1, h2, h3⟩ := List.nodup_append.1 hn
    refine List.nodup_append.2 ⟨hd, h2, fun a ha b hb => ?_⟩
    rcases hf a ha with h4 | h4
    · exact h3 a h4 b hb
    · have := hl b (List.mem_append.2 (.inr hb)); omega
  | x :: hs, k + 1, h, h', N, hn, hl, hk, hd, hf => by
    simp only [List.set_cons_succ, fps_cons] at *
    obtain ⟨h1, h2, h3⟩ := List.nodup_append.1 hn
    have hk' : hs[k]? = some h := by simpa using hk
    refine List.nodup_append.2 ⟨h1, nodup_set h2 (fun b hb => hl b (List.mem_append.2 (.inr hb))) hk' hd hf, fun a ha b hb => ?_⟩
    rcases mem_fps_set hb with h4 | h4
    · rcases hf b h4 with h5 | h5
      · exact h3 a ha b (mem_fps.2 ⟨h, List.mem_of_getElem? hk', h5⟩)
      · have := hl a (List.mem_append.2 (.inl ha)); omega
    · exact h3 a ha b h4
theorem apart_of : ∀ {hs : List Hl} {k : Nat} {h : Hl}, (fps hs).Nodup → hs[k]? = some h → ∀ {j : Nat} {x : Hl}, hs[j]? = some x → j ≠ k → ∀ b ∈ x.fp, b ∉ h.fp
  | [], _, _, _, hk, _, _, _, _, _, _ => by simp at hk
  | y :: hs, 0, h, hn, hk, 0, x, hj, hne, _, _ => absurd rfl hne
  | y :: hs, 0, h, hn, hk, j + 1, x, hj, _, b, hb => by
    simp at hk; subst hk
    rw [fps_cons] at hn
    intro hc
    exact (List.nodup_append.1 hn).2.2 b hc b (mem_fps.2 ⟨x, List.mem_of_getElem? (by simpa using hj), hb⟩) rfl
  | y :: hs, k + 1, h, hn, hk, 0, x, hj, _, b, hb => by
    simp at hj; subst hj
    rw [fps_cons] at hn
    intro hc
    exact (List.nodup_append.1 hn).2.2 b hb b (mem_fps.2 ⟨h, List.mem_of_getElem? (by simpa using hk), hc⟩) rfl
  | y :: hs, k + 1, h, hn, hk, j + 1, x, hj, hne, b, hb => by
    rw [fps_cons] at hn
    exact apart_of (List.nodup_append.1 hn).2.1 (by simpa using hk) (by simpa using hj) (by omega) b hb
/-- the k-th heaplet h gives way to h', in a world that differs at the blocks of h alone, or in new blocks -/
theorem Hp.upd (H : Hp C w ρ hs) {k : Nat} {h h' : Hl} (hk : hs[k]? = some h) (hos : w'.os = w.os) (htp : w'.tape = w.tape) (hout : w'.output = w.output) (hsz : w.heap.size ≤ w'.heap.size)
    (hold : ∀ b, b < w.heap.size → b ∉ h.fp → w'.heap[b]? = w.heap[b]?) (hnd : h'.fp.Nodup) (hf : ∀ b ∈ h'.fp, b ∈ h.fp ∨ w.heap.size ≤ b) (hlt : ∀ b ∈ h'.fp, b < w'.heap.size) (hp : h'.P (hv w')) :
    Hp C w' ρ (hs.set k h') where
  os := hos.trans H.os
  tape := htp.trans H.tape
  out := hout.trans H.out
  size := Nat.le_trans H.size hsz
  old b hb hS := by
    have h1 := H.size
    refine (hold b (by omega) fun hc => ?_).trans (H.old b hb hS)
    rcases H.fresh b (mem_fps.2 ⟨h, List.mem_of_getElem? hk, hc⟩) with h2 | h2
    · exact hS h2
    · omega
  fresh b hb := by
    rcases mem_fps_set hb with h1 | h1
    · rcases hf b h1 with h2 | h2
      · exact H.fresh b (mem_fps.2 ⟨h, List.mem_of_getElem? hk, h2⟩)
      · exact .inr (Nat.le_trans H.size h2)
    · exact H.fresh b h1
  lt b hb := by
    rcases mem_fps_set hb with h1 | h1
    · exact hlt b h1
    · exact Nat.lt_of_lt_of_le (H.lt b h1) hsz
  nodup := nodup_set H.nodup H.lt hk hnd hf
  view b x hx := by
    have h1 := H.view b x hx
    have : b ∉ h.fp := fun hc => by have := H.apart b (mem_fps.2 ⟨h, List.mem_of_getElem? hk, hc⟩); rw [hx] at this; cases this
    exact (hold b (lt_of_hv h1) this).trans h1
  apart b hb := by
    rcases mem_fps_set hb with h1 | h1
    · rcases hf b h1 with h2 | h2
      · exact H.apart b (mem_fps.2 ⟨h, List.mem_of_getElem? hk, h2⟩)
      · cases hr : ρ b with
        | none => rfl
        | some x => have := lt_of_hv (H.view _ x hr); omega
    · exact H.apart b h1
  all x hx := by
    obtain ⟨j, hj⟩ := List.mem_iff_getElem?.1 hx
    by_cases e : j = k
    · subst e
      rw [List.getElem?_set_self' ] at hj
      simp [hk] at hj
      subst hj; exact hp
    · rw [List.getElem?_set_ne (Ne.symm e)] at hj
      refine x.loc (fun b hb => ?_) (H.all x (List.mem_of_getElem? hj))
      exact (hold b (H.lt b (mem_fps.2 ⟨x, List.mem_of_getElem? hj, hb⟩)) (apart_of H.nodup hk hj e b hb)).symm
theorem fps_perm {l l' : List Hl} (h : l.Perm l') : (fps l).Perm (fps l') := h.flatMap_right _
theorem Hp.perm (H : Hp C w ρ hs) {l : List Hl} (h : hs.Perm l) : Hp C w ρ l :=
  ⟨H.os, H.tape, H.out, H.size, H.old, fun b hb => H.fresh b ((fps_perm h).mem_iff.2 hb), fun b hb => H.lt b ((fps_perm h).mem_iff.2 hb), (fps_perm h).nodup_iff.1 H.nodup, H.view,
    fun b hb => H.apart b ((fps_perm h).mem_iff.2 hb), fun x hx => H.all x (h.mem_iff.2 hx)⟩
theorem perm_front : ∀ {hs : List Hl} {k : Nat} {h : Hl}, hs[k]? = some h → hs.Perm (h :: hs.eraseIdx k)
  | [], _, _, hk => by simp at hk
  | x :: hs, 0, h, hk => by simp at hk; subst hk; simp
  | x :: hs, k + 1, h, hk => by
    simp only [List.eraseIdx_cons_succ]
    exact ((perm_front (hs := hs) (by simpa using hk)).cons x).trans (List.Perm.swap _ _ _)
/-- the k-th to the front -/
theorem Hp.front (H : Hp C w ρ hs) (k : Nat) {h : Hl} (hk : hs[k]? = some h) : Hp C w ρ (h :: hs.eraseIdx k) := H.perm (perm_front hk)
theorem Hp.tail {h : Hl} (H : Hp C w ρ (h :: hs)) : Hp C w ρ hs :=
  ⟨H.os, H.tape, H.out, H.size, H.old, fun b hb => H.fresh b (by rw [fps_cons]; exact List.mem_append.2 (.inr hb)), fun b hb => H.lt b (by rw [fps_cons]; exact List.mem_append.2 (.inr hb)),
    (List.nodup_append.1 (by have := H.nodup; rwa [fps_cons] at this)).2.1, H.view, fun b hb => H.apart b (by rw [fps_cons]; exact List.mem_append.2 (.inr hb)), fun x hx => H.all x (.tail _ hx)⟩
/-- the k-th is let go -/
theorem Hp.drop (H : Hp C w ρ hs) (k : Nat) {h : Hl} (hk : hs[k]? = some h) : Hp C w ρ (hs.eraseIdx k) := (H.front k hk).tail
/-- the view grows by the first heaplet's blocks: it is frozen -/
theorem Hp.freeze {h : Hl} (H : Hp C w ρ (h :: hs)) : ∃ ρ', View.le ρ ρ' ∧ Hp C w ρ' hs ∧ h.P ρ' := by
  refine ⟨fun b => if b ∈ h.fp then hv w b else ρ b, fun b o hb => ?_, ?_, ?_⟩
  · have : b ∉ h.fp := fun hc => by have := H.apart b (by rw [fps_cons]; exact List.mem_append.2 (.inl hc)); rw [hb] at this; cases this
    simp [this, hb]
  · have T := H.tail
    refine ⟨T.os, T.tape, T.out, T.size, T.old, T.fresh, T.lt, T.nodup, fun b o hb => ?_, fun b hb => ?_, T.all⟩
    · split at hb
      · exact hb
      · exact H.view b o hb
    · have hn := H.nodup
      rw [fps_cons] at hn
      have : b ∉ h.fp := fun hc => (List.nodup_append.1 hn).2.2 b hc b hb rfl
      simp [this, T.apart b hb]
  · exact h.loc (fun b hb => by simp [hb]) (H.all h (by simp))
end
end Go.Eng
