/-
  MY ENGINE, part F: arrays, structs built, small words for the generator.
-/
import Derived.Test.YteiaphkejkgfkaaDoorEngE
namespace Go.Eng
open Go
section
variable {P : Program} {E : Env} {w : World} {C : Cx} {ρ : View} {hs : List Hl} {d : Option Tmp} {ty : TypeId} {pos : String} {af : Array Edge} {g : Option (Nat × Bool)}

theorem idx_lt {α : Type} {xs : List α} {N : Nat} {i : Int} {x : α} (hl : xs.length = N) (h : idx xs i = some x) : 0 ≤ i ∧ i < (N : Int) := by
  obtain ⟨h0, h1, _⟩ := idx_some h
  omega
theorem setI_lt {α : Type} {xs ys : List α} {N : Nat} {i : Int} {x : α} (hl : xs.length = N) (h : setI xs i x = some ys) : 0 ≤ i ∧ i < (N : Int) := by
  obtain ⟨h0, h1, _⟩ := setI_some h
  omega
theorem app_fit {α : Type} {e : Enc α} {xs ys : List α} {cs ds : List Value} (h : rdL e ρ xs cs) (h' : rdL e ρ ys ds) (hl : xs.length + ys.length ≤ 4294967296) : cs.length + ds.length ≤ 4294967296 * e.n := by
  rw [h.len, h'.len, ← Nat.add_mul]
  exact Nat.mul_le_mul_right _ hl
theorem eA.len {α : Type} {e : Enc α} {N : Nat} {xs : List α} {cs : List Value} (h : (eA N e).rd ρ xs cs) : xs.length = N := h.1
theorem cellsAt.fieldR {b o k : Nat} {c1 c2 : List Value} (h : cellsAt ρ b o (c1 ++ c2)) (hl : c1.length = k) : cellsAt ρ b (o + k) c2 := by
  subst hl; exact h.right

/-- a whole array, indexed -/
theorem Q_ixI {k : IntKind} {t e : TypeId} {x i : Operand} {N : Nat} {cs : List Value} {xs : List Int} {m y : Int} {n' by_ : Nat} {z : Value} {k' : IntKind} (hr : rdL (eI k) ρ xs cs) (hl : xs.length = N) (hy : idx xs m = some y)
    (ht : P.underlying t = some (.array N e)) (hx : ev E x = some (.agg cs.toArray)) (hi : ev E i = some (.int k' m)) (hty : Ty P e n' by_ z false) (hn : n' = 1) : Qv P E ⟨d, .index t x i, ty, pos, af, g⟩ (.int k y) w := fun n a hf => by
  obtain ⟨h0, hN⟩ := idx_lt hl hy
  obtain ⟨_, h1, hy⟩ := idx_some hy
  obtain rfl := rdL_ints_eq hr
  subst hn
  have hp : (part e (xs.map (Value.int k)).toArray m.toNat).run P w = .ok (.int k y) w := by
    unfold part
    rw [Sem.run_bind, hty.isAgg]
    simp [hy]
  simp [execOp, hf.eval hx, hf.eval hi, Instr.index, asIntOf, run_underlying ht, h0, hN, hty.sizeOf, hp]
/-- arr[:] of an array variable -/
theorem Q_slA {t e : TypeId} {x : Operand} {N b : Nat} {n' by_ : Nat} {z : Value} {ag : Bool} (ht : P.underlying t = some (.array N e)) (hty : Ty P e n' by_ z ag) (hx : ev E x = some (.pointer (some ⟨b, 0, none⟩))) :
    Qv P E ⟨d, .slice t x none none none, ty, pos, af, g⟩ (.slice (some ⟨b, 0, none⟩) N N) w := fun n a hf => by
  simp [execOp, hf.eval hx, Instr.sliceAt, run_underlying ht, Instr.sureAddr, Instr.sliceBounds, hty.sizeOf, Addr.add_none]
/-- T{} of an array type -/
theorem Q_build0 {t e : TypeId} {N n by_ n' by' : Nat} {z z' : Value} {zs : List Value} {ag : Bool} (hty : Ty P t n by_ z true) (ht : P.underlying t = some (.array N e)) (hty' : Ty P e n' by' z' ag) (hz : z.cells = zs.toArray) :
    Qv P E ⟨d, .build t #[], ty, pos, af, g⟩ (.agg zs.toArray) w := fun n a hf => by
  simp [execOp, Instr.build, hty.zeroValue, run_underlying ht, hty'.sizeOf, Instr.fill, hz]
/-- the places of a struct's fields, its zero cells -/
structure St (P : Program) (T : TypeId) (fs : Array Field) (pl : List (Nat × Nat)) (zs : List Value) : Prop where
  und : P.underlying T = some (.struct fs)
  places : fs.toList.mapM (fun f => (P.info? f.type).map fun i => (f.offset, i.size)) = some pl
  zero : ∃ n by_ z ag, Ty P T n by_ z ag ∧ z.cells = zs.toArray
theorem foldl_set (cs : List Value) : ∀ (k off : Nat) (cells : Array Value), off + k + cs.length ≤ cells.size → ((cs.zipIdx k).foldl (fun (acc : Array Value) x => acc.setIfInBounds (off + x.2) x.1) cells).toList = setC cells.toList (off + k) cs := by
  induction cs with
  | nil => intro k off cells h; simp [setC]
  | cons c cs ih =>
    intro k off cells h
    simp only [List.length_cons] at h
    rw [List.zipIdx_cons, List.foldl_cons, ih (k + 1) off _ (by simp; omega)]
    simp only [setC, Array.toList_setIfInBounds, List.length_cons]
    apply List.ext_getElem?
    intro j
    simp only [List.append_assoc]
    by_cases h1 : j < off + k
    · rw [List.getElem?_append_left (by simp; omega), List.getElem?_append_left (by simp; omega), List.getElem?_take, List.getElem?_take, if_pos (by omega), if_pos h1, List.getElem?_set_ne (by omega)]
    · by_cases h2 : j = off + k
      · subst h2
        rw [List.getElem?_append_left (by simp; omega), List.getElem?_append_right (by simp; omega), List.getElem?_take, if_pos (by omega), List.getElem?_set_self (by simp; omega)]
        have : (List.take (off + k) cells.toList).length = off + k := by simp; omega
        rw [this]; simp
      · by_cases h3 : j < off + k + 1 + cs.length
        · rw [List.getElem?_append_right (by simp; omega), List.getElem?_append_left (by simp; omega), List.getElem?_append_right (by simp; omega), List.getElem?_append_left (by simp; omega)]
          simp only [List.length_take, List.length_set, Array.length_toList]
          have e1 : j - min (off + (k + 1)) cells.size = j - (off + k) - 1 := by omega
          have e2 : j - min (off + k) cells.size = (j - (off + k) - 1) + 1 := by omega
          rw [e1, e2, List.getElem?_cons_succ]
        · rw [List.getElem?_append_right (by simp; omega), List.getElem?_append_right (by simp; omega), List.getElem?_append_right (by simp; omega), List.getElem?_append_right (by simp; omega), List.getElem?_drop, List.getElem?_drop]
          simp only [List.length_take, List.length_set, Array.length_toList, List.length_cons]
          rw [List.getElem?_set_ne (by omega)]
          congr 1
          omega
/-- each part (its field, its value) comes to (its offset, its cells) -/
def partsOk (pl : List (Nat × Nat)) (N : Nat) : List (Nat × Value) → List (Nat × List Value) → Prop
  | [], [] => True
  | (i, v) :: r, (off, c) :: s => pl[i]? = some (off, c.length) ∧ v.cells = c.toArray ∧ off + c.length ≤ N ∧ partsOk pl N r s
  | _, _ => False
theorem fill_parts {pl : List (Nat × Nat)} {N : Nat} : ∀ (parts : List (Nat × Value)) (ps : List (Nat × List Value)) (cells : Array Value), cells.size = N → partsOk pl N parts ps →
    Instr.fill (fun i => pl[i]?) cells parts = some (ps.foldl (fun acc p => setC acc p.1 p.2) cells.toList).toArray
  | [], [], cells, _, _ => by simp [Instr.fill]
  | (i, v) :: r, (off, c) :: s, cells, hN, h => by
    obtain ⟨h1, h2, h3, h4⟩ := h
    have hf := foldl_set c 0 off cells (by omega)
    have hf' : (v.cells.zipIdx.foldl (fun (cs : Array Value) x => cs.setIfInBounds (off + x.2) x.1) cells) = (setC cells.toList off c).toArray := by
      rw [h2]
      apply Array.toList_inj.1
      rw [Nat.add_zero] at hf
      rw [← hf]
      rw [← Array.foldl_toList]
      simp
    simp only [Instr.fill, h1]
    rw [if_neg (by simp [h2]; omega)]
    rw [hf', fill_parts r s _ (by rw [List.size_toArray, setC_length (by simp; omega)]; simpa using hN) h4]
    simp
  | [], _ :: _, _, _, h => by cases h
  | _ :: _, [], _, _, h => by cases h
def evP (E : Env) : List (Nat × Operand) → Option (List (Nat × Value))
  | [] => some []
  | (i, x) :: r => match ev E x, evP E r with
    | some v, some vs => some ((i, v) :: vs)
    | _, _ => none
theorem Fr.evalP {n : Nat} {a : Act} (h : Fr n a E) : ∀ {l : List (Nat × Operand)} {vs : List (Nat × Value)}, evP E l = some vs → (l.map fun (i, x) => (i, a.eval x)) = vs
  | [], vs, hx => by simpa [evP] using hx
  | (i, x) :: r, vs, hx => by
    simp only [evP] at hx
    cases hv : ev E x with
    | none => simp [hv] at hx
    | some v =>
      cases hr : evP E r with
      | none => simp [hv, hr] at hx
      | some us =>
        simp [hv, hr] at hx
        subst hx
        simp [h.eval hv, h.evalP hr]
theorem Q_buildS {T : TypeId} {fs : Array Field} {pl : List (Nat × Nat)} {zs : List Value} {parts : List (Nat × Operand)} {vs : List (Nat × Value)} {ps : List (Nat × List Value)} {res : List Value} (hst : St P T fs pl zs)
    (hvs : evP E parts = some vs) (hok : partsOk pl zs.length vs ps) (hres : ps.foldl (fun acc p => setC acc p.1 p.2) zs = res) : Qv P E ⟨d, .build T parts.toArray, ty, pos, af, g⟩ (.agg res.toArray) w := fun n a hf => by
  obtain ⟨n', by_, z, ag, hty, hz⟩ := hst.zero
  obtain ⟨it, hit, _, _, hzi⟩ := hty.parts
  have hev := hf.evalP hvs
  have hb : P.built T vs = some res.toArray := by
    unfold Program.built
    simp only [hit, hst.und, hzi, hst.places]
    have := fill_parts (N := zs.length) vs ps z.cells (by rw [hz]; simp) hok
    simp only [List.getElem?_toArray]
    rw [this, hz, hres]
  have := run_build (P := P) w T vs.toArray res.toArray (by simpa using hb)
  have e : (parts.toArray.map fun (i, x) => (i, a.eval x)) = vs.toArray := by rw [← hev]; simp
  simp only [execOp, e]
  simp [this]

/-- var row [N]T -/
theorem E_allocA (H : Hp C w ρ hs) {T : TypeId} {N n n' by_ : Nat} {z : Value} {zs : List Value} (hty : Ty P T n' by_ z true) (hz : z.cells = zs.toArray) (hl : zs.length = N * n) :
    Eff P E ⟨d, .alloc T, ty, pos, af, g⟩ w (fun v w' => ∃ b, v = .pointer (some ⟨b, 0, none⟩) ∧ Hp C w' ρ (Arr (.slice (some ⟨b, 0, none⟩) N N) n zs :: hs)) :=
  Eff.of_run fun n a hf => ⟨_, _, by
    simp only [execOp, Instr.alloc, Sem.run_bind, hty.zeroValue, Result.andThen_ok, newVar, run_newRow, hz]
    rfl, w.heap.size, rfl, H.alloc _ rfl (.inr ⟨_, 0, N, N, _, T, rfl, hl, Nat.le_refl _, by simp [hl], hv_alloc_new w _, by simp⟩)⟩
theorem arr_whole {b N n : Nat} {cs : List Value} {h : View} (hp : (Arr (.slice (some ⟨b, 0, none⟩) N N) n cs).P h) : cellsAt h b 0 cs := by
  rcases hp with ⟨h6, _⟩ | ⟨b', o', len', cap', cur, T0, h6, h7, h8, h9, h10, h11⟩
  · cases h6
  · injection h6 with h6 h12 h13
    injection h6 with h6
    injection h6 with h6 h14
    subst h6 h12 h13 h14
    intro j u hj
    rw [← h11, List.getElem?_take] at hj
    split at hj
    · simp [View.cell, h10]
      simpa using hj
    · cases hj
/-- the whole of an array variable -/
theorem Q_ldW {k : Nat} {T : TypeId} {x : Operand} {n' by_ b N n : Nat} {z : Value} {cs : List Value} (hok : Ok w ρ hs) (hk : hs[k]? = some (Arr (.slice (some ⟨b, 0, none⟩) N N) n cs)) (hty : Ty P T n' by_ z true)
    (hx : ev E x = some (.pointer (some ⟨b, 0, none⟩))) (hl : cs.length = n') : Qv P E ⟨d, .load T x, ty, pos, af, g⟩ (.agg cs.toArray) w :=
  Q_ld (arr_whole (hok.get hk)) hty hl (fun h => nomatch h) hx rfl
theorem E_stW (H : Hp C w ρ hs) {k : Nat} {T : TypeId} {x y : Operand} {n' by_ b N n : Nat} {z : Value} {cs c : List Value} (hk : hs[k]? = some (Arr (.slice (some ⟨b, 0, none⟩) N N) n cs)) (hty : Ty P T n' by_ z true)
    (hx : ev E x = some (.pointer (some ⟨b, 0, none⟩))) (hy : ev E y = some (.agg c.toArray)) (h1 : ∀ u ∈ c, u.oneCell' = true) (hlo : cs.length = n') (hln : c.length = n') :
    Eff P E ⟨d, .store T x y, ty, pos, af, g⟩ w (fun _ w' => Hp C w' ρ (hs.set k (Arr (.slice (some ⟨b, 0, none⟩) N N) n c))) := by
  rcases H.ok.get hk with ⟨h6, _⟩ | ⟨b', o', len', cap', cur, T0, h6, h7, h8, h9, h10, h11⟩
  · cases h6
  · injection h6 with h6 h12 h13
    injection h6 with h6
    injection h6 with h6 h14
    subst h6 h12 h13 h14
    have hb' : w.heap[b]? = some (.cells cur T0 (0, 0)) := h10
    have hcm : cs.length ≤ cur.size := by omega
    refine Eff.of_skip fun n'' a hf => ⟨w.setRow b (setC cur.toList 0 c).toArray, ?_, ?_⟩
    · have := run_stv (w := w) (o := 0) (v := .agg c.toArray) hty hln rfl h1 hb' (by omega)
      simp only [execOp, hf.eval hx, hf.eval hy, Instr.storeAt, Instr.sureAddr]
      simp [this]
    · refine H.upd hk rfl rfl rfl (by simp) (fun b' _ hn => setRow_other w b b' _ (by simpa [Arr, vblk] using hn)) (by simp [Arr, vblk]) (fun b' hb' => .inl hb')
        (fun b' hb' => by simp [Arr, vblk] at hb'; subst hb'; simpa using lt_of_hv h10) (.inr ⟨b, 0, N, N, _, T0, rfl, by omega, Nat.le_refl _, ?_, hv_setRow_same hb', ?_⟩)
      · simp only [List.size_toArray]; rw [setC_length (by simp; omega)]; simpa using h9
      · simp [setC]
end
end Go.Eng
