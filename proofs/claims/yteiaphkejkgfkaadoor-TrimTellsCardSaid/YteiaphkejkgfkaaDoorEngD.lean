/-
  MY ENGINE, part D: operations that change memory; calls.
-/
import Derived.Test.YteiaphkejkgfkaaDoorEngC
import Derived.Great.FillDense
import Derived.Great.BuildSlice
import Derived.Laws.MakeOwn
namespace Go.Eng
open Go
section
variable {P : Program} {E : Env} {w : World} {C : Cx} {ρ : View} {hs : List Hl} {d : Option Tmp} {ty : TypeId} {pos : String} {af : Array Edge} {g : Option (Nat × Bool)}

theorem Eff.of_run {o : Oper} {post : Value → World → Prop} (h : ∀ n a, Fr n a E → ∃ v w', (execOp a.eval o).run P w = .ok (.value v) w' ∧ post v w') : Eff P E o w post := fun n a hf K Q hk => by
  obtain ⟨v, w', hr, hp⟩ := h n a hf
  unfold Oper.wp
  rw [hr]
  exact hk v w' hp
theorem Eff.of_skip {o : Oper} {post : Value → World → Prop} (h : ∀ n a, Fr n a E → ∃ w', (execOp a.eval o).run P w = .ok .skip w' ∧ post undef w') : Eff P E o w post := fun n a hf K Q hk => by
  obtain ⟨w', hr, hp⟩ := h n a hf
  unfold Oper.wp
  rw [hr]
  exact hk _ w' hp
theorem Eff.mono {o : Oper} {post post' : Value → World → Prop} (h : Eff P E o w post) (hp : ∀ v w', post v w' → post' v w') : Eff P E o w post' :=
  fun n a hf K Q hk => h n a hf K Q fun v w' h' => hk v w' (hp v w' h')

theorem run_newRow (T : TypeId) (cs : Array Value) : (newRow T cs).run P w = .ok ⟨w.heap.size, 0, none⟩ (w.alloc (.cells cs T)) := by
  simp [newRow]
/-- var x T -/
theorem E_alloc (H : Hp C w ρ hs) {T : TypeId} {n by_ : Nat} {z : Value} {ag : Bool} {zs : List Value} (hty : Ty P T n by_ z ag) (hz : z.cells = zs.toArray) :
    Eff P E ⟨d, .alloc T, ty, pos, af, g⟩ w (fun v w' => ∃ b, v = .pointer (some ⟨b, 0, none⟩) ∧ Hp C w' ρ (Box b zs :: hs)) :=
  Eff.of_run fun n a hf => ⟨_, _, by
    simp only [execOp, Instr.alloc, Sem.run_bind, hty.zeroValue, Result.andThen_ok, newVar, run_newRow, hz]
    rfl, w.heap.size, rfl, H.alloc _ rfl ⟨T, hv_alloc_new w _⟩⟩
/-- x := v, boxed -/
theorem E_box (H : Hp C w ρ hs) {T : TypeId} {x : Operand} {v : Value} {vs : List Value} (hx : ev E x = some v) (hz : v.cells = vs.toArray) :
    Eff P E ⟨d, .box T x, ty, pos, af, g⟩ w (fun v w' => ∃ b, v = .pointer (some ⟨b, 0, none⟩) ∧ Hp C w' ρ (Box b vs :: hs)) :=
  Eff.of_run fun n a hf => ⟨_, _, by
    simp only [execOp, Instr.box, Sem.run_bind, Result.andThen_ok, newVar, hf.eval hx, run_newRow, hz]
    rfl, w.heap.size, rfl, H.alloc _ rfl ⟨T, hv_alloc_new w _⟩⟩

theorem run_stv {T : TypeId} {n by_ b o : Nat} {z v : Value} {ag : Bool} {cs : List Value} {cur : Array Value} {T0 : TypeId} (hty : Ty P T n by_ z ag) (hl : cs.length = n) (hvc : v.cells = cs.toArray)
    (h1 : ∀ u ∈ cs, u.oneCell' = true) (hb : w.heap[b]? = some (.cells cur T0 (0, 0))) (hfit : o + n ≤ cur.size) :
    (storeVar T ⟨b, o, none⟩ v).run P w = .ok () (w.setRow b (setC cur.toList o cs).toArray) := by
  have h := run_storeCells_at P b o T0 cs 0 cur w hb (by omega) h1
  unfold storeVar
  rw [Sem.run_bind, hty.sizeOf]
  simp only [Result.andThen_ok, hvc]
  simp only [List.size_toArray, hl]
  simp only [setC]
  simpa using h
theorem hv_setRow_same {b : Nat} {cur cs : Array Value} {T : TypeId} {fr : Nat × Nat} (hb : w.heap[b]? = some (.cells cur T fr)) : hv (w.setRow b cs) b = some (.cells cs T fr) := setRow_heap w b cur cs T fr hb

/-- *p = v, p into a box -/
theorem E_stB (H : Hp C w ρ hs) {k : Nat} {T : TypeId} {x y : Operand} {n by_ b o : Nat} {z v : Value} {ag : Bool} {vs cs vs' : List Value} (hk : hs[k]? = some (Box b vs)) (hty : Ty P T n by_ z ag)
    (hx : ev E x = some (.pointer (some ⟨b, o, none⟩))) (hy : ev E y = some v) (hvc : v.cells = cs.toArray) (hl : cs.length = n) (h1 : ∀ u ∈ cs, u.oneCell' = true) (hfit : o + n ≤ vs.length) (hs' : setC vs o cs = vs') :
    Eff P E ⟨d, .store T x y, ty, pos, af, g⟩ w (fun _ w' => Hp C w' ρ (hs.set k (Box b vs'))) := by
  subst hs'
  obtain ⟨T0, hb⟩ := H.ok.get hk
  have hb' : w.heap[b]? = some (.cells vs.toArray T0 (0, 0)) := hb
  refine Eff.of_skip fun n a hf => ⟨w.setRow b (setC vs o cs).toArray, ?_, ?_⟩
  · have := run_stv (w := w) (cur := vs.toArray) hty hl hvc h1 hb' (by simpa using hfit)
    simp only [execOp, hf.eval hx, hf.eval hy, Instr.storeAt, Instr.sureAddr]
    simp [this]
  · exact H.upd hk rfl rfl rfl (by simp) (fun b' _ hn => setRow_other w b b' _ (by simpa [Box] using hn)) (by simp [Box]) (fun b' hb' => .inl hb')
      (fun b' hb' => by simp [Box] at hb'; subst hb'; simpa using lt_of_hv hb) ⟨T0, hv_setRow_same hb'⟩

theorem setC_part {cur cs c : List Value} {o i : Nat} (h : (cur.drop o).take cs.length = cs) (hfit : i + c.length ≤ cs.length) : ((setC cur (o + i) c).drop o).take cs.length = setC cs i c := by
  have hl : cs.length ≤ cur.length - o := by
    have := congrArg List.length h
    simp at this; omega
  apply List.ext_getElem?
  intro j
  rw [List.getElem?_take]
  have hcs : ∀ j, j < cs.length → cs[j]? = cur[o + j]? := fun j hj => by
    have : ((cur.drop o).take cs.length)[j]? = cs[j]? := by rw [h]
    rw [← this, List.getElem?_take, if_pos hj, List.getElem?_drop]
  by_cases hj : j < cs.length
  · rw [if_pos hj, List.getElem?_drop]
    unfold setC
    by_cases h1 : j < i
    · rw [List.append_assoc, List.append_assoc, List.getElem?_append_left (by simp; omega), List.getElem?_append_left (by simp; omega), List.getElem?_take, List.getElem?_take, if_pos (by omega), if_pos h1, hcs j hj]
    · by_cases h2 : j < i + c.length
      · rw [List.getElem?_append_left (by simp; omega), List.getElem?_append_right (by simp; omega), List.getElem?_append_left (by simp; omega), List.getElem?_append_right (by simp; omega)]
        congr 1
        simp; omega
      · rw [List.getElem?_append_right (by simp; omega), List.getElem?_append_right (by simp; omega), List.getElem?_drop, List.getElem?_drop]
        have e1 : i + c.length + (j - (List.take i cs ++ c).length) = j := by simp; omega
        rw [e1, hcs j hj]
        congr 1
        simp; omega
  · rw [if_neg hj, List.getElem?_eq_none]
    unfold setC
    simp; omega
theorem setC_length_le {cs c : List Value} {i : Nat} (h : i + c.length ≤ cs.length) : (setC cs i c).length = cs.length := setC_length h

/-- a store into an owned slice, j cells into the element i -/
theorem E_stA (H : Hp C w ρ hs) {k : Nat} {T : TypeId} {x y : Operand} {n m by_ b o j : Nat} {i : Int} {z v sv : Value} {ag : Bool} {cs c : List Value} (hk : hs[k]? = some (Arr sv n cs)) (hty : Ty P T m by_ z ag)
    (hi : IdxOk sv i n b o) (hx : ev E x = some (.pointer (some ⟨b, o + j, none⟩))) (hy : ev E y = some v) (hvc : v.cells = c.toArray) (hl : c.length = m) (h1 : ∀ u ∈ c, u.oneCell' = true) (hj : j + m ≤ n) :
    Eff P E ⟨d, .store T x y, ty, pos, af, g⟩ w (fun _ w' => Hp C w' ρ (hs.set k (Arr sv n (setC cs (i.toNat * n + j) c)))) := by
  obtain ⟨a0, len, cap, rfl, h0, hlt, rfl⟩ := hi
  rcases H.ok.get hk with ⟨h6, _⟩ | ⟨b', o', len', cap', cur, T0, h6, h7, h8, h9, h10, h11⟩
  · cases h6
  · injection h6 with h6 h12 h13
    injection h6 with h6
    injection h6 with h6 h14
    subst h6 h12 h13 h14
    have hb' : w.heap[b]? = some (.cells cur T0 (0, 0)) := h10
    have hlen : (i.toNat + 1) * n ≤ len * n := Nat.mul_le_mul_right _ (by omega)
    have hlen2 : len * n ≤ cap * n := Nat.mul_le_mul_right _ h8
    rw [Nat.add_mul, Nat.one_mul] at hlen
    refine Eff.of_skip fun n' a hf => ⟨w.setRow b (setC cur.toList (a0 + i.toNat * n + j) c).toArray, ?_, ?_⟩
    · have := run_stv (w := w) (o := a0 + i.toNat * n + j) hty hl hvc h1 hb' (by omega)
      simp only [execOp, hf.eval hx, hf.eval hy, Instr.storeAt, Instr.sureAddr]
      simp [this]
    · refine H.upd hk rfl rfl rfl (by simp) (fun b' _ hn => setRow_other w b b' _ (by simpa [Arr, vblk] using hn)) (by simp [Arr, vblk]) (fun b' hb' => .inl hb')
        (fun b' hb' => by simp [Arr, vblk] at hb'; subst hb'; simpa using lt_of_hv h10) (.inr ⟨b, a0, len, cap, _, T0, rfl, ?_, h8, ?_, hv_setRow_same hb', ?_⟩)
      · rw [setC_length (by omega)]; exact h7
      · simp only [List.size_toArray]; rw [setC_length (by simp; omega)]; simpa using h9
      · have e : a0 + i.toNat * n + j = a0 + (i.toNat * n + j) := by omega
        have := setC_part (i := i.toNat * n + j) (c := c) h11 (by omega)
        rw [e]
        rw [setC_length (by omega)]
        simpa using this

/-- []T{..}, all its elements given -/
theorem E_bslice (H : Hp C w ρ hs) {t e : TypeId} {xs : List Operand} {vs : List Value} {n by_ : Nat} {z : Value} {ag : Bool} {cs : List Value} (ht : P.underlying t = some (.slice e)) (hty : Ty P e n by_ z ag) (hn : 0 < n)
    (hx : evs E xs = some vs) (hsz : ∀ v ∈ vs, v.cells.size = n) (hcs : (vs.flatMap fun v => v.cells.toList) = cs) (hpos : 0 < vs.length) (hsm : vs.length * n ≤ 16777216) {len : Nat} (hlen : vs.length = len) {parts : Array (Nat × Operand)} (hparts : parts.toList = (xs.zipIdx 0).map fun x => (x.2, x.1)) :
    Eff P E ⟨d, .buildSlice t len parts, ty, pos, af, g⟩ w (fun v w' => ∃ b, v = .slice (some ⟨b, 0, none⟩) len len ∧ Hp C w' ρ (Arr (.slice (some ⟨b, 0, none⟩) len len) n cs :: hs)) := by
  obtain ⟨ie, hie, hsi, _, hz⟩ := hty.parts
  subst hsi hcs hlen
  refine Eff.of_run fun n' a hf => ⟨.slice (some ⟨w.heap.size, 0, none⟩) vs.length vs.length, w.alloc (.cells (vs.flatMap fun v => v.cells.toList).toArray e), ?_, w.heap.size, rfl, H.alloc _ rfl (.inr ⟨_, 0, vs.length, vs.length, _, e, rfl, ?_, Nat.le_refl _, ?_, hv_alloc_new w _, ?_⟩)⟩
  · have hp : (parts.map fun (i, x) => (i, a.eval x)).toList = (vs.zipIdx 0).map fun x => (x.2, x.1) := by
      have hev := hf.evals hx
      rw [Array.toList_map, hparts, List.map_map, ← hev]
      rw [List.zipIdx_map, List.map_map]
      rfl
    have := run_buildSlice (P := P) w t e vs.length (parts.map fun (i, x) => (i, a.eval x)) (vs.flatMap fun v => v.cells.toList).toArray ie z ht hie hz (by omega) (by
      have := Nat.mul_pos hpos hn; omega) (by
        rw [hp]
        exact Great.fill_whole hn vs _ hsz (by simp))
    simp only [execOp]
    simp [this]
  all_goals
    have hl : (vs.flatMap fun v => v.cells.toList).length = vs.length * ie.size := by
      clear hx hpos hsm hparts
      induction vs with
      | nil => simp
      | cons v vs ih =>
        simp only [List.flatMap_cons, List.length_append, List.length_cons, Array.length_toList, hsz v (by simp), ih (fun u hu => hsz u (by simp [hu])), Nat.add_mul]
        omega
  · exact hl
  · simp only [List.size_toArray, hl]; omega
  · rw [List.drop_zero, List.take_length]

/-- the pure make -/
def mk {α : Type} (z : α) (n : Int) : Option (List α) := if 0 ≤ n ∧ n ≤ 4294967296 then some (List.replicate n.toNat z) else none
theorem mk_some {α : Type} {z : α} {n : Int} {xs : List α} (h : mk z n = some xs) : 0 ≤ n ∧ n ≤ 4294967296 ∧ xs = List.replicate n.toNat z := by
  unfold mk at h
  split at h
  · rename_i hc; exact ⟨hc.1, hc.2, (Option.some.inj h).symm⟩
  · cases h
def repC (n : Nat) (zs : List Value) : List Value := (List.replicate n zs).flatten
theorem rdL_rep {α : Type} {e : Enc α} {z : α} {zs : List Value} (h : e.rd ρ z zs) : ∀ n, rdL e ρ (List.replicate n z) (repC n zs)
  | 0 => rfl
  | n + 1 => ⟨zs, repC n zs, by simp [repC, List.replicate_succ], h, rdL_rep h n⟩
theorem repC_length (n : Nat) (zs : List Value) : (repC n zs).length = n * zs.length := by
  induction n with
  | zero => simp [repC]
  | succ n ih => simp only [repC, List.replicate_succ, List.flatten_cons, List.length_append] at *; rw [ih, Nat.add_mul]; omega
theorem repC_get (zs : List Value) (hz : 0 < zs.length) : ∀ n j, j < n * zs.length → (repC n zs)[j]? = zs[j % zs.length]?
  | 0, j, h => by simp at h
  | n + 1, j, h => by
    have e : repC (n + 1) zs = zs ++ repC n zs := by simp [repC, List.replicate_succ]
    rw [e]
    by_cases hj : j < zs.length
    · rw [List.getElem?_append_left hj, Nat.mod_eq_of_lt hj]
    · rw [List.getElem?_append_right (by omega), repC_get zs hz n (j - zs.length) (by rw [Nat.add_mul, Nat.one_mul] at h; omega)]
      rw [Nat.mod_eq_sub_mod (a := j) (by omega)]
/-- make([]T, n) -/
theorem E_make (H : Hp C w ρ hs) {t e : TypeId} {x : Operand} {k : IntKind} {m : Int} {n by_ : Nat} {z : Value} {ag : Bool} {zs : List Value} (ht : P.underlying t = some (.slice e)) (hty : Ty P e n by_ z ag) (hz : z.cells = zs.toArray) (hzl : zs.length = n) (hn : 0 < n) (hby : by_ ≤ 32768)
    (hx : ev E x = some (.int k m)) (h0 : 0 ≤ m) (h1 : m ≤ 4294967296) :
    Eff P E ⟨d, .makeSlice t x x, ty, pos, af, g⟩ w (fun v w' => ∃ b, v = .slice (some ⟨b, 0, none⟩) m.toNat m.toNat ∧ Hp C w' ρ (Arr (.slice (some ⟨b, 0, none⟩) m.toNat m.toNat) n (repC m.toNat zs) :: hs)) := by
  obtain ⟨ie, hie, hsi, hbi, hzi⟩ := hty.parts
  subst hsi hbi
  have hb : (ie.bytes : Int) * m ≤ 281474976710656 := by
    have h2 : (ie.bytes : Int) ≤ 32768 := by omega
    have := Int.mul_le_mul h2 h1 h0 (by omega)
    omega
  have hcells : madeCells z.cells (m.toNat * ie.size) = (repC m.toNat zs).toArray := by
    apply Array.ext_getElem?
    intro j
    simp only [madeCells, hz, List.size_toArray, hzl, List.getElem?_toArray]
    by_cases hj : j < m.toNat * ie.size
    · rw [repC_get zs (by omega) _ j (by rw [hzl]; exact hj)]
      simp [hj, hzl]
      have hlt : j % ie.size < zs.length := by rw [hzl]; exact Nat.mod_lt _ hn
      simp [hlt]
    · rw [List.getElem?_eq_none (by rw [repC_length, hzl]; omega)]
      simp; omega
  refine Eff.of_run fun n' a hf => ⟨.slice (some ⟨w.heap.size, 0, none⟩) m.toNat m.toNat, w.alloc (.cells (repC m.toNat zs).toArray e), ?_, w.heap.size, rfl, H.alloc _ rfl (.inr ⟨_, 0, m.toNat, m.toNat, _, e, rfl, ?_, Nat.le_refl _, ?_, hv_alloc_new w _, ?_⟩)⟩
  · have := run_make (P := P) w t e ie z ht hie hzi k k m m h0 (Int.le_refl _) hb (by omega)
    rw [hcells] at this
    simp only [execOp, hf.eval hx]
    simp [this]
  · rw [repC_length, hzl]
  · simp [repC_length, hzl]
  · simp

/-! ### append -/
theorem set_self : ∀ {l : List Hl} {k : Nat} {x : Hl}, l[k]? = some x → l.set k x = l
  | [], _, _, h => by simp at h
  | y :: l, 0, x, h => by simp at h; subst h; rfl
  | y :: l, k + 1, x, h => by simp only [List.set_cons_succ]; rw [set_self (l := l) (by simpa using h)]
theorem run_append_roomO (w : World) (t ty e : TypeId) (i : TypeInfo) (ht : P.underlying t = some (.slice e)) (hi : P.info? e = some i)
    (b o sLen sCap : Nat) (cur : Array Value) (T0 : TypeId) (hg : w.heap[b]? = some (.cells cur T0 (0, 0)))
    (ad : Addr) (m c : Nat) (news : List Value) (hl : news.length = m * i.size) (hnews : ∀ j u, news[j]? = some u → w.cell? (ad.add j) = some u) (h1 : ∀ u ∈ news, u.oneCell' = true)
    (hroom : sLen + m ≤ sCap) (hfit : o + sCap * i.size ≤ cur.size) :
    (Builtin.append_ #[t, t] ty #[.slice (some ⟨b, o, none⟩) sLen sCap, .slice (some ad) m c]).run P w =
      .ok (.slice (some ⟨b, o, none⟩) (sLen + m) sCap) (w.setRow b (setC cur.toList (o + sLen * i.size) news).toArray) := by
  have hf := run_firstCells_some (P := P) w i.size m ad m c news hl hnews
  have hm : (sLen + m) * i.size ≤ sCap * i.size := Nat.mul_le_mul_right _ hroom
  rw [Nat.add_mul] at hm
  have hst := run_storeCells_at P b (o + sLen * i.size) T0 news 0 cur w hg (by omega) h1
  simp only [Nat.add_zero] at hst
  simp [Builtin.append_, run_underlying ht, sizeOf, typeInfo, hi, Builtin.lenOf, hroom, hf, Addr.add_none, hst, setC]
theorem run_append_noneO (w : World) (t ty e : TypeId) (i : TypeInfo) (ht : P.underlying t = some (.slice e)) (hi : P.info? e = some i) (base ad : Option Addr) (sLen sCap c : Nat) (hroom : sLen ≤ sCap) :
    (Builtin.append_ #[t, t] ty #[.slice base sLen sCap, .slice ad 0 c]).run P w = .ok (.slice base sLen sCap) w := by
  cases base <;> cases ad <;> simp [Builtin.append_, run_underlying ht, sizeOf, typeInfo, hi, Builtin.lenOf, hroom, Builtin.firstCells, storeCells, loadCells, loadCellsFrom]
/-- what is appended: m elements of n cells each -/
def Src (h : View) (x : Value) (n : Nat) (news : List Value) : Prop :=
  (∃ ad c, x = .slice ad 0 c ∧ news = []) ∨ ∃ b o m c, x = .slice (some ⟨b, o, none⟩) m c ∧ news.length = m * n ∧ cellsAt h b o news
theorem Src.ofArr {k n : Nat} {x : Value} {cs : List Value} (hok : Ok w ρ hs) (hk : hs[k]? = some (Arr x n cs)) : Src (hv w) x n cs := by
  rcases hok.get hk with ⟨rfl, rfl⟩ | ⟨b, o, len, cap, cur, T, rfl, h1, h2, h3, h4, h5⟩
  · exact .inl ⟨none, 0, rfl, rfl⟩
  · refine .inr ⟨b, o, len, cap, rfl, h1, fun j u hj => ?_⟩
    rw [← h5, List.getElem?_take] at hj
    split at hj
    · rw [List.getElem?_drop] at hj
      simp [View.cell, h4]
      simpa using hj
    · cases hj
theorem Src.ofRd {α : Type} {en : Enc α} {x : Value} {xs : List α} (hok : Ok w ρ hs) (hr : RdSl ρ en x xs) : ∃ cs, rdL en ρ xs cs ∧ Src (hv w) x en.n cs := by
  rcases hr with ⟨ad, cap, rfl, rfl⟩ | ⟨b, o, cap, cs, rfl, _, h2, h3⟩
  · exact ⟨[], rfl, .inl ⟨ad, cap, rfl, rfl⟩⟩
  · exact ⟨cs, h2, .inr ⟨b, o, _, cap, rfl, h2.len, h3.up hok.view⟩⟩
theorem E_append (H : Hp C w ρ hs) {k : Nat} {t e : TypeId} {x y : Operand} {sv xv : Value} {n by_ : Nat} {z : Value} {ag : Bool} {cs news : List Value} (hk : hs[k]? = some (Arr sv n cs)) (ht : P.underlying t = some (.slice e)) (hty : Ty P e n by_ z ag) (hzs : z.cells.size = n) (hn : 0 < n) (hby : by_ ≤ 32768)
    (hx : ev E x = some sv) (hy : ev E y = some xv) (hsrc : Src (hv w) xv n news) (h1 : ∀ u ∈ news, u.oneCell' = true) (hlen : cs.length + news.length ≤ 4294967296 * n) :
    Eff P E ⟨d, .call { callee := .builtin .append, args := #[x, y], argTypes := #[t, t] }, ty, pos, af, g⟩ w (fun v w' => Hp C w' ρ (hs.set k (Arr v n (cs ++ news))) ∧ v.cells = #[v]) := by
  obtain ⟨ie, hie, hsi, hbi, hzi⟩ := hty.parts
  subst hsi hbi
  have run : ∃ v w', (Builtin.append_ #[t, t] ty #[sv, xv]).run P w = .ok v w' ∧ Hp C w' ρ (hs.set k (Arr v ie.size (cs ++ news))) ∧ v.cells = #[v] := by
    have hP := H.ok.get hk
    rcases hsrc with ⟨ad, c, rfl, rfl⟩ | ⟨b, o, m, c, rfl, hl, hat⟩
    · refine ⟨sv, w, ?_, ?_, ?_⟩
      · rcases hP with ⟨rfl, rfl⟩ | ⟨b, o, len, cap, cur, T, rfl, h1, h2, h3, h4, h5⟩
        · exact run_append_noneO w t ty e ie ht hie none ad 0 0 c (Nat.le_refl _)
        · exact run_append_noneO w t ty e ie ht hie _ ad len cap c h2
      · simp only [List.append_nil]
        rw [set_self hk]
        exact H
      · rcases hP with ⟨rfl, rfl⟩ | ⟨b, o, len, cap, cur, T, rfl, _⟩ <;> rfl
    · have hnews : ∀ j u, news[j]? = some u → w.cell? ((⟨b, o, none⟩ : Addr).add j) = some u := fun j u hj => by rw [Addr.add_none, hv_cell]; exact hat j u hj
      rcases hP with ⟨rfl, rfl⟩ | ⟨b', o', len, cap, cur, T, rfl, hcl, hlc, hfit, hb, htake⟩
      · by_cases hm : m = 0
        · subst hm
          have : news = [] := by simpa using hl
          subst this
          refine ⟨.slice none 0 0, w, ?_, ?_, rfl⟩
          · simp [Builtin.append_, run_underlying ht, sizeOf, typeInfo, hie, Builtin.lenOf, Builtin.firstCells, loadCells, loadCellsFrom]
          · simp only [List.append_nil]
            rw [set_self hk]
            exact H
        · have hm2 : m ≤ 4294967296 := by
            simp only [List.length_nil, Nat.zero_add, hl] at hlen
            exact Nat.le_of_mul_le_mul_right hlen hn
          have hbb : m * ie.bytes ≤ 4294967296 * 32768 := Nat.mul_le_mul hm2 hby
          have hr := run_append_nil (P := P) w t ty e ie z ht hie hzi ⟨b, o, none⟩ m c news hl hnews (by omega) (by omega) (by omega)
          refine ⟨_, _, hr, ?_, rfl⟩
          have hge := grownCap_ge w m 0 e
          refine H.upd hk rfl rfl rfl (by simp) (fun b hb _ => heap_alloc_old w.drew _ hb) (by simp [Arr, vblk]) (fun b hb => .inr (by simp [Arr, vblk] at hb; omega)) (fun b hb => by simp [Arr, vblk] at hb; subst hb; simp)
            (.inr ⟨w.heap.size, 0, m, _, _, e, rfl, by simpa using hl, hge, ?_, hv_alloc_new w.drew _, ?_⟩)
          · simp only [Array.size_append, List.size_toArray, size_zeroCells, hzs, hl, ← Nat.add_mul, Nat.zero_add]
            exact Nat.mul_le_mul_right _ (by omega)
          · simp
      · have hm2 : len + m ≤ 4294967296 := by
          rw [hcl, hl, ← Nat.add_mul] at hlen
          exact Nat.le_of_mul_le_mul_right hlen hn
        have hbb : (len + m) * ie.bytes ≤ 4294967296 * 32768 := Nat.mul_le_mul hm2 hby
        by_cases hroom : len + m ≤ cap
        · have hr := run_append_roomO (P := P) w t ty e ie ht hie b' o' len cap cur T hb ⟨b, o, none⟩ m c news hl hnews h1 hroom hfit
          refine ⟨_, _, hr, ?_, rfl⟩
          have hcm : (len + m) * ie.size ≤ cap * ie.size := Nat.mul_le_mul_right _ hroom
          rw [Nat.add_mul] at hcm
          have hcur : cs.length ≤ cur.size - o' := by
            have := congrArg List.length htake
            simp at this; omega
          refine H.upd hk rfl rfl rfl (by simp) (fun b hb hn => setRow_other w b' b _ (by simpa [Arr, vblk] using hn)) (by simp [Arr, vblk]) (fun b hb => .inl hb) (fun b hb => by simp [Arr, vblk] at hb; subst hb; simpa using lt_of_hv (by assumption))
            (.inr ⟨b', o', len + m, cap, _, T, rfl, by simp [hcl, hl, Nat.add_mul], hroom, ?_, hv_setRow_same hb, ?_⟩)
          · simp only [List.size_toArray]
            rw [setC_length (by simp; omega)]
            simpa using hfit
          · simp only [setC]
            rw [← hcl, List.append_assoc, List.drop_append_of_le_length (by simp; omega), List.drop_take]
            have e1 : o' + cs.length - o' = cs.length := by omega
            rw [e1, htake, ← List.append_assoc, List.take_left]
        · have holds : ∀ j u, cs[j]? = some u → w.cell? ((⟨b', o', none⟩ : Addr).add j) = some u := fun j u hj => by
            rw [Addr.add_none, hv_cell]
            rw [← htake, List.getElem?_take] at hj
            split at hj
            · rw [List.getElem?_drop] at hj
              simp [View.cell, hb]
              simpa using hj
            · cases hj
          have hr := run_append_grow (P := P) w t ty e ie z ht hie hzi ⟨b', o', none⟩ len cap cs hcl holds ⟨b, o, none⟩ m c news hl hnews (by omega) (by omega) (growslice_fits (by omega) (by omega))
          refine ⟨_, _, hr, ?_, rfl⟩
          have hge := grownCap_ge w (len + m) cap e
          refine H.upd hk rfl rfl rfl (by simp) (fun b hb _ => heap_alloc_old w.drew _ hb) (by simp [Arr, vblk]) (fun b hb => .inr (by simp [Arr, vblk] at hb; omega)) (fun b hb => by simp [Arr, vblk] at hb; subst hb; simp)
            (.inr ⟨w.heap.size, 0, len + m, _, _, e, rfl, by simp [hcl, hl, Nat.add_mul], hge, ?_, hv_alloc_new w.drew _, ?_⟩)
          · simp only [Array.size_append, List.size_toArray, size_zeroCells, hzs, hcl, hl, ← Nat.add_mul, Nat.zero_add]
            exact Nat.mul_le_mul_right _ (by omega)
          · simp only [Array.toList_append, List.append_assoc]
            rw [List.drop_zero, ← List.append_assoc, List.take_left' rfl]
  obtain ⟨v, w', hr, hp⟩ := run
  refine Eff.of_run fun n' a hf => ⟨v, w', ?_, hp⟩
  simp only [execOp, resolve, invoke, builtin, Sem.run_bind, Sem.run_pure, Result.andThen_ok, List.map_toArray, List.map_cons, List.map_nil, hf.eval hx, hf.eval hy, hr]

/-! ### Calls -/
def HasFn (P : Program) (f : FuncId) : Prop := ∃ fn c, P.funcs[f]? = some fn ∧ (fn.name == "runtime.NumGoroutine") = false ∧ fn.body = some c
theorem HasFn.enter {f : FuncId} (h : HasFn P f) (args : Array Value) (w : World) : (callFunc f args).run P w = .ok (.enter f args) w := by
  obtain ⟨fn, c, hf, hn, hb⟩ := h
  have hn' : fn.name ≠ "runtime.NumGoroutine" := by simpa using hn
  simp [callFunc, hf, hn', hb]
theorem E_call {f : FuncId} {xs : List Operand} {vs : List Value} {ats : Array TypeId} {post : Value → World → Prop} (hfn : HasFn P f) (hx : evs E xs = some vs) (hc : Calls P f vs.toArray w (Rets post)) :
    Eff P E ⟨d, .call { callee := .value (.func f), args := xs.toArray, argTypes := ats }, ty, pos, af, g⟩ w post := fun n a hf K Q hk => by
  have hr : (execOp a.eval ⟨d, .call { callee := .value (.func f), args := xs.toArray, argTypes := ats }, ty, pos, af, g⟩).run P w = .ok (.enter f vs.toArray) w := by
    have hev := hf.evals hx
    simp only [execOp, resolve, Act.eval, Deferred.ofValue, List.map_toArray, hev, Sem.run_bind, Sem.run_pure, Result.andThen_ok, invoke, Array.append_empty, Array.empty_append, hfn.enter]
  unfold Oper.wp
  rw [hr]
  refine hc.mono fun e w' he => ?_
  obtain ⟨v, rfl, hp⟩ := he
  exact hk v w' hp
/-- a call of a function value whose function is known -/
theorem E_callV {f : FuncId} {x : Operand} {xs : List Operand} {vs cap : List Value} {ats : Array TypeId} {post : Value → World → Prop} (hfn : HasFn P f) (hv' : ev E x = some (.func (.func f) #[] cap.toArray)) (hx : evs E xs = some vs) (hc : Calls P f (vs ++ cap).toArray w (Rets post)) :
    Eff P E ⟨d, .call { callee := .value x, args := xs.toArray, argTypes := ats }, ty, pos, af, g⟩ w post := fun n a hf K Q hk => by
  have hr : (execOp a.eval ⟨d, .call { callee := .value x, args := xs.toArray, argTypes := ats }, ty, pos, af, g⟩).run P w = .ok (.enter f (vs ++ cap).toArray) w := by
    have hev := hf.evals hx
    have he := hf.eval hv'
    simp only [execOp, resolve, he, Deferred.ofValue, List.map_toArray, hev, Sem.run_bind, Sem.run_pure, Result.andThen_ok, invoke, hfn.enter, List.append_toArray, List.nil_append]
  unfold Oper.wp
  rw [hr]
  refine hc.mono fun e w' he => ?_
  obtain ⟨v, rfl, hp⟩ := he
  exact hk v w' hp
end
end Go.Eng
