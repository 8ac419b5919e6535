/-
  MY ENGINE, part O: maps; strings of bytes.
-/
import Derived.Test.YteiaphkejkgfkaaDoorEngN
import Derived.MapKept
import Derived.Laws.BytesString
namespace Go.Eng
open Go
/-! ### The pure maps: lists of pairs, a key once -/
def mget {α β : Type} [BEq α] (m : List (α × β)) (k : α) : Option β := (m.find? fun e => e.1 == k).map (·.2)
def mset {α β : Type} [BEq α] (m : List (α × β)) (k : α) (v : β) : List (α × β) :=
  match m.findIdx? fun e => e.1 == k with
  | some i => m.modify i fun _ => (k, v)
  | none => m ++ [(k, v)]
/-- how keys are laid -/
structure KE (α : Type) where
  kv : α → Value
  ok : α → Prop
def kI (k : IntKind) : KE Int := ⟨.int k, fun _ => True⟩
def kA (N : Nat) (k : IntKind) : KE (List Int) := ⟨fun xs => .agg (xs.map (.int k)).toArray, fun xs => xs.length = N⟩
def kS : KE ByteArray := ⟨.string, fun _ => True⟩
/-- what a map's key type owes -/
structure KOk {α : Type} [BEq α] (P : Program) (t : TypeId) (K : KE α) : Prop where
  law : ∀ a b : α, (a == b) = true ↔ a = b
  chk : ∀ (e : Bool) (a : α) (w : World), K.ok a → (Instr.checkKey e 10000 t (K.kv a)).run P w = .ok () w
  stays : ∀ a : α, Instr.sameBits 10000 (K.kv a) (K.kv a) = true
  fnd : ∀ (a : α) (l : List (α × Value)) (es : List MapEntry) (w : World), K.ok a → (∀ e ∈ l, K.ok e.1) → es.map (fun e => (e.key, e.val)) = l.map (fun e => (K.kv e.1, e.2)) →
    (Instr.findKey t (K.kv a) es).run P w = .ok ((l.findIdx? fun e => e.1 == a).bind fun i => (l[i]?).map fun e => (i, e.2)) w
section
variable {P : Program} {t : TypeId}
theorem findNow_gen {α : Type} [BEq α] {d : TypeDesc} {kv : α → Value} (h : ∀ a b : α, Instr.sameNow d (kv a) (kv b) = some (b == a)) (a : α) : ∀ (l : List (α × Value)) (es : List MapEntry) (i : Nat), es.map (fun e => (e.key, e.val)) = l.map (fun e => (kv e.1, e.2)) →
    Instr.findNow d (kv a) es i = some ((l.findIdx? fun e => e.1 == a).bind fun j => (l[j]?).map fun e => (i + j, e.2))
  | [], [], i, _ => rfl
  | [], _ :: _, i, he => by simp at he
  | _ :: _, [], i, he => by simp at he
  | x :: l, e :: es, i, he => by
    simp only [List.map_cons, List.cons.injEq, Prod.mk.injEq] at he
    obtain ⟨⟨h1, h2⟩, h3⟩ := he
    rw [Instr.findNow, h1, h a x.1]
    cases hx : x.1 == a with
    | true => simp [List.findIdx?_cons, hx, h2]
    | false =>
      simp only [List.findIdx?_cons, hx]
      rw [findNow_gen h a l es (i + 1) h3]
      cases l.findIdx? fun e => e.1 == a with
      | none => rfl
      | some j => simp [show i + 1 + j = i + (j + 1) by omega]
theorem chk_I {k : IntKind} (ht : P.underlying t = some (.int k)) (em : Bool) (D : Nat) (k' : IntKind) (a : Int) (w : World) : (Instr.checkKey em (D + 1) t (.int k' a)).run P w = .ok () w := by simp [Instr.checkKey, run_underlying ht]
theorem chk_S (ht : P.underlying t = some .string) (em : Bool) (D : Nat) (a : ByteArray) (w : World) : (Instr.checkKey em (D + 1) t (.string a)).run P w = .ok () w := by simp [Instr.checkKey, run_underlying ht]
theorem sb_I (D : Nat) (k : IntKind) (a : Int) : Instr.sameBits D (.int k a) (.int k a) = true := by cases D <;> simp [Instr.sameBits]
theorem ba_refl (a : ByteArray) : (a == a) = true := by
  obtain ⟨d⟩ := a
  exact (beq_self_eq_true d : (d == d) = true)
theorem ba_law (a b : ByteArray) : (a == b) = true ↔ a = b := by
  constructor
  · intro h
    obtain ⟨a⟩ := a
    obtain ⟨b⟩ := b
    have : (a == b) = true := h
    rw [beq_iff_eq] at this
    rw [this]
  · rintro rfl
    exact ba_refl a
theorem sb_S (D : Nat) (a : ByteArray) : Instr.sameBits D (.string a) (.string a) = true := by
  have := ba_refl a
  cases D <;> simp [Instr.sameBits, this]
theorem kOk_I {k : IntKind} (ht : P.underlying t = some (.int k)) : KOk P t (kI k) where
  law a b := by simp
  chk e a w _ := chk_I ht e 9999 k a w
  stays a := sb_I 10000 k a
  fnd a l es w _ _ he := by
    have := findNow_gen (d := .int k) (kv := Value.int k) (fun a b => by simp [Instr.sameNow]; exact Bool.beq_comm ..) a l es 0 he
    simp [kI, Instr.findKey, run_underlying ht, this]
theorem kOk_S (ht : P.underlying t = some .string) : KOk P t kS where
  law := ba_law
  chk e a w _ := chk_S ht e 9999 a w
  stays a := sb_S 10000 a
  fnd a l es w _ _ he := by
    have := findNow_gen (d := .string) (kv := Value.string) (fun a b => by simp only [Instr.sameNow, Option.some.injEq]; rw [Bool.eq_iff_iff, ba_law, ba_law]; exact eq_comm) a l es 0 he
    simp [kS, Instr.findKey, run_underlying ht, this]
theorem findAsking_gen {α : Type} [BEq α] {kv : α → Value} {ok : α → Prop} (h : ∀ (a b : α) (w : World), ok a → ok b → (Op.equal t (kv a) (kv b)).run P w = .ok (b == a) w) (a : α) (ha : ok a) (w : World) : ∀ (l : List (α × Value)) (es : List MapEntry) (i : Nat), (∀ e ∈ l, ok e.1) → es.map (fun e => (e.key, e.val)) = l.map (fun e => (kv e.1, e.2)) →
    (Instr.findAsking t (kv a) es i).run P w = .ok ((l.findIdx? fun e => e.1 == a).bind fun j => (l[j]?).map fun e => (i + j, e.2)) w
  | [], [], i, _, _ => rfl
  | [], _ :: _, i, _, he => by simp at he
  | _ :: _, [], i, _, he => by simp at he
  | x :: l, e :: es, i, hok, he => by
    simp only [List.map_cons, List.cons.injEq, Prod.mk.injEq] at he
    obtain ⟨⟨h1, h2⟩, h3⟩ := he
    rw [Instr.findAsking, h1, Sem.run_bind, h a x.1 w ha (hok x (by simp))]
    simp only [Result.andThen_ok]
    cases hx : x.1 == a with
    | true => simp [List.findIdx?_cons, hx, h2]
    | false =>
      simp only [List.findIdx?_cons, hx]
      simp only [Bool.false_eq_true, if_false]
      rw [findAsking_gen h a ha w l es (i + 1) (fun e he => hok e (by simp [he])) h3]
      cases l.findIdx? fun e => e.1 == a with
      | none => rfl
      | some j => simp; congr 1; funext _; congr 1; omega
theorem run_forOk {w : World} (f : Nat → PUnit → Sem (ForInStep PUnit)) {N : Nat} (hf : ∀ i s, i < N → (f i s).run P w = .ok (.yield ⟨⟩) w) : ∀ m i, i + m = N → (forIn (m := Sem) (List.range' i m) PUnit.unit f).run P w = .ok ⟨⟩ w
  | 0, i, _ => by simp
  | m + 1, i, h => by
    rw [List.range'_succ, List.forIn_cons, Sem.run_bind, hf i _ (by omega)]
    simp only [Result.andThen_ok]
    exact run_forOk f hf m (i + 1) (by omega)
theorem kOk_A {e : TypeId} {N by_ : Nat} {z : Value} {k k' : IntKind} (ht : P.underlying t = some (.array N e)) (hty : Ty P e 1 by_ z false) (hu : P.underlying e = some (.int k')) : KOk P t (kA N k) where
  law a b := by simp
  chk em a w ha := by
    have hl : a.length = N := ha
    show (Instr.checkKey em (9998 + 1 + 1) t (.agg (a.map (.int k)).toArray)).run P w = .ok () w
    generalize 9998 = D at *
    have hp : ∀ (i : Nat) (x : Int), a[i]? = some x → (part e (a.map (Value.int k)).toArray i).run P w = .ok (.int k x) w := by
      intro i x hx
      unfold part
      rw [Sem.run_bind, hty.isAgg]
      simp [hx]
    simp only [Instr.checkKey, Sem.run_bind, run_underlying ht, Result.andThen_ok]
    simp
    rw [run_forOk (P := P) (w := w) (N := N) _ (fun i s hi => ?_) N 0 (by omega)]
    · rfl
    have hx : a[i]? = some (a[i]'(by omega)) := List.getElem?_eq_getElem (by omega)
    simp only [Sem.run_bind, hty.sizeOf, Result.andThen_ok, Nat.mul_one, hp i _ hx]
    simp [run_underlying hu]
  stays a := by
    simp only [kA, Instr.sameBits]
    simp
    have key : ∀ l : List Int, ∀ x ∈ (l.map (Value.int k)).zip (l.map (Value.int k)), Instr.sameBits 9999 x.1 x.2 = true := by
      intro l x hx
      rw [List.zip_map', List.mem_map] at hx
      obtain ⟨y, _, rfl⟩ := hx
      simp [Instr.sameBits]
    intro x y hxy
    exact key a (x, y) hxy
  fnd a l es w ha hok he := by
    have hq := findAsking_gen (P := P) (t := t) (kv := (kA N k).kv) (ok := (kA N k).ok) (fun a b w ha hb => by
      have := run_eqInts (P := P) (w := w) (k := k) ht hty hu ha hb 9998
      have e : (b == a) = (a == b) := Bool.beq_comm
      rw [e]
      simpa [Op.equal, Op.maxDepth, kA] using this) a ha w l es 0 hok he
    have hn : Instr.findNow (.array N e) ((kA N k).kv a) es 0 = none ∨ es = [] := by
      cases es with
      | nil => exact .inr rfl
      | cons x es => left; simp [Instr.findNow, Instr.sameNow]
    unfold Instr.findKey
    rw [Sem.run_bind, run_underlying ht]
    simp only [Result.andThen_ok]
    rcases hn with hn | rfl
    · rw [hn]
      simp only
      rw [hq]
      simp
    · have : l = [] := by cases l with | nil => rfl | cons => simp at he
      subst this
      simp [Instr.findNow]
end
/-- the map at r holds what m says -/
def Mp {α β : Type} (K : KE α) (vv : β → Value) (r : Nat) (m : List (α × β)) : Hl where
  fp := [r]
  P h := (∃ es clock, h r = some (.map es clock) ∧ es.toList.map (fun e => (e.key, e.val)) = m.map (fun e => (K.kv e.1, vv e.2))) ∧ ∀ e ∈ m, K.ok e.1
  loc he hp := by obtain ⟨⟨es, c, h1, h2⟩, h3⟩ := hp; exact ⟨⟨es, c, (he _ (by simp)).symm.trans h1, h2⟩, h3⟩
theorem findIdx_map {α β γ : Type} (f : β → γ) (p : α → Bool) : ∀ (m : List (α × β)), ((m.map fun e => (e.1, f e.2)).findIdx? fun e => p e.1) = m.findIdx? fun e => p e.1
  | [] => rfl
  | x :: m => by simp [List.findIdx?_cons, findIdx_map f p m]
theorem find_of_idx {α : Type} {p : α → Bool} : ∀ {l : List α}, l.find? p = (l.findIdx? p).bind fun i => l[i]?
  | [] => rfl
  | x :: l => by
    rw [List.find?_cons, List.findIdx?_cons]
    cases p x with
    | true => rfl
    | false => simp [find_of_idx (p := p) (l := l)]; cases l.findIdx? p <;> rfl
section
variable {P : Program} {E : Env} {w : World} {C : Cx} {ρ : View} {hs : List Hl} {d : Option Tmp} {ty : TypeId} {pos : String} {af : Array Edge} {g : Option (Nat × Bool)}
variable {α β : Type} {K : KE α} {vv : β → Value}
/-- len(m) -/
theorem Q_lenM {mt kt vt : TypeId} {x : Operand} {k r : Nat} {m : List (α × β)} (hok : Ok w ρ hs) (hk : hs[k]? = some (Mp K vv r m)) (hm : P.underlying mt = some (.map kt vt)) (hx : ev E x = some (.map (some r))) :
    Qv P E ⟨d, .call { callee := .builtin .len, args := #[x], argTypes := #[mt] }, ty, pos, af, g⟩ (.int .i64 m.length) w := fun n a hf => by
  obtain ⟨⟨es, clock, h1, h2⟩, h3⟩ := hok.get hk
  have h4 : w.heap[r]? = some (.map es clock) := h1
  have hl : es.size = m.length := by
    have := congrArg List.length h2
    simpa using this
  simp [execOp, resolve, invoke, builtin, Builtin.len_, run_underlying hm, hf.eval hx, MapKept.run_getObj_map h4, goInt, hl]
/-- map[K]V{} -/
theorem E_makeMap (K : KE α) (vv : β → Value) (H : Hp C w ρ hs) {mt : TypeId} : Eff P E ⟨d, .makeMap mt none, ty, pos, af, g⟩ w (fun v w' => ∃ r, v = .map (some r) ∧ Hp C w' ρ (Mp K vv r ([] : List (α × β)) :: hs)) :=
  Eff.of_run fun n a hf => ⟨_, _, by
    simp only [execOp, Instr.makeMap, Sem.run_bind, Option.map_none, run_newObj_alloc, Result.andThen_ok, Sem.run_pure], w.heap.size, rfl, H.alloc _ rfl ⟨⟨#[], 0, hv_alloc_new w _, by simp⟩, by simp⟩⟩
theorem Hp.mset {k r : Nat} {m m' : List (α × β)} {w' : World} (H : Hp C w ρ hs) (hk : hs[k]? = some (Mp K vv r m)) (h1 : w'.os = w.os) (h2 : w'.tape = w.tape) (h3 : w'.output = w.output) (h4 : w'.heap.size = w.heap.size)
    (h5 : ∀ b', b' ≠ r → w'.heap[b']? = w.heap[b']?) (h6 : (Mp K vv r m').P (hv w')) : Hp C w' ρ (hs.set k (Mp K vv r m')) :=
  H.upd hk h1 h2 h3 (by omega) (fun b' _ hn => h5 b' (by simpa [Mp] using hn)) (by simp [Mp]) (fun b' hb => .inl hb) (fun b' hb => by
    have := H.lt b' (mem_fps.2 ⟨_, List.mem_of_getElem? hk, hb⟩)
    omega) h6
section
variable [BEq α]
theorem Mp.find {r : Nat} {m : List (α × β)} {kt : TypeId} (hK : KOk P kt K) (hp : (Mp K vv r m).P (hv w)) (a : α) (ha : K.ok a) :
    ∃ es clock, w.heap[r]? = some (.map es clock) ∧ es.toList.map (fun e => (e.key, e.val)) = m.map (fun e => (K.kv e.1, vv e.2)) ∧ (Instr.findKey kt (K.kv a) es.toList).run P w = .ok ((m.findIdx? fun e => e.1 == a).bind fun i => (m[i]?).map fun e => (i, vv e.2)) w := by
  obtain ⟨⟨es, clock, h1, h2⟩, h3⟩ := hp
  refine ⟨es, clock, h1, h2, ?_⟩
  have := hK.fnd a (m.map fun e => (e.1, vv e.2)) es.toList w ha (fun e he => by
    obtain ⟨x, hx, rfl⟩ := List.mem_map.1 he
    exact h3 x hx) (by rw [h2, List.map_map]; rfl)
  rw [this, findIdx_map vv fun x => x == a]
  congr 1
  cases m.findIdx? fun e => e.1 == a with
  | none => rfl
  | some i => simp [Function.comp_def]
/-- m[k], and whether it is there -/
theorem Q_look {mt kt vt : TypeId} {x y : Operand} {k r : Nat} {m : List (α × β)} {a : α} {n by_ : Nat} {z : Value} {ag : Bool} {zp : β} (hok : Ok w ρ hs) (hk : hs[k]? = some (Mp K vv r m)) (hm : P.underlying mt = some (.map kt vt)) (hK : KOk P kt K) (ha : K.ok a)
    (hty : Ty P vt n by_ z ag) (hz : vv zp = z) (hx : ev E x = some (.map (some r))) (hy : ev E y = some (K.kv a)) :
    Qv P E ⟨d, .lookup mt x y true, ty, pos, af, g⟩ (.tuple [vv ((mget m a).getD zp), .bool (mget m a).isSome].toArray) w := fun n' ac hf => by
  obtain ⟨es, clock, h1, h2, h3⟩ := Mp.find hK (hok.get hk) a ha
  have h4 := hK.chk es.isEmpty a w ha
  have h5 : (m.find? fun e => e.1 == a) = _ := find_of_idx
  simp only [execOp, hf.eval hx, hf.eval hy, Instr.lookup, Sem.run_bind, run_underlying hm, Result.andThen_ok, MapKept.run_getObj_map h1, h4, h3, Sem.run_pure]
  unfold mget
  rw [h5]
  cases hi : m.findIdx? fun e => e.1 == a with
  | none => simp [hty.zeroValue, hz]
  | some i =>
    have hlt : i < m.length := (List.findIdx?_eq_some_iff_getElem.1 hi).1
    simp [List.getElem?_eq_getElem hlt]
theorem Q_look1 {mt kt vt : TypeId} {x y : Operand} {k r : Nat} {m : List (α × β)} {a : α} {n by_ : Nat} {z : Value} {ag : Bool} {zp : β} (hok : Ok w ρ hs) (hk : hs[k]? = some (Mp K vv r m)) (hm : P.underlying mt = some (.map kt vt)) (hK : KOk P kt K) (ha : K.ok a)
    (hty : Ty P vt n by_ z ag) (hz : vv zp = z) (hx : ev E x = some (.map (some r))) (hy : ev E y = some (K.kv a)) :
    Qv P E ⟨d, .lookup mt x y false, ty, pos, af, g⟩ (vv ((mget m a).getD zp)) w := fun n' ac hf => by
  obtain ⟨es, clock, h1, h2, h3⟩ := Mp.find hK (hok.get hk) a ha
  have h4 := hK.chk es.isEmpty a w ha
  have h5 : (m.find? fun e => e.1 == a) = _ := find_of_idx
  simp only [execOp, hf.eval hx, hf.eval hy, Instr.lookup, Sem.run_bind, run_underlying hm, Result.andThen_ok, MapKept.run_getObj_map h1, h4, h3, Sem.run_pure]
  unfold mget
  rw [h5]
  cases hi : m.findIdx? fun e => e.1 == a with
  | none => simp [hty.zeroValue, hz]
  | some i =>
    have hlt : i < m.length := (List.findIdx?_eq_some_iff_getElem.1 hi).1
    simp [List.getElem?_eq_getElem hlt]
theorem run_mset {mt kt vt : TypeId} {r : Nat} {m : List (α × β)} {a : α} {b : β} (hm : P.underlying mt = some (.map kt vt)) (hK : KOk P kt K) (ha : K.ok a) (hp : (Mp K vv r m).P (hv w)) :
    ∃ w', (Instr.mapUpdate mt (.map (some r)) (K.kv a) (vv b)).run P w = .ok () w' ∧ w'.os = w.os ∧ w'.tape = w.tape ∧ w'.output = w.output ∧ w'.heap.size = w.heap.size ∧ (∀ b', b' ≠ r → w'.heap[b']? = w.heap[b']?) ∧ (Mp K vv r (mset m a b)).P (hv w') := by
  obtain ⟨es, clock, h1, h2, h3⟩ := Mp.find hK hp a ha
  have hmok := hp.2
  have h4 := hK.chk false a w ha
  have hlt : r < w.heap.size := (Array.getElem?_eq_some_iff.1 h1).1
  have hset : ∀ o : Obj, (setObj r o).run P w = .ok () { w with heap := w.heap.setIfInBounds r o } := fun o => MapKept.run_setObj_map o h1
  unfold mset
  cases hi : m.findIdx? fun e => e.1 == a with
  | none =>
    rw [hi] at h3
    refine ⟨{ w with heap := w.heap.setIfInBounds r (.map (es.push { key := K.kv a, val := vv b, born := clock }) (clock + 1)) }, ?_, rfl, rfl, rfl, by simp, fun b' hb => by simp [Array.getElem?_setIfInBounds_ne (Ne.symm hb)], ⟨es.push { key := K.kv a, val := vv b, born := clock }, clock + 1, by simp [hv, hlt], ?_⟩, ?_⟩
    · simp only [Instr.mapUpdate, Sem.run_bind, run_underlying hm, Result.andThen_ok, MapKept.run_getObj_map h1, h4, h3, Option.bind_none]
      exact hset _
    · simp [h2]
    · intro e he
      rcases List.mem_append.1 he with he | he
      · exact hmok e he
      · simp at he; subst he; exact ha
  | some i =>
    rw [hi] at h3
    obtain ⟨hil, hia, _⟩ := List.findIdx?_eq_some_iff_getElem.1 hi
    have hsz : es.size = m.length := by
      have := congrArg List.length h2
      simpa using this
    have hkey : (es[i]?).map (·.key) = some (K.kv a) := by
      have h5 := congrArg (fun l : List (Value × Value) => (l[i]?).map (·.1)) h2
      have h6 : (m[i]).1 = a := (hK.law _ _).1 hia
      simp [List.getElem?_eq_getElem hil, h6] at h5
      have h7 : i < es.size := by omega
      simp [h7] at h5 ⊢
      exact h5
    have hst : (Instr.keyThatStays (K.kv a) (K.kv a)).run P w = .ok (K.kv a) w := by simp [Instr.keyThatStays, hK.stays]
    refine ⟨{ w with heap := w.heap.setIfInBounds r (.map (es.modify i fun e => { e with key := K.kv a, val := vv b }) clock) }, ?_, rfl, rfl, rfl, by simp, fun b' hb => by simp [Array.getElem?_setIfInBounds_ne (Ne.symm hb)], ⟨es.modify i fun e => { e with key := K.kv a, val := vv b }, clock, by simp [hv, hlt], ?_⟩, ?_⟩
    · simp only [Instr.mapUpdate, Sem.run_bind, run_underlying hm, Result.andThen_ok, MapKept.run_getObj_map h1, h4, h3, Option.bind_some, List.getElem?_eq_getElem hil, Option.map_some, hkey, Option.getD_some, hst]
      exact hset _
    · apply List.ext_getElem?
      intro j
      have h5 := congrArg (fun l : List (Value × Value) => l[j]?) h2
      simp only [List.getElem?_map, Array.getElem?_toList] at h5
      simp only [Array.toList_modify, List.getElem?_map, List.getElem?_modify, Array.getElem?_toList]
      by_cases hj : i = j
      · subst hj
        have h7 : i < es.size := by omega
        simp [List.getElem?_eq_getElem hil, h7]
      · simp [hj]
        cases hej : es[j]? <;> cases hmj : m[j]? <;> simp_all
    · intro e he
      obtain ⟨j, hj⟩ := List.mem_iff_getElem?.1 he
      rw [List.getElem?_modify] at hj
      by_cases hij : i = j
      · subst hij
        simp [List.getElem?_eq_getElem hil] at hj
        subst hj; exact ha
      · simp [hij] at hj
        exact hmok e (List.mem_of_getElem? hj)
/-- m[k] = v -/
theorem E_mset {mt kt vt : TypeId} {x y u : Operand} {k r : Nat} {m : List (α × β)} {a : α} {b : β} (H : Hp C w ρ hs) (hk : hs[k]? = some (Mp K vv r m)) (hm : P.underlying mt = some (.map kt vt)) (hK : KOk P kt K) (ha : K.ok a)
    (hx : ev E x = some (.map (some r))) (hy : ev E y = some (K.kv a)) (hu : ev E u = some (vv b)) : Eff P E ⟨d, .mapUpdate mt x y u, ty, pos, af, g⟩ w (fun _ w' => Hp C w' ρ (hs.set k (Mp K vv r (mset m a b)))) := by
  obtain ⟨w', hr, h1, h2, h3, h4, h5, h6⟩ := run_mset (P := P) (b := b) hm hK ha (H.ok.get hk)
  refine Eff.of_skip fun n ac hf => ⟨w', ?_, H.mset hk h1 h2 h3 h4 h5 h6⟩
  simp [execOp, hf.eval hx, hf.eval hy, hf.eval hu, hr]
theorem E_minsert {mt kt vt : TypeId} {x y u : Operand} {k r : Nat} {m : List (α × β)} {a : α} {b : β} (H : Hp C w ρ hs) (hk : hs[k]? = some (Mp K vv r m)) (hm : P.underlying mt = some (.map kt vt)) (hK : KOk P kt K) (ha : K.ok a)
    (hx : ev E x = some (.map (some r))) (hy : ev E y = some (K.kv a)) (hu : ev E u = some (vv b)) : Eff P E ⟨d, .insert mt x y u, ty, pos, af, g⟩ w (fun _ w' => Hp C w' ρ (hs.set k (Mp K vv r (mset m a b)))) := by
  obtain ⟨w', hr, h1, h2, h3, h4, h5, h6⟩ := run_mset (P := P) (b := b) hm hK ha (H.ok.get hk)
  refine Eff.of_skip fun n ac hf => ⟨w', ?_, H.mset hk h1 h2 h3 h4 h5 h6⟩
  simp [execOp, hf.eval hx, hf.eval hy, hf.eval hu, hr]
end
end
/-! ### string(bytes) -/
def bstr (xs : List Int) : ByteArray := xs.foldl (fun r n => r.push (UInt8.ofNat n.toNat)) ByteArray.empty
section
variable {P : Program} {E : Env} {w : World} {C : Cx} {ρ : View} {hs : List Hl} {d : Option Tmp} {ty : TypeId} {pos : String} {af : Array Edge} {g : Option (Nat × Bool)}
theorem run_bstr {xs : List Int} {v : Value} {cs : List Value} (hr : rdL (eI .u8) ρ xs cs) (hs : Src (hv w) v 1 cs) (hl : ∃ o c, v = .slice o xs.length c) : (Conv.bytesToString v).run P w = .ok (.string (bstr xs)) w := by
  obtain rfl := rdL_ints_eq hr
  obtain ⟨o, c, rfl⟩ := hl
  rcases hs with ⟨ad, c', h1, h2⟩ | ⟨b, o', m, c', h1, h2, h3⟩
  · injection h1 with h1 h3 h4
    have : xs = [] := List.eq_nil_of_length_eq_zero h3
    subst this h1
    cases o with
    | none => simp [Conv.bytesToString, bstr]
    | some a =>
      have hld : (loadCells a 0).run P w = .ok (([] : List Int).map (Value.int .u8)).toArray w := by simp [loadCells, loadCellsFrom]
      exact run_bytesToString w a 0 c [] hld
  · injection h1 with h1 h4 h5
    subst h1
    have hld : (loadCells ⟨b, o', none⟩ xs.length).run P w = .ok (xs.map (Value.int .u8)).toArray w := by
      have := run_loadCells_list (P := P) w ⟨b, o', none⟩ (xs.map (Value.int .u8)) (fun j u hj => by rw [Addr.add_none, hv_cell]; exact h3 j u hj)
      simpa using this
    exact run_bytesToString w _ _ c xs hld
theorem E_bstr {s t e : TypeId} {x : Operand} {xs : List Int} {v : Value} {cs : List Value} (hs' : P.underlying s = some (.slice e)) (he : P.underlying e = some (.int .u8)) (ht : P.underlying t = some .string) (hx : ev E x = some v)
    (hr : rdL (eI .u8) ρ xs cs) (hsr : Src (hv w) v 1 cs) (hl : ∃ o c, v = .slice o xs.length c) : Eff P E ⟨d, .convert s t x, ty, pos, af, g⟩ w (fun u w' => u = .string (bstr xs) ∧ w' = w) := by
  refine Eff.of_run fun n a hf => ⟨.string (bstr xs), w, ?_, rfl, rfl⟩
  obtain ⟨o, c, rfl⟩ := hl
  simp only [execOp, hf.eval hx]
  have := run_bstr (P := P) hr hsr ⟨o, c, rfl⟩
  simp [run_convert_bytes_string w s t e o xs.length c hs' he ht, this]
theorem E_bstrR {s t e : TypeId} {x : Operand} {xs : List Int} {v : Value} (H : Hp C w ρ hs) (hs' : P.underlying s = some (.slice e)) (he : P.underlying e = some (.int .u8)) (ht : P.underlying t = some .string) (hx : ev E x = some v) (hr : RdSl ρ (eI .u8) v xs) :
    Eff P E ⟨d, .convert s t x, ty, pos, af, g⟩ w (fun u w' => u = .string (bstr xs) ∧ w' = w) := by
  obtain ⟨cs, h1, h2⟩ := Src.ofRd H.ok hr
  refine E_bstr hs' he ht hx h1 h2 ?_
  rcases hr with ⟨ad, cap, rfl, rfl⟩ | ⟨b, o, cap, cs, rfl, _⟩
  · exact ⟨_, _, rfl⟩
  · exact ⟨_, _, rfl⟩
theorem E_bstrA {s t e : TypeId} {x : Operand} {xs : List Int} {v : Value} {k : Nat} {cs : List Value} (H : Hp C w ρ hs) (hk : hs[k]? = some (Arr v 1 cs)) (hr : rdL (eI .u8) ρ xs cs) (hs' : P.underlying s = some (.slice e)) (he : P.underlying e = some (.int .u8)) (ht : P.underlying t = some .string) (hx : ev E x = some v) :
    Eff P E ⟨d, .convert s t x, ty, pos, af, g⟩ w (fun u w' => u = .string (bstr xs) ∧ w' = w) :=
  E_bstr hs' he ht hx hr (Src.ofArr H.ok hk) (arr_len (en := eI .u8) (by decide) (H.ok.get hk) hr)
theorem Q_eqlStr {t t' : TypeId} {x y : Operand} {a b : ByteArray} (ht : P.underlying t = some .string) (hx : ev E x = some (.string a)) (hy : ev E y = some (.string b)) : Qv P E ⟨d, .binOp .eql t x y t', ty, pos, af, g⟩ (.bool (a.toList == b.toList)) w := fun n ac hf => by
  simp [execOp, hf.eval hx, hf.eval hy, eqGuard, binOp, Op.stringOp]
theorem Q_neqStr {t t' : TypeId} {x y : Operand} {a b : ByteArray} (ht : P.underlying t = some .string) (hx : ev E x = some (.string a)) (hy : ev E y = some (.string b)) : Qv P E ⟨d, .binOp .neq t x y t', ty, pos, af, g⟩ (.bool (a.toList != b.toList)) w := fun n ac hf => by
  simp [execOp, hf.eval hx, hf.eval hy, eqGuard, binOp, Op.stringOp, bne]
/-- T{..} of an array type -/
theorem Q_buildA {T e : TypeId} {N m by_ n by' : Nat} {z z' : Value} {zs res : List Value} {ag : Bool} {parts : List (Nat × Operand)} {vs : List (Nat × Value)} (hty : Ty P T m by_ z true) (hz : z.cells = zs.toArray) (ht : P.underlying T = some (.array N e)) (hte : Ty P e n by' z' ag)
    (hvs : evP E parts = some vs) (hfill : Instr.fill (fun i => some (i * n, n)) zs.toArray vs = some res.toArray) : Qv P E ⟨d, .build T parts.toArray, ty, pos, af, g⟩ (.agg res.toArray) w := fun k a hf => by
  have hev := hf.evalP hvs
  have e1 : (parts.toArray.map fun (i, x) => (i, a.eval x)) = vs.toArray := by rw [← hev]; simp
  simp only [execOp, e1]
  simp [Instr.build, hty.zeroValue, run_underlying ht, hte.sizeOf, hz, hfill]
theorem kA_ev {N : Nat} {k : IntKind} {xs : List Int} {cs : List Value} {y : Operand} (hr : rdL (eI k) ρ xs cs) (h : ev E y = some (.agg cs.toArray)) : ev E y = some ((kA N k).kv xs) := by
  obtain rfl := rdL_ints_eq hr
  exact h
end
end Go.Eng
