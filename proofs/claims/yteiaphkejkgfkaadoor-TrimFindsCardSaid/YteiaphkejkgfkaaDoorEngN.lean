/-
  MY ENGINE, part N: cuts of what is owned; division by what is not 0; views that grow; parts of elements.
-/
import Derived.Test.YteiaphkejkgfkaaDoorEngL
namespace Go.Eng
open Go
theorem cellsAt.cg {ρ : View} {b o : Nat} {cs cs' : List Value} (e : cs = cs') (h : cellsAt ρ b o cs) : cellsAt ρ b o cs' := e ▸ h
theorem cat2 {c a b a' b' : List Value} (h : c = a ++ b) (ha : a = a') (hb : b = b') : c = a' ++ b' := by subst ha hb; exact h
/-- not 0 -/
def nz (y : Int) : Option Unit := if y = 0 then none else some ()
theorem nz_some {y : Int} {u : Unit} (h : nz y = some u) : y ≠ 0 := by
  unfold nz at h
  split at h
  · cases h
  · assumption
theorem Bd.cast {E : Env} {dft : Int} {x : Option Operand} {i : Int} (h0 : 0 ≤ i) (h : Bd E dft x i) : Bd E dft x ((i.toNat : Nat) : Int) := by
  rw [Int.toNat_of_nonneg h0]; exact h
section
variable {P : Program} {w : World} {C : Cx} {ρ ρ' : View} {hs : List Hl}
/-- a slice that is owned, cut -/
theorem sliceW {α : Type} {en : Enc α} {xs ys : List α} {v : Value} {k : Nat} {cs : List Value} {lo hi : Int} (H : Hp C w ρ hs) (hk : hs[k]? = some (Arr v en.n cs)) (hn : 0 < en.n) (hr : rdL en ρ xs cs) (hx : slc xs lo hi = some ys) :
    ∃ v' cs', Hp C w ρ (hs.set k (Arr v' en.n cs')) ∧ rdL en ρ ys cs' ∧ ∀ (E : Env) (w : World) (d : Option Tmp) (ty : TypeId) (pos : String) (af : Array Edge) (g : Option (Nat × Bool)) (t e : TypeId) (by_ : Nat) (z : Value) (ag : Bool) (x : Operand) (l h : Option Operand),
      P.underlying t = some (.slice e) → Ty P e en.n by_ z ag → ev E x = some v → Bd E 0 l lo → Bd E xs.length h hi → Qv P E ⟨d, .slice t x l h none, ty, pos, af, g⟩ v' w := by
  obtain ⟨h0, h1, h2, rfl⟩ := slc_some hx
  obtain ⟨v', H', hq⟩ := sliceO (P := P) (lo := lo.toNat) (hi := hi.toNat) H hk hn hr.len (by omega) (by omega)
  refine ⟨v', _, H', (hr.take hi.toNat).drop lo.toNat, fun E w d ty pos af g t e by_ z ag x l h ht hty hx hl hh => hq E d ty pos af g t e by_ z ag x l h ht hty hx (hl.cast h0) (hh.cast (by omega)) w⟩
/-- an owned slice is frozen: it reads from now on -/
theorem Hp.frz {α : Type} {en : Enc α} {xs : List α} {v : Value} {cs : List Value} (H : Hp C w ρ (Arr v en.n cs :: hs)) (hn : 0 < en.n) (hr : rdL en ρ xs cs) : ∃ ρ', View.le ρ ρ' ∧ Hp C w ρ' hs ∧ RdSl ρ' en v xs := by
  obtain ⟨ρ', hl, H', hp⟩ := H.freeze
  exact ⟨ρ', hl, H', arr_rd hn hl hp hr⟩
theorem Ok.low (hl : View.le ρ ρ') (h : Ok w ρ' hs) : Ok w ρ hs := ⟨View.le_trans hl h.view, h.all⟩
/-- the parts of a struct -/
theorem fstR {α β : Type} {e : Enc α} {f : Enc β} {x : α × β} {c : List Value} {b o : Nat} (h : (eP e f).rd ρ x c) (ha : cellsAt ρ b o c) : ∃ c1, e.rd ρ x.1 c1 ∧ cellsAt ρ b o c1 := by
  obtain ⟨c1, c2, rfl, h1, h2⟩ := h
  exact ⟨c1, h1, ha.left⟩
theorem sndR {α β : Type} {e : Enc α} {f : Enc β} {x : α × β} {c : List Value} {b o : Nat} (h : (eP e f).rd ρ x c) (ha : cellsAt ρ b o c) : ∃ c2, f.rd ρ x.2 c2 ∧ cellsAt ρ b (o + e.n) c2 := by
  obtain ⟨c1, c2, rfl, h1, h2⟩ := h
  have := ha.right
  rw [e.len h1] at this
  exact ⟨c2, h2, this⟩
theorem fstO {α β : Type} {e : Enc α} {f : Enc β} {x : α × β} {c : List Value} {b o : Nat} {l : List Hl} (h : (eP e f).rd ρ x c) (ha : ∀ w, Ok w ρ l → cellsAt (hv w) b o c) : ∃ c1, e.rd ρ x.1 c1 ∧ ∀ w, Ok w ρ l → cellsAt (hv w) b o c1 := by
  obtain ⟨c1, c2, rfl, h1, h2⟩ := h
  exact ⟨c1, h1, fun w ok => (ha w ok).left⟩
theorem sndO {α β : Type} {e : Enc α} {f : Enc β} {x : α × β} {c : List Value} {b o : Nat} {l : List Hl} (h : (eP e f).rd ρ x c) (ha : ∀ w, Ok w ρ l → cellsAt (hv w) b o c) : ∃ c2, f.rd ρ x.2 c2 ∧ ∀ w, Ok w ρ l → cellsAt (hv w) b (o + e.n) c2 := by
  obtain ⟨c1, c2, rfl, h1, h2⟩ := h
  refine ⟨c2, h2, fun w ok => ?_⟩
  have := (ha w ok).right
  rwa [e.len h1] at this
theorem arrO {α : Type} {e : Enc α} {N b o : Nat} {cs : List Value} {xs : List α} {i : Int} {x : α} {l : List Hl} (hr : (eA N e).rd ρ xs cs) (ha : ∀ w, Ok w ρ l → cellsAt (hv w) b o cs) (hx : idx xs i = some x) :
    ∃ c, e.rd ρ x c ∧ (∀ w, Ok w ρ l → cellsAt (hv w) b (o + i.toNat * e.n) c) ∧ 0 ≤ i ∧ i < N := by
  obtain ⟨h0, hlt, hx⟩ := idx_some hx
  exact ⟨_, rdL.get hr.2 hx, fun w ok => (ha w ok).part _ _, h0, by have := hr.1; omega⟩
theorem arr_el {α : Type} {en : Enc α} {N b : Nat} {cs : List Value} {xs : List α} {i : Int} {x : α} (hr : rdL en ρ xs cs) (hx : idx xs i = some x) :
    en.rd ρ x ((cs.drop (i.toNat * en.n)).take en.n) ∧ ∀ w', Ok w' ρ [Arr (.slice (some ⟨b, 0, none⟩) N N) en.n cs] → cellsAt (hv w') b (0 + i.toNat * en.n) ((cs.drop (i.toNat * en.n)).take en.n) := by
  obtain ⟨h0, hlt, hx⟩ := idx_some hx
  exact ⟨hr.get hx, fun w ok => (arr_whole (ok.get (k := 0) rfl)).part _ _⟩
theorem rdI {k : IntKind} {x : Int} {c : List Value} (h : (eI k).rd ρ x c) : c = [.int k x] := h
theorem rdB {x : Bool} {c : List Value} (h : eB.rd ρ x c) : c = [.bool x] := h
theorem rdS {x : ByteArray} {c : List Value} (h : eS.rd ρ x c) : c = [.string x] := h
theorem IdxOk.uniq {v : Value} {i : Int} {n b o b' o' : Nat} (h : IdxOk v i n b o) (h' : IdxOk v i n b' o') : b' = b ∧ o' = o := by
  obtain ⟨a0, len, cap, rfl, _, _, rfl⟩ := h
  obtain ⟨a0', len', cap', h1, _, _, rfl⟩ := h'
  injection h1 with h1 _ _
  injection h1 with h1
  injection h1 with h1 h2
  subst h1 h2
  exact ⟨rfl, rfl⟩
/-- an element's place, once known, after the slice's content has changed -/
theorem arr_re {α : Type} {en : Enc α} {xs : List α} {x : α} {v : Value} {cs : List Value} {i : Int} {b o : Nat} (hn : 0 < en.n) (hok : Ok w ρ [Arr v en.n cs]) (hr : rdL en ρ xs cs) (hx : idx xs i = some x) (hi : IdxOk v i en.n b o) :
    en.rd ρ x ((cs.drop (i.toNat * en.n)).take en.n) ∧ ∀ w', Ok w' ρ [Arr v en.n cs] → cellsAt (hv w') b o ((cs.drop (i.toNat * en.n)).take en.n) := by
  obtain ⟨b', o', h1, h2, h3⟩ := arr_at (k := 0) hn hok rfl hr hx
  obtain ⟨rfl, rfl⟩ := hi.uniq h1
  exact ⟨h2, h3⟩
end
end Go.Eng
