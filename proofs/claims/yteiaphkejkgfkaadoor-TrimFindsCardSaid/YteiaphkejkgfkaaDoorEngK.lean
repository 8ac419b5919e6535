/-
  MY ENGINE, part K: arrays within elements as slices; tables of the package; elements that are structs; cloning.
-/
import Derived.Test.YteiaphkejkgfkaaDoorEngJ
namespace Go.Eng
open Go
theorem Ok.subS {w : World} {ρ : View} {l l' : List Hl} (h : ∀ x ∈ l, x ∈ l') (H : Ok w ρ l') : Ok w ρ l := ⟨H.view, fun x hx => H.all x (h x hx)⟩
theorem sz_nil {n : Nat} : ∀ v ∈ ([] : List Value), v.cells.size = n := by simp
theorem sz_cons {n : Nat} {x : Value} {l : List Value} (h : x.cells.size = n) (t : ∀ v ∈ l, v.cells.size = n) : ∀ v ∈ x :: l, v.cells.size = n := by
  intro u hu
  rcases List.mem_cons.1 hu with rfl | hu
  · exact h
  · exact t u hu
theorem rd_of_arr {α : Type} {e : Enc α} {ρ : View} {N b o : Nat} {xs : List α} {c : List Value} (h : (eA N e).rd ρ xs c) (ha : cellsAt ρ b o c) : RdSl ρ e (.slice (some ⟨b, o, none⟩) N N) xs := by
  obtain ⟨rfl, h2⟩ := h
  exact .inr ⟨b, o, _, c, rfl, Nat.le_refl _, h2, ha⟩
section
variable {P : Program} {E : Env} {w : World} {C : Cx} {ρ : View} {hs : List Hl} {d : Option Tmp} {ty : TypeId} {pos : String} {af : Array Edge} {g : Option (Nat × Bool)}
theorem Q_slE {t e : TypeId} {x : Operand} {N b o : Nat} {n' by_ : Nat} {z : Value} {ag : Bool} (ht : P.underlying t = some (.array N e)) (hty : Ty P e n' by_ z ag) (hx : ev E x = some (.pointer (some ⟨b, o, none⟩))) :
    Qv P E ⟨d, .slice t x none none none, ty, pos, af, g⟩ (.slice (some ⟨b, o, none⟩) N N) w := fun n a hf => by
  simp [execOp, hf.eval hx, Instr.sliceAt, run_underlying ht, Instr.sureAddr, Instr.sliceBounds, hty.sizeOf, Addr.add_none]
end
/-- a table of the package: its cells -/
def GTab (ρ : View) (g : Nat) (k : IntKind) (xs : List Int) : Prop := cellsAt ρ g 0 (xs.map (.int k))
theorem GTab.up {ρ ρ' : View} {g : Nat} {k : IntKind} {xs : List Int} (hl : View.le ρ ρ') (h : GTab ρ g k xs) : GTab ρ' g k xs := cellsAt.up hl h
theorem GTab.at {ρ : View} {g : Nat} {k : IntKind} {xs : List Int} {i y : Int} (h : GTab ρ g k xs) (hy : idx xs i = some y) : cellsAt ρ g (0 + i.toNat * 1) [.int k y] := by
  obtain ⟨h0, h1, hy⟩ := idx_some hy
  intro j u hj
  have hj0 : j = 0 := by
    cases j with
    | zero => rfl
    | succ j => simp at hj
  subst hj0
  simp at hj
  subst hj
  have := h i.toNat (.int k y) (by simp [hy])
  simpa using this
end Go.Eng
