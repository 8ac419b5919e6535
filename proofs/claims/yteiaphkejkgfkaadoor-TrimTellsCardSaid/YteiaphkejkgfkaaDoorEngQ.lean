/-
  ENGINE Q: a table of the library's, off the row's condition.
-/
import Derived.Test.YteiaphkejkgfkaaDoorEngM
import Derived.Test.YteiaphkejkgfkaaDoorEngK
import Derived.Lib.LaidTab
namespace Go.Eng
open Go
theorem gTab_of {P : Program} {W : World} {name : String} {g : Nat} {t e : TypeId} {n : Nat} {k : IntKind} {zs : List Int} {laid : List (String × DataW Unit)} (hg : P.globalNamed name = some g) (hty : (P.globals[g]?).map (·.type) = some t)
    (ht : P.underlying t = some (.array n e)) (he : P.underlying e = some (.int k)) (hce : P.cellsOf e = 1) (hct : P.cellsOf t = n) (hm : (name, Lib.tabData k zs) ∈ laid) (h : laidMet P laid W) : GTab (hv W) g k zs := by
  obtain ⟨ps, hps, _, _⟩ := h
  have key : ∀ (l : List (String × DataW Unit)) (ps : List MemPlace), DataW.LaidVars P W l ps → (name, Lib.tabData k zs) ∈ l →
      ∃ cs fuel p, W.var? P name = some cs ∧ DataW.trod (fun _ => ()) P W 0 (fun _ => true) false fuel t cs.toList = some (Lib.tabData k zs, p) := by
    intro l
    induction l with
    | nil => intro _ _ h; simp at h
    | cons x l ih =>
      intro ps hps hmem
      obtain ⟨n, e⟩ := x
      obtain ⟨g', t', cs, fuel, p, q, h1, h2, h3, h4, h5, rfl⟩ := hps
      rcases List.mem_cons.1 hmem with he | he
      · simp only [Prod.mk.injEq] at he
        obtain ⟨rfl, rfl⟩ := he
        obtain rfl := Option.some.inj (hg.symm.trans h1)
        obtain rfl := Option.some.inj (hty.symm.trans h2)
        exact ⟨cs, fuel, p, h3, h4⟩
      · obtain ⟨cs', fuel', p', a1, a2⟩ := ih q h5 he
        exact ⟨cs', fuel', p', a1, a2⟩
  obtain ⟨cs, fuel, p, h3, h4⟩ := key laid ps hps hm
  have hcs := Lib.cells_of_tab ht he hce hct h4
  intro j u hj
  have hcell := World.var?_cell hg h3 j
  rw [← hv_cell, Nat.zero_add, hcell]
  rw [← hcs] at hj
  simpa using hj
end Go.Eng
