/-
  MY ENGINE, part G: flat readings.
-/
import Derived.Test.YteiaphkejkgfkaaDoorEngF
import Derived.KernelRfl
namespace Go.Eng
open Go
/-- a reading that hangs on no view -/
def Flat {α : Type} (e : Enc α) : Prop := ∀ ρ ρ' x cs, e.rd ρ x cs → e.rd ρ' x cs
theorem flat_I (k : IntKind) : Flat (eI k) := fun _ _ _ _ h => h
theorem flat_B : Flat eB := fun _ _ _ _ h => h
theorem flat_S : Flat eS := fun _ _ _ _ h => h
theorem rdL.flat {α : Type} {e : Enc α} {ρ ρ' : View} (hf : Flat e) : ∀ {xs : List α} {cs : List Value}, rdL e ρ xs cs → rdL e ρ' xs cs
  | [], _, h => h
  | _ :: _, _, h => by obtain ⟨c, d, rfl, h1, h2⟩ := h; exact ⟨c, d, rfl, hf _ _ _ _ h1, rdL.flat hf h2⟩
theorem flat_A {α : Type} {e : Enc α} (N : Nat) (hf : Flat e) : Flat (eA N e) := fun _ _ _ _ h => ⟨h.1, rdL.flat hf h.2⟩
theorem flat_P {α β : Type} {e : Enc α} {f : Enc β} (he : Flat e) (hf : Flat f) : Flat (eP e f) := fun _ _ _ _ h => by
  obtain ⟨c, d, rfl, h1, h2⟩ := h; exact ⟨c, d, rfl, he _ _ _ _ h1, hf _ _ _ _ h2⟩
theorem arr_clen {α : Type} {e : Enc α} {ρ : View} {xs : List α} {cs : List Value} {N : Nat} (h : rdL e ρ xs cs) (hl : xs.length = N) : cs.length = N * e.n := by rw [h.len, hl]
def RV (P : Program) (w : World) (E : Env) : List ResultVar → List Value → Prop
  | [], [] => True
  | .tmp t :: r, v :: vs => look E t = some v ∧ RV P w E r vs
  | .cell a T :: r, v :: vs => (∃ ad, look E a = some (.pointer (some ad)) ∧ (loadVar T ad).run P w = .ok v w) ∧ RV P w E r vs
  | _, _ => False
theorem results_runV {P : Program} {w : World} {E : Env} {n : Nat} {fn : Func} {rs : List ResultVar} (hrs : fn.results = rs.toArray) {a : Act} {vs : List Value} (hf : Fr n a E) (hv : RV P w E rs vs) : (results fn a.tmps).run P w = .ok (packR vs) w := by
  have key : ∀ (f : ResultVar → Sem Value), (∀ t, f (.tmp t) = pure (a.tmps.getD t undef)) → (∀ ad t, f (.cell ad t) = do loadVar t (← asAddr (a.tmps.getD ad undef))) → ∀ (rs : List ResultVar) (vs : List Value), RV P w E rs vs →
      ∀ acc : List Value, (rs.foldlM (m := Sem) (fun (acc : Array Value) r => do acc.push <$> f r) acc.toArray).run P w = .ok (acc ++ vs).toArray w := by
    intro f hf1 hf2 rs
    induction rs with
    | nil => intro vs h acc; cases vs with | nil => simp | cons v vs => cases h
    | cons r rs ih =>
      intro vs h acc
      cases vs with
      | nil => cases r <;> cases h
      | cons v vs =>
        cases r with
        | tmp t =>
          have h3 := ih vs h.2 (acc ++ [v])
          have h4 : a.tmps.getD t undef = v := hf.slots t v h.1
          simp only [List.foldlM_cons, hf1, h4]
          simp at h3 ⊢
          exact h3
        | cell ad t =>
          obtain ⟨⟨p, hp, hl⟩, h2⟩ := h
          have h3 := ih vs h2 (acc ++ [v])
          have h4 : a.tmps.getD ad undef = .pointer (some p) := hf.slots ad _ hp
          simp only [List.foldlM_cons, hf2, h4]
          simp [asAddr, hl] at h3 ⊢
          exact h3
  have hm : ∀ (f : ResultVar → Sem Value), (∀ t, f (.tmp t) = pure (a.tmps.getD t undef)) → (∀ ad t, f (.cell ad t) = do loadVar t (← asAddr (a.tmps.getD ad undef))) → (fn.results.mapM f).run P w = .ok vs.toArray w := by
    intro f h1 h2
    rw [hrs, Array.mapM_eq_foldlM]
    simpa using key f h1 h2 rs vs hv []
  unfold results
  rw [Sem.run_bind, hm _ (fun _ => rfl) (fun _ _ => rfl)]
  simp only [Result.andThen_ok]
  clear key hm hv hf
  match vs with
  | [] => simp [packR]
  | [v] => simp [packR]
  | v :: u :: r => simp [packR]
theorem fn_retV {P : Program} {w : World} {E : Env} {n : Nat} {fn : Func} {rs : List ResultVar} {vs : List Value} {post : Value → World → Prop} (hrs : fn.results = rs.toArray) (hv : RV P w E rs vs) (h : post (packR vs) w) : XX (bodyPost P fn (Rets post)) .ret n E w :=
  fun _ hf => ⟨hf.defers, _, results_runV hrs hf hv, _, rfl, h⟩
theorem fn_endV {P : Program} {w : World} {E : Env} {n : Nat} {fn : Func} {rs : List ResultVar} {vs : List Value} {post : Value → World → Prop} (hrs : fn.results = rs.toArray) (hv : RV P w E rs vs) (h : post (packR vs) w) : XX (bodyPost P fn (Rets post)) .normal n E w :=
  fun _ hf => ⟨hf.defers, _, results_runV hrs hf hv, _, rfl, h⟩
section
variable {P : Program} {E : Env} {w : World} {C : Cx} {ρ : View} {hs : List Hl} {d : Option Tmp} {ty : TypeId} {pos : String} {af : Array Edge} {g : Option (Nat × Bool)}
/-- []T{} -/
theorem E_bslice0 (H : Hp C w ρ hs) {t e : TypeId} {n by_ : Nat} {z : Value} {ag : Bool} (ht : P.underlying t = some (.slice e)) (hty : Ty P e n by_ z ag) :
    Eff P E ⟨d, .buildSlice t 0 #[], ty, pos, af, g⟩ w (fun v w' => ∃ b, v = .slice (some ⟨b, 0, none⟩) 0 0 ∧ Hp C w' ρ (Arr (.slice (some ⟨b, 0, none⟩) 0 0) n [] :: hs)) := by
  refine Eff.of_run fun n' a hf => ⟨.slice (some ⟨w.heap.size, 0, none⟩) 0 0, w.alloc (.cells #[] e), ?_, w.heap.size, rfl, H.alloc _ rfl (.inr ⟨_, 0, 0, 0, _, e, rfl, by simp, Nat.le_refl _, by simp, hv_alloc_new w _, by simp⟩)⟩
  have h1 := hty.sizeOf (w := w)
  have h2 : ∀ f : Nat → Value, Array.map f (Array.range 0) = #[] := fun f => Array.eq_empty_of_size_eq_zero (by simp)
  simp [execOp, Instr.buildSlice, run_underlying ht, h1, Instr.fill, run_newRow, h2]
end
end Go.Eng
