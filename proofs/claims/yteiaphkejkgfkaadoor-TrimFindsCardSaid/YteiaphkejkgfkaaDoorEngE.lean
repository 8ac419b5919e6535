/-
  MY ENGINE, part E: loops in lockstep; lending; nil slices; whole arrays; small words for the generator.
-/
import Derived.Test.YteiaphkejkgfkaaDoorEngD
namespace Go.Eng
open Go
@[reducible] def w64 (x : Int) : Int := IntKind.i64.wrap x

/-- rounds, counted down -/
def iterO {σ τ : Type} : Nat → (σ → Option (σ ⊕ τ)) → σ → Option τ
  | 0, _, _ => none
  | m + 1, f, s => match f s with
    | none => none
    | some (.inl s') => iterO m f s'
    | some (.inr t) => some t

section
variable {P : Program} {ops : Array Oper} {Q : Exit → Act → World → Prop} {n : Nat} {E : Env} {w : World} {C : Cx} {ρ : View} {hs : List Hl}
theorem C_iter {σ τ : Type} {c : Code} {f : σ → Option (σ ⊕ τ)} {t : τ} {m : Nat} {s : σ} (hI : iterO m f s = some t) (J : σ → Act → World → Prop) (h0 : ∀ a, Fr n a E → J s a w)
    (round : ∀ s o a w, J s a w → f s = some o → (∀ t', o = .inr t' → t' = t) → c.wp P (Exit.then (fun a' w' => ∃ s', o = .inl s' ∧ J s' a' w') Q) a w) : CW P (.loop c) Q n E w := by
  refine C_loop m (fun m a w => ∃ s, iterO m f s = some t ∧ J s a w) (fun a w h => by obtain ⟨s, h, _⟩ := h; simp [iterO] at h) (fun a hf => ⟨s, hI, h0 a hf⟩) ?_
  rintro m a w ⟨s, hs, hJ⟩
  rw [iterO] at hs
  cases hfs : f s with
  | none => rw [hfs] at hs; cases hs
  | some o =>
    rw [hfs] at hs
    cases o with
    | inl s' =>
      refine wp_mono (round s _ a w hJ hfs (fun _ h => by cases h)) fun e a w q => ?_
      cases e <;> first | exact q | (obtain ⟨s'', h1, h2⟩ := q; obtain rfl := Sum.inl.inj h1; exact ⟨_, hs, h2⟩)
    | inr t' =>
      refine wp_mono (round s _ a w hJ hfs (fun t'' h => by obtain rfl := Sum.inr.inj h; exact Option.some.inj hs)) fun e a w q => ?_
      cases e <;> first | exact q | (obtain ⟨s'', h1, h2⟩ := q; cases h1)
theorem C_cutQ {x : Code} (A : Act → World → Prop) (hx : CW P x (Exit.then A Q) n E w) (hy : ∀ a w', A a w' → Q .normal a w') : CW P x Q n E w :=
  fun a hf => wp_mono (hx a hf) fun e a w q => by cases e <;> first | exact hy _ _ q | exact q
theorem XX.at {a : Act} {e : Exit} (hf : Fr n a E) (h : XX Q e n E w) : Q e a w := h a hf
theorem XX.sub {e : Exit} {E' : Env} (hs : subE E' E) (h : XX Q e n E' w) : XX Q e n E w := fun a hf => h a (hf.sub hs)

theorem itT {α : Type} {b : Bool} {x y z : α} (hb : b = true) (h : (if b = true then x else y) = z) : x = z := by rwa [if_pos hb] at h
theorem itF {α : Type} {b : Bool} {x y z : α} (hb : b = false) (h : (if b = true then x else y) = z) : y = z := by rwa [if_neg (by simp [hb])] at h
theorem fn_calls' {f : FuncId} {fn : Func} {c : Code} {args : List Value} {R : Ending → World → Prop} {n : Nat} (hf : P.funcs[f]? = some fn) (hb : fn.body = some c) (hnt : fn.ntmps = n) (hn : args.length ≤ n)
    (h : CW P c (bodyPost P fn R) n (argE 0 args) w) : Calls P f args.toArray w R := by subst hnt; exact fn_calls hf hb hn h
/-- a nil slice owns nothing -/
theorem Hp.nilArr (H : Hp C w ρ hs) (k : Nat) : Hp C w ρ (Arr (.slice none 0 0) k [] :: hs) := by
  have e : fps (Arr (.slice none 0 0) k [] :: hs) = fps hs := by simp [fps, Arr, vblk]
  exact ⟨H.os, H.tape, H.out, H.size, H.old, by rw [e]; exact H.fresh, by rw [e]; exact H.lt, by rw [e]; exact H.nodup, H.view, by rw [e]; exact H.apart, fun h hh => by
    rcases List.mem_cons.1 hh with rfl | hh
    · exact .inl ⟨rfl, rfl⟩
    · exact H.all h hh⟩
theorem RdSl.cells {α : Type} {e : Enc α} {v : Value} {xs : List α} (h : RdSl ρ e v xs) : v.cells = #[v] := by
  rcases h with ⟨ad, cap, rfl, _⟩ | ⟨b, o, cap, cs, rfl, _⟩ <;> rfl
theorem RdSl.one {α : Type} {e : Enc α} {v : Value} {xs : List α} (h : RdSl ρ e v xs) : v.oneCell' = true := by
  rcases h with ⟨ad, cap, rfl, _⟩ | ⟨b, o, cap, cs, rfl, _⟩ <;> rfl
theorem RdSl.nil {α : Type} {e : Enc α} : RdSl ρ e (.slice none 0 0) [] := .inl ⟨none, 0, rfl, rfl⟩
theorem arr_cells {v : Value} {k : Nat} {cs : List Value} {h : View} (hp : (Arr v k cs).P h) : v.cells = #[v] ∧ v.oneCell' = true := by
  rcases hp with ⟨rfl, _⟩ | ⟨b, o, len, cap, cur, T, rfl, _⟩ <;> exact ⟨rfl, rfl⟩

/-- LENDING: a call may read what the caller owns. A: what the callee takes (and gives back changed), L: what it reads. -/
theorem Hp.lend {A L F : List Hl} (H : Hp C w ρ (A ++ (L ++ F))) : ∃ C' ρ', View.le ρ ρ' ∧ Hp C' w ρ' A ∧ (∀ h ∈ L, h.P ρ') ∧
    ∀ {w' ρ'' B}, Hp C' w' ρ'' B → Hp C w' ρ (B ++ (L ++ F)) := by
  have e1 : fps (A ++ (L ++ F)) = fps A ++ (fps L ++ fps F) := by simp [fps]
  have hn := H.nodup
  rw [e1] at hn
  obtain ⟨nA, nLF, dA⟩ := List.nodup_append.1 hn
  obtain ⟨nL, nF, dL⟩ := List.nodup_append.1 nLF
  have memA : ∀ b ∈ fps A, b ∈ fps (A ++ (L ++ F)) := fun b hb => by rw [e1]; simp [hb]
  have memL : ∀ b ∈ fps L, b ∈ fps (A ++ (L ++ F)) := fun b hb => by rw [e1]; simp [hb]
  refine ⟨⟨w, fps A⟩, fun b => if b ∈ fps L then hv w b else ρ b, fun b o hb => ?_, ?_, fun h hh => ?_, fun {w' ρ'' B} H' => ?_⟩
  · have : b ∉ fps L := fun hc => by have := H.apart b (memL b hc); rw [hb] at this; cases this
    simp [this, hb]
  · refine ⟨rfl, rfl, rfl, Nat.le_refl _, fun _ _ _ => rfl, fun b hb => .inl hb, fun b hb => H.lt b (memA b hb), nA, fun b o hb => ?_, fun b hb => ?_, fun h hh => H.all h (by simp [hh])⟩
    · split at hb
      · exact hb
      · exact H.view b o hb
    · have : b ∉ fps L := fun hc => dA b hb b (by simp [hc]) rfl
      simp [this, H.apart b (memA b hb)]
  · refine h.loc (fun b hb => ?_) (H.all h (by simp [hh]))
    have : b ∈ fps L := mem_fps.2 ⟨h, hh, hb⟩
    simp [this]
  · have e2 : fps (B ++ (L ++ F)) = fps B ++ (fps L ++ fps F) := by simp [fps]
    have lfmem : ∀ b, b ∈ fps L ++ fps F → b ∈ fps (A ++ (L ++ F)) := fun b hb => by rw [e1]; exact List.mem_append.2 (.inr hb)
    have lfA : ∀ b, b ∈ fps L ++ fps F → b ∉ fps A := fun b hb hc => dA b hc b hb rfl
    have keep : ∀ b, b < w.heap.size → b ∉ fps A → w'.heap[b]? = w.heap[b]? := fun b h1 h2 => H'.old b h1 h2
    refine ⟨H'.os.trans H.os, H'.tape.trans H.tape, H'.out.trans H.out, Nat.le_trans H.size H'.size, fun b hb hS => ?_, fun b hb => ?_, fun b hb => ?_, ?_, fun b o hb => ?_, fun b hb => ?_, fun h hh => ?_⟩
    · have h1 := H.size
      refine (keep b (by omega) fun hc => ?_).trans (H.old b hb hS)
      rcases H.fresh b (memA b hc) with h2 | h2
      · exact hS h2
      · omega
    · rw [e2] at hb
      rcases List.mem_append.1 hb with hb | hb
      · rcases H'.fresh b hb with h1 | h1
        · exact H.fresh b (memA b h1)
        · have h2 : w.heap.size ≤ b := h1
          exact .inr (Nat.le_trans H.size h2)
      · exact H.fresh b (lfmem b hb)
    · rw [e2] at hb
      rcases List.mem_append.1 hb with hb | hb
      · exact H'.lt b hb
      · have h1 : w.heap.size ≤ w'.heap.size := H'.size
        exact Nat.lt_of_lt_of_le (H.lt b (lfmem b hb)) h1
    · rw [e2]
      refine List.nodup_append.2 ⟨H'.nodup, nLF, fun b hb b' hb' he => ?_⟩
      subst he
      rcases H'.fresh b hb with h1 | h1
      · exact lfA b hb' h1
      · have h2 : w.heap.size ≤ b := h1
        have := H.lt b (lfmem b hb')
        omega
    · have h1 := H.view b o hb
      have : b ∉ fps A := fun hc => by have := H.apart b (memA b hc); rw [hb] at this; cases this
      exact (keep b (lt_of_hv h1) this).trans h1
    · rw [e2] at hb
      rcases List.mem_append.1 hb with hb | hb
      · rcases H'.fresh b hb with h1 | h1
        · exact H.apart b (memA b h1)
        · have h2 : w.heap.size ≤ b := h1
          cases hr : ρ b with
          | none => rfl
          | some x => have := lt_of_hv (H.view _ x hr); omega
      · exact H.apart b (lfmem b hb)
    · rcases List.mem_append.1 hh with hh | hh
      · exact H'.all h hh
      · refine h.loc (fun b hb => ?_) (H.all h (List.mem_append.2 (.inr hh)))
        have hb' : b ∈ fps L ++ fps F := by
          rcases List.mem_append.1 hh with h1 | h1
          · exact List.mem_append.2 (.inl (mem_fps.2 ⟨h, h1, hb⟩))
          · exact List.mem_append.2 (.inr (mem_fps.2 ⟨h, h1, hb⟩))
        exact (keep b (H.lt b (lfmem b hb')) (lfA b hb')).symm
/-- what an owned slice, lent, reads as -/
theorem arr_rd {α : Type} {e : Enc α} {v : Value} {xs : List α} {cs : List Value} {ρ' : View} (hn : 0 < e.n) (hl : View.le ρ ρ') (hp : (Arr v e.n cs).P ρ') (hr : rdL e ρ xs cs) : RdSl ρ' e v xs := by
  rcases hp with ⟨rfl, rfl⟩ | ⟨b, o, len, cap, cur, T, rfl, h1, h2, h3, h4, h5⟩
  · have := rdL.nil_of hn hr
    subst this; exact .inl ⟨none, 0, rfl, rfl⟩
  · have hlen := hr.len
    rw [h1] at hlen
    have := Nat.eq_of_mul_eq_mul_right hn hlen
    subst this
    refine .inr ⟨b, o, cap, cs, rfl, h2, rdL.up hl hr, fun j u hj => ?_⟩
    rw [← h5, List.getElem?_take] at hj
    split at hj
    · rw [List.getElem?_drop] at hj
      simp [View.cell, h4]
      simpa using hj
    · cases hj
end
end Go.Eng
