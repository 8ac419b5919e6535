/-
  MY ENGINE, part P: slices that own slices.
-/
import Derived.Test.YteiaphkejkgfkaaDoorEngO
namespace Go.Eng
open Go
theorem fm1 {v : Value} (h : v.cells = #[v]) : ([v].flatMap fun v => v.cells.toList) = [v] := by simp [h]
def nov : View := fun _ => none
theorem nov_le (ρ : View) : View.le nov ρ := fun _ _ h => by cases h
/-- each header of cs owns the slice that the list of the same place says -/
def FamP {α : Type} (e : Enc α) (h : View) : List Value → List (List α) → Prop
  | [], xs => xs = []
  | v :: cs, xs => ∃ x r, xs = x :: r ∧ (∃ c, (Arr v e.n c).P h ∧ rdL e nov x c) ∧ FamP e h cs r
section
variable {α : Type} {e : Enc α} {h h' : View}
theorem FamP.len : ∀ {cs : List Value} {xs : List (List α)}, FamP e h cs xs → cs.length = xs.length
  | [], _, hf => by cases hf; rfl
  | _ :: _, _, hf => by obtain ⟨x, r, rfl, _, h2⟩ := hf; simp [FamP.len h2]
theorem FamP.get : ∀ {cs : List Value} {xs : List (List α)} {j : Nat} {x : List α}, FamP e h cs xs → xs[j]? = some x → ∃ v c, cs[j]? = some v ∧ (Arr v e.n c).P h ∧ rdL e nov x c
  | [], _, _, _, hf, hx => by cases hf; simp at hx
  | v :: cs, _, 0, x, hf, hx => by
    obtain ⟨x', r, rfl, ⟨c, h1, h2⟩, _⟩ := hf
    simp at hx; subst hx
    exact ⟨v, c, rfl, h1, h2⟩
  | v :: cs, _, j + 1, x, hf, hx => by
    obtain ⟨x', r, rfl, _, h2⟩ := hf
    obtain ⟨v', c, h3, h4, h5⟩ := FamP.get (j := j) h2 (by simpa using hx)
    exact ⟨v', c, by simpa using h3, h4, h5⟩
theorem FamP.erase : ∀ {cs : List Value} {xs : List (List α)} (j : Nat), FamP e h cs xs → FamP e h (cs.eraseIdx j) (xs.eraseIdx j)
  | [], _, _, hf => by cases hf; exact rfl
  | v :: cs, _, 0, hf => by obtain ⟨x', r, rfl, _, h2⟩ := hf; exact h2
  | v :: cs, _, j + 1, hf => by
    obtain ⟨x', r, rfl, h1, h2⟩ := hf
    exact ⟨x', r.eraseIdx j, by simp, h1, FamP.erase j h2⟩
theorem FamP.put : ∀ {cs : List Value} {xs : List (List α)} {j : Nat} {v : Value} {x : List α} {c : List Value}, FamP e h (cs.eraseIdx j) (xs.eraseIdx j) → j < cs.length → j < xs.length → (Arr v e.n c).P h → rdL e nov x c → FamP e h (cs.set j v) (xs.set j x)
  | [], _, _, _, _, _, _, hj, _, _, _ => by simp at hj
  | _, [], _, _, _, _, _, _, hj, _, _ => by simp at hj
  | v0 :: cs, x0 :: xs, 0, v, x, c, hf, _, _, h1, h2 => ⟨x, xs, rfl, ⟨c, h1, h2⟩, by simpa using hf⟩
  | v0 :: cs, x0 :: xs, j + 1, v, x, c, hf, hj, hk, h1, h2 => by
    simp only [List.eraseIdx_cons_succ] at hf
    obtain ⟨x', r, he, h3, h4⟩ := hf
    injection he with he1 he2
    subst he1 he2
    exact ⟨x0, xs.set j x, rfl, h3, FamP.put h4 (by simpa using hj) (by simpa using hk) h1 h2⟩
theorem FamP.app : ∀ {cs ds : List Value} {xs ys : List (List α)}, FamP e h cs xs → FamP e h ds ys → FamP e h (cs ++ ds) (xs ++ ys)
  | [], _, _, _, h1, h2 => by cases h1; exact h2
  | v :: cs, ds, _, ys, h1, h2 => by
    obtain ⟨x, r, rfl, h3, h4⟩ := h1
    exact ⟨x, r ++ ys, rfl, h3, FamP.app h4 h2⟩
theorem FamP.nils : ∀ n, FamP e h (List.replicate n (.slice none 0 0)) (List.replicate n [])
  | 0 => rfl
  | n + 1 => ⟨[], List.replicate n [], rfl, ⟨[], .inl ⟨rfl, rfl⟩, rdL.nil⟩, FamP.nils n⟩
theorem FamP.loc : ∀ {cs : List Value} {xs : List (List α)}, (∀ b ∈ cs.flatMap vblk, h b = h' b) → FamP e h cs xs → FamP e h' cs xs
  | [], _, _, hf => hf
  | v :: cs, _, hl, hf => by
    obtain ⟨x, r, rfl, ⟨c, h1, h2⟩, h3⟩ := hf
    refine ⟨x, r, rfl, ⟨c, (Arr v e.n c).loc (fun b hb => hl b ?_) h1, h2⟩, FamP.loc (fun b hb => hl b ?_) h3⟩
    · simp only [List.flatMap_cons, List.mem_append]; exact .inl hb
    · simp only [List.flatMap_cons, List.mem_append]; exact .inr hb
end
def Fm {α : Type} (e : Enc α) (cs : List Value) (xs : List (List α)) : Hl where
  fp := cs.flatMap vblk
  P h := FamP e h cs xs
  loc he hp := FamP.loc he hp
/-- the slice v owns its array, and what its elements' headers (n each) lead to -/
def NA {α : Type} (e : Enc α) (n : Nat) (v : Value) (cs : List Value) (xs : List (List α)) : Hl where
  fp := vblk v ++ cs.flatMap vblk
  P h := (Arr v n cs).P h ∧ FamP e h cs xs
  loc he hp := ⟨(Arr v n cs).loc (fun b hb => he b (List.mem_append.2 (.inl hb))) hp.1, FamP.loc (fun b hb => he b (List.mem_append.2 (.inr hb))) hp.2⟩
/-- .. but for the j-th -/
def NH {α : Type} (e : Enc α) (n : Nat) (v : Value) (cs : List Value) (xs : List (List α)) (j : Nat) : Hl where
  fp := vblk v ++ (cs.eraseIdx j).flatMap vblk
  P h := (Arr v n cs).P h ∧ FamP e h (cs.eraseIdx j) (xs.eraseIdx j) ∧ cs.length = xs.length
  loc he hp := ⟨(Arr v n cs).loc (fun b hb => he b (List.mem_append.2 (.inl hb))) hp.1, FamP.loc (fun b hb => he b (List.mem_append.2 (.inr hb))) hp.2.1, hp.2.2⟩
theorem perm_erase {α β : Type} (f : α → List β) : ∀ {l : List α} {j : Nat} {x : α}, l[j]? = some x → (l.flatMap f).Perm (f x ++ (l.eraseIdx j).flatMap f)
  | [], _, _, h => by simp at h
  | y :: l, 0, x, h => by simp at h; subst h; simp
  | y :: l, j + 1, x, h => by
    have ih := perm_erase f (l := l) (j := j) (x := x) (by simpa using h)
    simp only [List.flatMap_cons, List.eraseIdx_cons_succ]
    refine (ih.append_left (f y)).trans ?_
    rw [← List.append_assoc, ← List.append_assoc]
    exact (List.perm_append_comm).append_right _
theorem setC_one {cs : List Value} {j : Nat} {v : Value} (h : j < cs.length) : setC cs j [v] = cs.set j v := by
  apply List.ext_getElem?
  intro i
  simp only [setC, List.append_assoc, List.length_cons, List.length_nil, Nat.zero_add]
  by_cases h1 : i < j
  · rw [List.getElem?_append_left (by simp; omega), List.getElem?_take, if_pos h1, List.getElem?_set_ne (by omega)]
  · rw [List.getElem?_append_right (by simp; omega)]
    have e1 : (cs.take j).length = j := by simp; omega
    rw [e1]
    by_cases h2 : i = j
    · subst h2; simp [h]
    · obtain ⟨k, rfl⟩ : ∃ k, i = j + 1 + k := ⟨i - (j + 1), by omega⟩
      rw [show j + 1 + k - j = k + 1 by omega, List.singleton_append, List.getElem?_cons_succ, List.getElem?_drop, List.getElem?_set_ne (by omega)]
section
variable {P : Program} {E : Env} {w : World} {C : Cx} {ρ : View} {hs : List Hl} {d : Option Tmp} {ty : TypeId} {pos : String} {af : Array Edge} {g : Option (Nat × Bool)}
variable {α : Type} {e : Enc α} {n : Nat} {v : Value} {cs : List Value} {xs : List (List α)}
/-- other words for the same memory -/
theorem Hp.conv {l : List Hl} (H : Hp C w ρ hs) (hp : (fps hs).Perm (fps l)) (ha : ∀ h ∈ l, h.P (hv w)) : Hp C w ρ l :=
  ⟨H.os, H.tape, H.out, H.size, H.old, fun b hb => H.fresh b (hp.mem_iff.2 hb), fun b hb => H.lt b (hp.mem_iff.2 hb), hp.nodup_iff.1 H.nodup, H.view, fun b hb => H.apart b (hp.mem_iff.2 hb), ha⟩
theorem Hp.head {h : Hl} (H : Hp C w ρ (h :: hs)) : h.P (hv w) := H.all h (by simp)
theorem Hp.nsplit (H : Hp C w ρ (NA e n v cs xs :: hs)) : Hp C w ρ (Arr v n cs :: Fm e cs xs :: hs) :=
  H.conv (by simp only [fps_cons, NA, Arr, Fm, List.append_assoc]; exact List.Perm.refl _) fun h hh => by
    rcases List.mem_cons.1 hh with rfl | hh
    · exact H.head.1
    · rcases List.mem_cons.1 hh with rfl | hh
      · exact H.head.2
      · exact H.all h (by simp [hh])
theorem Hp.njoin (H : Hp C w ρ (Arr v n cs :: Fm e cs xs :: hs)) : Hp C w ρ (NA e n v cs xs :: hs) :=
  H.conv (by simp only [fps_cons, NA, Arr, Fm, List.append_assoc]; exact List.Perm.refl _) fun h hh => by
    rcases List.mem_cons.1 hh with rfl | hh
    · exact ⟨H.head, H.tail.head⟩
    · exact H.all h (by simp [hh])
/-- the j-th is taken out -/
theorem Hp.ntake {j : Nat} {u : Value} {x : List α} (H : Hp C w ρ (NA e n v cs xs :: hs)) (hu : cs[j]? = some u) (hx : xs[j]? = some x) : ∃ c, rdL e ρ x c ∧ Hp C w ρ (Arr u e.n c :: NH e n v cs xs j :: hs) := by
  obtain ⟨u', c, h1, h2, h3⟩ := H.head.2.get hx
  obtain rfl := Option.some.inj (hu.symm.trans h1)
  refine ⟨c, rdL.up (nov_le ρ) h3, H.conv ?_ fun h hh => ?_⟩
  · simp only [fps_cons, NA, NH, Arr]
    rw [← List.append_assoc]
    refine List.Perm.append_right _ ?_
    refine ((perm_erase vblk hu).append_left (vblk v)).trans ?_
    rw [← List.append_assoc, ← List.append_assoc]
    exact (List.perm_append_comm).append_right _
  · rcases List.mem_cons.1 hh with rfl | hh
    · exact h2
    · rcases List.mem_cons.1 hh with rfl | hh
      · exact ⟨H.head.1, H.head.2.erase j, H.head.2.len⟩
      · exact H.all h (by simp [hh])
/-- .. and put back -/
theorem Hp.nput {j : Nat} {u : Value} {x : List α} {c : List Value} (hf : Flat e) (H : Hp C w ρ (Arr u e.n c :: NH e n v cs xs j :: hs)) (hu : cs[j]? = some u) (hr : rdL e ρ x c) : Hp C w ρ (NA e n v cs (xs.set j x) :: hs) := by
  have hj := (List.getElem?_eq_some_iff.1 hu).1
  obtain ⟨h1, h2, h3⟩ := H.tail.head
  refine H.conv ?_ fun h hh => ?_
  · simp only [fps_cons, NA, NH, Arr]
    rw [← List.append_assoc]
    refine List.Perm.append_right _ ?_
    refine (List.Perm.trans ?_ ((perm_erase vblk hu).append_left (vblk v)).symm)
    rw [← List.append_assoc, ← List.append_assoc]
    exact (List.perm_append_comm).append_right _
  · rcases List.mem_cons.1 hh with rfl | hh
    · have := FamP.put h2 hj (by omega) H.head (rdL.flat hf hr)
      have e1 : cs.set j u = cs := by
        apply List.ext_getElem?
        intro i
        by_cases hi : j = i
        · subst hi; rw [List.getElem?_set_self hj, hu]
        · rw [List.getElem?_set_ne hi]
      rw [e1] at this
      exact ⟨h1, this⟩
    · exact H.all h (by simp [hh])
/-- the j-th is let go -/
theorem Hp.nlet {j : Nat} {u : Value} (H : Hp C w ρ (NA e n v cs xs :: hs)) (hu : cs[j]? = some u) : Hp C w ρ (NH e n v cs xs j :: hs) := by
  have hj := (List.getElem?_eq_some_iff.1 hu).1
  have hl := H.head.2.len
  obtain ⟨c, _, H'⟩ := H.ntake hu (x := xs[j]'(by omega)) (List.getElem?_eq_getElem (by omega))
  exact H'.tail
/-- a header is stored where the hole is -/
theorem E_stN {T : TypeId} {x y : Operand} {by_ b o j off : Nat} {i : Int} {z u : Value} {y' : List α} {c : List Value} (hf : Flat e) (H : Hp C w ρ (Arr u e.n c :: NH e n v cs xs j :: hs)) (hty : Ty P T 1 by_ z false) (hi : IdxOk v i n b o) (hj : i.toNat * n + off = j) (hoff : off < n)
    (hx : ev E x = some (.pointer (some ⟨b, o + off, none⟩))) (hy : ev E y = some u) (hr : rdL e ρ y' c) :
    Eff P E ⟨d, .store T x y, ty, pos, af, g⟩ w (fun _ w' => Hp C w' ρ (NA e n v (cs.set j u) (xs.set j y') :: hs)) := by
  obtain ⟨h1, h2, h3⟩ := H.tail.head
  have hu := arr_cells H.head
  have hlen : j < cs.length := by
    obtain ⟨a0, len, cap, rfl, q1, q2, q3⟩ := hi
    rcases h1 with ⟨k1, _⟩ | ⟨b', o', len', cap', cur, T0, k1, k2, k3, _⟩
    · cases k1
    · injection k1 with k1 k4 k5
      subst k4
      rw [k2, ← hj]
      have : (i.toNat + 1) * n ≤ len * n := Nat.mul_le_mul_right _ (by omega)
      rw [Nat.add_mul, Nat.one_mul] at this
      omega
  have H2 : Hp C w ρ (Arr v n cs :: Arr u e.n c :: Fm e (cs.eraseIdx j) (xs.eraseIdx j) :: hs) := H.conv (by
    simp only [fps_cons, NH, Arr, Fm, List.append_assoc]
    exact List.perm_append_comm_assoc _ _ _) fun h hh => by
      rcases List.mem_cons.1 hh with rfl | hh
      · exact h1
      · rcases List.mem_cons.1 hh with rfl | hh
        · exact H.head
        · rcases List.mem_cons.1 hh with rfl | hh
          · exact h2
          · exact H.all h (by simp [hh])
  refine (E_stA (k := 0) (j := off) (c := [u]) H2 rfl hty hi hx hy hu.1 rfl (one_cons hu.2 one_nil) (by omega)).mono fun _ w' Hw => ?_
  have Hw : Hp C w' ρ (Arr v n (setC cs (i.toNat * n + off) [u]) :: Arr u e.n c :: Fm e (cs.eraseIdx j) (xs.eraseIdx j) :: hs) := Hw
  rw [hj, setC_one hlen] at Hw
  have hset : (cs.set j u)[j]? = some u := List.getElem?_set_self hlen
  have her : (cs.set j u).eraseIdx j = cs.eraseIdx j := by rw [List.eraseIdx_set_eq]
  refine Hw.conv ?_ fun h hh => ?_
  · simp only [fps_cons, NA, Arr, Fm]
    rw [← List.append_assoc, ← List.append_assoc]
    refine List.Perm.append_right _ ?_
    have := ((perm_erase vblk hset).append_left (vblk v)).symm
    rw [her, ← List.append_assoc] at this
    exact this
  · rcases List.mem_cons.1 hh with rfl | hh
    · exact ⟨Hw.head, FamP.put Hw.tail.tail.head hlen (by omega) Hw.tail.head (rdL.flat hf hr)⟩
    · exact Hw.all h (by simp [hh])
/-- a store into an element of the j-th -/
theorem E_stI {T : TypeId} {x y : Operand} {m by_ b o j : Nat} {i : Int} {z u sv : Value} {ag : Bool} {l : List α} {a : α} {c : List Value} (hf : Flat e) (H : Hp C w ρ (NA e n v cs xs :: hs)) (hu : cs[j]? = some u) (hl : xs[j]? = some l) (hty : Ty P T m by_ z ag) (hm : m = e.n)
    (hi : IdxOk u i e.n b o) (hil : i.toNat < l.length) (hx : ev E x = some (.pointer (some ⟨b, o, none⟩))) (hy : ev E y = some sv) (hvc : sv.cells = c.toArray) (hr : e.rd ρ a c) :
    Eff P E ⟨d, .store T x y, ty, pos, af, g⟩ w (fun _ w' => Hp C w' ρ (NA e n v cs (xs.set j (l.set i.toNat a)) :: hs)) := by
  obtain ⟨c0, hr0, H'⟩ := H.ntake hu hl
  refine (E_stA (k := 0) (j := 0) (c := c) H' rfl hty hi hx hy hvc (by rw [e.len hr, hm]) (e.one hr) (by omega)).mono fun _ w' Hw => ?_
  exact Hp.nput hf (c := setC c0 (i.toNat * e.n + 0) c) Hw hu (rdL.set hr0 hil hr)
theorem Hp.nilNA (e : Enc α) (n : Nat) (H : Hp C w ρ hs) : Hp C w ρ (NA e n (.slice none 0 0) [] [] :: hs) :=
  (H.nilArr n).conv (by simp [fps_cons, NA, Arr, vblk]) fun h hh => by
    rcases List.mem_cons.1 hh with rfl | hh
    · exact ⟨.inl ⟨rfl, rfl⟩, rfl⟩
    · exact H.all h hh
/-- a new slice of one header takes what the header leads to -/
theorem Hp.njoin1 {u : Value} {x : List α} {c : List Value} (hf : Flat e) (H : Hp C w ρ (Arr v n [u] :: Arr u e.n c :: hs)) (hr : rdL e ρ x c) : Hp C w ρ (NA e n v [u] [x] :: hs) :=
  H.conv (by simp [fps_cons, NA, Arr]) fun h hh => by
    rcases List.mem_cons.1 hh with rfl | hh
    · exact ⟨H.head, x, [], rfl, ⟨c, H.tail.head, rdL.flat hf hr⟩, rfl⟩
    · exact H.all h (by simp [hh])
theorem Hp.njoin0 (e : Enc α) (H : Hp C w ρ (Arr v n [] :: hs)) : Hp C w ρ (NA e n v [] [] :: hs) :=
  H.conv (by simp [fps_cons, NA, Arr]) fun h hh => by
    rcases List.mem_cons.1 hh with rfl | hh
    · exact ⟨H.head, rfl⟩
    · exact H.all h (by simp [hh])
theorem Hp.njoinR (e : Enc α) {m : Nat} (H : Hp C w ρ (Arr v n (repC m (List.replicate n (.slice none 0 0))) :: hs)) : Hp C w ρ (NA e n v (repC m (List.replicate n (.slice none 0 0))) (List.replicate m (List.replicate n [])).flatten :: hs) := by
  have e1 : repC m (List.replicate n (.slice none 0 0)) = List.replicate (m * n) (.slice none 0 0) := by simp [repC]
  have e2 : (List.replicate m (List.replicate n ([] : List α))).flatten = List.replicate (m * n) [] := by simp
  rw [e1] at H ⊢
  rw [e2]
  have e3 : (List.replicate (m * n) (Value.slice none 0 0)).flatMap vblk = [] := by
    rw [List.flatMap_eq_nil_iff]
    intro x hx
    rw [List.eq_of_mem_replicate hx]; rfl
  exact H.conv (by simp only [fps_cons, NA, Arr, e3, List.append_nil]; exact List.Perm.refl _) fun h hh => by
    rcases List.mem_cons.1 hh with rfl | hh
    · exact ⟨H.head, FamP.nils _⟩
    · exact H.all h (by simp [hh])
theorem E_appN {t et : TypeId} {x y : Operand} {v2 : Value} {by_ : Nat} {z : Value} {ag : Bool} {ds : List Value} {ys : List (List α)} (H : Hp C w ρ (NA e n v cs xs :: NA e n v2 ds ys :: hs)) (ht : P.underlying t = some (.slice et)) (hty : Ty P et n by_ z ag) (hzs : z.cells.size = n) (hn : 0 < n) (hby : by_ ≤ 32768)
    (hx : ev E x = some v) (hy : ev E y = some v2) (h1 : xs.length + ys.length ≤ 4294967296 * n) :
    Eff P E ⟨d, .call { callee := .builtin .append, args := #[x, y], argTypes := #[t, t] }, ty, pos, af, g⟩ w (fun u w' => Hp C w' ρ (NA e n u (cs ++ ds) (xs ++ ys) :: hs) ∧ u.cells = #[u]) := by
  have h2 := H.head.2.len
  have h3 := H.tail.head.2.len
  have one : ∀ {cs : List Value} {xs : List (List α)}, FamP e (hv w) cs xs → ∀ u ∈ cs, u.oneCell' = true := by
    intro cs xs hF u hu
    obtain ⟨j, hj⟩ := List.mem_iff_getElem?.1 hu
    have hl := hF.len
    have := (List.getElem?_eq_some_iff.1 hj).1
    obtain ⟨u', c, a1, a2, a3⟩ := hF.get (j := j) (x := xs[j]'(by omega)) (List.getElem?_eq_getElem (by omega))
    obtain rfl := Option.some.inj (hj.symm.trans a1)
    exact (arr_cells a2).2
  have H1 : Hp C w ρ (Arr v n cs :: Arr v2 n ds :: Fm e cs xs :: Fm e ds ys :: hs) := H.conv (by
    simp only [fps_cons, NA, Arr, Fm, List.append_assoc]
    refine List.Perm.append_left _ ?_
    rw [← List.append_assoc, ← List.append_assoc (vblk v2)]
    exact (List.perm_append_comm).append_right _) fun h hh => by
      simp only [List.mem_cons] at hh
      rcases hh with rfl | rfl | rfl | rfl | hh
      · exact H.head.1
      · exact H.tail.head.1
      · exact H.head.2
      · exact H.tail.head.2
      · exact H.all h (by simp [hh])
  refine (E_append (k := 0) H1 rfl ht hty hzs hn hby hx hy (Src.ofArr (k := 1) H1.ok rfl) (one H.tail.head.2) (by omega)).mono fun u w' Hw => ⟨?_, Hw.2⟩
  have Hw : Hp C w' ρ (Arr u n (cs ++ ds) :: Arr v2 n ds :: Fm e cs xs :: Fm e ds ys :: hs) := Hw.1
  have H3 : Hp C w' ρ (Arr u n (cs ++ ds) :: Fm e cs xs :: Fm e ds ys :: hs) := (Hw.drop 1 rfl)
  exact H3.conv (by simp only [fps_cons, NA, Arr, Fm, List.flatMap_append, List.append_assoc]; exact List.Perm.refl _) fun h hh => by
    rcases List.mem_cons.1 hh with rfl | hh
    · exact ⟨H3.head, FamP.app H3.tail.head H3.tail.tail.head⟩
    · exact H3.all h (by simp [hh])
theorem arr_cells_at {b o len cap : Nat} {h : View} (hp : (Arr (.slice (some ⟨b, o, none⟩) len cap) n cs).P h) : cellsAt h b o cs := by
  rcases hp with ⟨h6, _⟩ | ⟨b', o', len', cap', cur', T', h6, h7, h8, h9, h10, h11⟩
  · cases h6
  · injection h6 with h6 h12 h13
    injection h6 with h6
    injection h6 with h6 h14
    subst h6 h12 h13 h14
    intro j a hj
    rw [← h11, List.getElem?_take] at hj
    by_cases hlt : j < cs.length
    · rw [if_pos hlt, List.getElem?_drop] at hj
      simp only [View.cell, h10]
      rw [← Array.getElem?_toList]
      exact hj
    · rw [if_neg hlt] at hj; cases hj
/-- where the i-th element lies, and its header in place off -/
theorem na_at {i : Int} {off : Nat} {x : List α} (hen : 0 < e.n) (hok : Ok w ρ [NA e n v cs xs]) (h0 : 0 ≤ i) (_hoff : off < n) (hx : xs[i.toNat * n + off]? = some x) :
    ∃ b o u, IdxOk v i n b o ∧ cs[i.toNat * n + off]? = some u ∧ (∀ w', Ok w' ρ [NA e n v cs xs] → cellsAt (hv w') b (o + off) [u]) ∧ ∃ o' c', u = .slice o' x.length c' := by
  obtain ⟨h1, h2⟩ := hok.get (k := 0) rfl
  obtain ⟨u, c, h3, h4, h5⟩ := h2.get hx
  have hlt := (List.getElem?_eq_some_iff.1 h3).1
  have h1' := h1
  rcases h1' with ⟨rfl, rfl⟩ | ⟨b, o, len, cap, cur, T, rfl, k1, k2, k3, k4, k5⟩
  · simp at hlt
  · have hil : i.toNat < len := by
      rw [k1] at hlt
      have : i.toNat * n < len * n := by omega
      exact Nat.lt_of_mul_lt_mul_right this
    refine ⟨b, o + i.toNat * n, u, ⟨o, len, cap, rfl, h0, by omega, rfl⟩, h3, fun w' ok' => ?_, arr_len hen h4 h5⟩
    have hc := arr_cells_at (ok'.get (k := 0) rfl).1
    intro j a hj
    cases j with
    | succ j => simp at hj
    | zero =>
      simp at hj; subst hj
      have := hc _ _ h3
      rwa [← Nat.add_assoc] at this
/-- an element of the j-th -/
theorem inn_at {j : Nat} {u : Value} {l : List α} {i : Int} {a : α} (hen : 0 < e.n) (hok : Ok w ρ [NA e n v cs xs]) (hu : cs[j]? = some u) (hl : xs[j]? = some l) (ha : idx l i = some a) :
    ∃ b o, IdxOk u i e.n b o ∧ ∀ w', Ok w' ρ [NA e n v cs xs] → ∃ c, e.rd nov a c ∧ cellsAt (hv w') b o c := by
  obtain ⟨h0, hlt, ha'⟩ := idx_some ha
  obtain ⟨_, h2⟩ := hok.get (k := 0) rfl
  obtain ⟨u', c, h3, h4, h5⟩ := h2.get hl
  obtain rfl := Option.some.inj (hu.symm.trans h3)
  rcases h4 with ⟨rfl, rfl⟩ | ⟨b, o, len, cap, cur, T, rfl, k1, k2, k3, k4, k5⟩
  · have := rdL.nil_of hen h5
    subst this; simp at hlt
  · have hll : l.length = len := by
      have := h5.len
      rw [k1] at this
      exact (Nat.eq_of_mul_eq_mul_right hen this).symm
    refine ⟨b, o + i.toNat * e.n, ⟨o, len, cap, rfl, h0, by omega, rfl⟩, fun w' ok' => ?_⟩
    obtain ⟨_, g2⟩ := ok'.get (k := 0) rfl
    obtain ⟨u', c', g3, g4, g5⟩ := g2.get hl
    obtain rfl := Option.some.inj (hu.symm.trans g3)
    exact ⟨_, g5.get ha', (arr_cells_at g4).part _ _⟩
/-- the j-th as a source of cells -/
theorem inn_src {j : Nat} {u : Value} {l : List α} (hok : Ok w ρ [NA e n v cs xs]) (hu : cs[j]? = some u) (hl : xs[j]? = some l) : ∃ c, rdL e ρ l c ∧ Src (hv w) u e.n c := by
  obtain ⟨_, h2⟩ := hok.get (k := 0) rfl
  obtain ⟨u', c, h3, h4, h5⟩ := h2.get hl
  obtain rfl := Option.some.inj (hu.symm.trans h3)
  exact ⟨c, rdL.up (nov_le ρ) h5, Src.ofArr (ρ := ρ) (hs := [Arr u e.n c]) ⟨hok.view, fun x hx => by simp at hx; subst hx; exact h4⟩ (k := 0) rfl⟩
theorem na_len {k : Nat} {t et : TypeId} {x : Operand} (hok : Ok w ρ hs) (hk : hs[k]? = some (NA e n v cs xs)) {N : Nat} (hN : xs.length = N * n) (hn : 0 < n) (ht : P.underlying t = some (.slice et)) (hx : ev E x = some v) :
    Qv P E ⟨d, .call { callee := .builtin .len, args := #[x], argTypes := #[t] }, ty, pos, af, g⟩ (.int .i64 N) w := by
  obtain ⟨h1, h2⟩ := hok.get hk
  have hl := h2.len
  have : ∃ o c, v = .slice o N c := by
    rcases h1 with ⟨rfl, rfl⟩ | ⟨b, o, len, cap, cur, T, rfl, k1, _⟩
    · have : N = 0 := by
        have : N * n = 0 := by rw [← hN, ← hl]; rfl
        rcases Nat.mul_eq_zero.1 this with h | h
        · exact h
        · omega
      subst this; exact ⟨_, _, rfl⟩
    · have : len = N := by
        have : len * n = N * n := by omega
        exact Nat.eq_of_mul_eq_mul_right hn this
      subst this; exact ⟨_, _, rfl⟩
  obtain ⟨o, c, rfl⟩ := this
  exact Q_lenS ht hx
/-- lent or frozen, it reads -/
theorem na_rd {ρ' : View} (hen : 0 < e.n) (hl : View.le ρ ρ') (hp : (NA e 1 v cs xs).P ρ') : RdSl ρ' (eL e) v xs := by
  obtain ⟨h1, h2⟩ := hp
  have hr : rdL (eL e) ρ' xs cs := by
    clear h1
    induction cs generalizing xs with
    | nil => cases h2; exact rfl
    | cons u cs ih =>
      obtain ⟨x, r, rfl, ⟨c, g1, g2⟩, g3⟩ := h2
      exact ⟨[u], cs, rfl, ⟨u, rfl, arr_rd (ρ := nov) hen (nov_le ρ') g1 g2⟩, ih g3⟩
  exact arr_rd (e := eL e) (ρ := ρ') (Nat.zero_lt_one) (View.le_refl _) h1 hr
theorem Hp.nfrz (hen : 0 < e.n) (H : Hp C w ρ (NA e 1 v cs xs :: hs)) : ∃ ρ', View.le ρ ρ' ∧ Hp C w ρ' hs ∧ RdSl ρ' (eL e) v xs := by
  obtain ⟨ρ', hl, H', hp⟩ := H.freeze
  exact ⟨ρ', hl, H', na_rd hen hl hp⟩
theorem flat_idx {β : Type} {N : Nat} : ∀ {ls : List (List β)} {i : Int} {k : Int} {l : List β} {y : β}, (∀ a ∈ ls, a.length = N) → idx ls i = some l → idx l k = some y → ls.flatten[i.toNat * N + k.toNat]? = some y ∧ k.toNat < N ∧ 0 ≤ i := by
  intro ls i k l y hN h1 h2
  obtain ⟨a0, a1, a2⟩ := idx_some h1
  obtain ⟨b0, b1, b2⟩ := idx_some h2
  have hl := hN l (List.mem_of_getElem? a2)
  refine ⟨?_, by omega, a0⟩
  have key : ∀ (ls : List (List β)) (j : Nat), (∀ a ∈ ls, a.length = N) → ls[j]? = some l → ls.flatten[j * N + k.toNat]? = some y := by
    intro ls
    induction ls with
    | nil => intro j _ h; simp at h
    | cons x ls ih =>
      intro j hN hj
      cases j with
      | zero =>
        simp at hj; subst hj
        rw [List.flatten_cons, Nat.zero_mul, Nat.zero_add, List.getElem?_append_left b1]; exact b2
      | succ j =>
        have hx := hN x (by simp)
        rw [List.flatten_cons, List.getElem?_append_right (by rw [hx, Nat.add_mul]; omega), hx]
        have := ih j (fun a ha => hN a (by simp [ha])) (by simpa using hj)
        rw [← this]
        congr 1
        rw [Nat.add_mul]; omega
  exact key ls i.toNat hN a2
theorem flat_set {β : Type} {N : Nat} {i k : Int} {y : β} {ls ls' : List (List β)} {l l' : List β} (hN : ∀ a ∈ ls, a.length = N) (h1 : idx ls i = some l) (h2 : setI l k y = some l') (h3 : setI ls i l' = some ls') :
    ls'.flatten = ls.flatten.set (i.toNat * N + k.toNat) y ∧ ∀ a ∈ ls', a.length = N := by
  obtain ⟨a0, a1, a2⟩ := idx_some h1
  obtain ⟨b0, b1, rfl⟩ := setI_some h2
  obtain ⟨c0, c1, rfl⟩ := setI_some h3
  have hl := hN l (List.mem_of_getElem? a2)
  refine ⟨?_, fun a ha => ?_⟩
  · have key : ∀ (ls : List (List β)) (j : Nat), (∀ a ∈ ls, a.length = N) → ls[j]? = some l → (ls.set j (l.set k.toNat y)).flatten = ls.flatten.set (j * N + k.toNat) y := by
      intro ls
      induction ls with
      | nil => intro j _ h; simp at h
      | cons x ls ih =>
        intro j hN hj
        cases j with
        | zero =>
          simp at hj; subst hj
          rw [List.set_cons_zero, List.flatten_cons, List.flatten_cons, Nat.zero_mul, Nat.zero_add, List.set_append_left _ _ b1]
        | succ j =>
          have hx := hN x (by simp)
          rw [List.set_cons_succ, List.flatten_cons, List.flatten_cons, ih j (fun a ha => hN a (by simp [ha])) (by simpa using hj), List.set_append_right _ _ (by rw [hx, Nat.add_mul]; omega), hx]
          congr 2
          rw [Nat.add_mul]; omega
    exact key ls i.toNat hN a2
  · rcases List.mem_or_eq_of_mem_set ha with h | rfl
    · exact hN a h
    · simpa using hl
theorem nil_gl {β : Type} {N : Nat} : ∀ a ∈ ([] : List (List β)), a.length = N := by simp
theorem rep_gl {β : Type} {m N : Nat} {z : β} : ∀ a ∈ List.replicate m (List.replicate N z), a.length = N := fun a ha => by rw [List.eq_of_mem_replicate ha]; simp
theorem flat_len {β : Type} {N : Nat} : ∀ {ls : List (List β)}, (∀ a ∈ ls, a.length = N) → ls.flatten.length = ls.length * N
  | [], _ => by simp
  | x :: ls, h => by
    rw [List.flatten_cons, List.length_append, flat_len (fun a ha => h a (by simp [ha])), h x (by simp), List.length_cons, Nat.add_mul]; omega
theorem Hp.njoinR1 (e : Enc α) {m : Nat} (H : Hp C w ρ (Arr v 1 (repC m [.slice none 0 0]) :: hs)) : Hp C w ρ (NA e 1 v (repC m [.slice none 0 0]) (List.replicate m []) :: hs) := by
  have := Hp.njoinR (n := 1) e H
  have e2 : (List.replicate m (List.replicate 1 ([] : List α))).flatten = List.replicate m [] := by simp
  rw [e2] at this
  exact this
theorem repC_one (n : Nat) (x : Value) : repC n [x] = List.replicate n x := by simp [repC]
theorem Hp.njoinRN (e : Enc α) {m : Nat} (H : Hp C w ρ (Arr v n (repC m (repC n [.slice none 0 0])) :: hs)) : Hp C w ρ (NA e n v (repC m (repC n [.slice none 0 0])) (List.replicate m (List.replicate n [])).flatten :: hs) := by
  rw [repC_one] at H ⊢
  exact H.njoinR e
theorem na_at1 {i : Int} {x : List α} (hen : 0 < e.n) (hok : Ok w ρ [NA e 1 v cs xs]) (hx : idx xs i = some x) :
    ∃ b o u, IdxOk v i 1 b o ∧ cs[i.toNat]? = some u ∧ (∀ w', Ok w' ρ [NA e 1 v cs xs] → cellsAt (hv w') b o [u]) ∧ (∃ o' c', u = .slice o' x.length c') ∧ xs[i.toNat]? = some x := by
  obtain ⟨h0, h1, h2⟩ := idx_some hx
  obtain ⟨b, o, u, g1, g2, g3, g4⟩ := na_at (off := 0) hen hok h0 (by decide) (by rw [Nat.mul_one, Nat.add_zero]; exact h2)
  rw [Nat.mul_one, Nat.add_zero] at g2
  exact ⟨b, o, u, g1, g2, g3, g4, h2⟩
theorem na_row {N : Nat} {i : Int} {ls : List (List (List α))} {l : List (List α)} (hen : 0 < e.n) (hN : 0 < N) (hok : Ok w ρ [NA e N v cs ls.flatten]) (gl : ∀ a ∈ ls, a.length = N) (hx : idx ls i = some l) :
    ∃ b o, IdxOk v i N b o ∧ ∀ (k : Int) (y : List α), idx l k = some y → ∃ u, cs[i.toNat * N + k.toNat]? = some u ∧ (∀ w', Ok w' ρ [NA e N v cs ls.flatten] → cellsAt (hv w') b (o + k.toNat * 1) [u]) ∧ (∃ o' c', u = .slice o' y.length c') ∧ ls.flatten[i.toNat * N + k.toNat]? = some y ∧ k.toNat < N := by
  obtain ⟨h0, h1, h2⟩ := idx_some hx
  have hl := gl l (List.mem_of_getElem? h2)
  have h00 : idx l ((0 : Nat) : Int) = some (l[0]'(by omega)) := by unfold idx; simp [List.getElem?_eq_getElem (show 0 < l.length by omega)]
  obtain ⟨f1, f2, f3⟩ := flat_idx gl hx h00
  obtain ⟨b, o, u0, g1, _⟩ := na_at hen hok f3 f2 f1
  refine ⟨b, o, g1, fun k y hy => ?_⟩
  obtain ⟨q1, q2, q3⟩ := flat_idx gl hx hy
  obtain ⟨b', o', u, r1, r2, r3, r4⟩ := na_at hen hok q3 q2 q1
  obtain ⟨a0, len, cap, k1, k2, k3, k4⟩ := g1
  obtain ⟨a0', len', cap', m1, m2, m3, m4⟩ := r1
  rw [k1] at m1
  injection m1 with m1 _ _
  injection m1 with m1
  injection m1 with m1 m5
  subst m1 m5
  rw [← k4] at m4
  subst m4
  exact ⟨u, r2, fun w' ok' => by rw [Nat.mul_one]; exact r3 w' ok', r4, q1, q2⟩
theorem Q_lenI {β : Type} {t et : TypeId} {x : Operand} {u : Value} {l : List β} (hl : ∃ o c, u = .slice o l.length c) (ht : P.underlying t = some (.slice et)) (hx : ev E x = some u) :
    Qv P E ⟨d, .call { callee := .builtin .len, args := #[x], argTypes := #[t] }, ty, pos, af, g⟩ (.int .i64 l.length) w := by
  obtain ⟨o, c, rfl⟩ := hl
  exact Q_lenS ht hx
theorem E_stN1 {T : TypeId} {x y : Operand} {by_ b o : Nat} {i : Int} {z u : Value} {y' : List α} {ys : List (List α)} {c : List Value} (hf : Flat e) (H : Hp C w ρ (Arr u e.n c :: NH e 1 v cs xs i.toNat :: hs)) (hty : Ty P T 1 by_ z false) (hi : IdxOk v i 1 b o)
    (hx : ev E x = some (.pointer (some ⟨b, o, none⟩))) (hy : ev E y = some u) (hr : rdL e ρ y' c) (hs' : setI xs i y' = some ys) :
    Eff P E ⟨d, .store T x y, ty, pos, af, g⟩ w (fun _ w' => Hp C w' ρ (NA e 1 v (cs.set i.toNat u) ys :: hs)) := by
  obtain ⟨_, _, rfl⟩ := setI_some hs'
  exact E_stN (off := 0) hf H hty hi (by rw [Nat.mul_one, Nat.add_zero]) (by decide) hx hy hr
theorem E_stNN {T : TypeId} {x y : Operand} {N by_ b o : Nat} {i k : Int} {z u : Value} {y' : List α} {ls ls' : List (List (List α))} {l l' : List (List α)} {c : List Value} (hf : Flat e) (H : Hp C w ρ (Arr u e.n c :: NH e N v cs ls.flatten (i.toNat * N + k.toNat) :: hs)) (hty : Ty P T 1 by_ z false) (hi : IdxOk v i N b o)
    (hx : ev E x = some (.pointer (some ⟨b, o + k.toNat * 1, none⟩))) (hy : ev E y = some u) (hr : rdL e ρ y' c) (gl : ∀ a ∈ ls, a.length = N) (h1 : idx ls i = some l) (h2 : setI l k y' = some l') (h3 : setI ls i l' = some ls') :
    Eff P E ⟨d, .store T x y, ty, pos, af, g⟩ w (fun _ w' => Hp C w' ρ (NA e N v (cs.set (i.toNat * N + k.toNat) u) ls'.flatten :: hs)) := by
  obtain ⟨q1, q2⟩ := flat_set gl h1 h2 h3
  rw [q1]
  rw [Nat.mul_one] at hx
  refine E_stN (off := k.toNat) hf H hty hi rfl ?_ hx hy hr
  obtain ⟨_, b1, _⟩ := setI_some h2
  obtain ⟨_, _, a2⟩ := idx_some h1
  have := gl l (List.mem_of_getElem? a2)
  omega
theorem E_stI1 {T : TypeId} {x y : Operand} {m by_ b o : Nat} {i k : Int} {z u sv : Value} {ag : Bool} {l l' : List α} {a : α} {ys : List (List α)} {c : List Value} (hf : Flat e) (H : Hp C w ρ (NA e 1 v cs xs :: hs)) (hu : cs[i.toNat]? = some u) (hl : xs[i.toNat]? = some l) (hty : Ty P T m by_ z ag) (hm : m = e.n)
    (hi : IdxOk u k e.n b o) (hx : ev E x = some (.pointer (some ⟨b, o, none⟩))) (hy : ev E y = some sv) (hvc : sv.cells = c.toArray) (hr : e.rd ρ a c) (h1 : setI l k a = some l') (h2 : setI xs i l' = some ys) :
    Eff P E ⟨d, .store T x y, ty, pos, af, g⟩ w (fun _ w' => Hp C w' ρ (NA e 1 v cs ys :: hs)) := by
  obtain ⟨_, b1, rfl⟩ := setI_some h1
  obtain ⟨_, _, rfl⟩ := setI_some h2
  exact E_stI hf H hu hl hty hm hi b1 hx hy hvc hr
theorem E_appN1 {t et : TypeId} {x y : Operand} {v2 : Value} {by_ : Nat} {z : Value} {ag : Bool} {ds : List Value} {ys zs : List (List α)} (H : Hp C w ρ (NA e 1 v cs xs :: NA e 1 v2 ds ys :: hs)) (ht : P.underlying t = some (.slice et)) (hty : Ty P et 1 by_ z ag) (hzs : z.cells.size = 1) (hby : by_ ≤ 32768)
    (hx : ev E x = some v) (hy : ev E y = some v2) (h1 : app xs ys = some zs) :
    Eff P E ⟨d, .call { callee := .builtin .append, args := #[x, y], argTypes := #[t, t] }, ty, pos, af, g⟩ w (fun u w' => Hp C w' ρ (NA e 1 u (cs ++ ds) zs :: hs)) := by
  obtain ⟨q1, rfl⟩ := app_some h1
  exact (E_appN H ht hty hzs (by decide) hby hx hy (by omega)).mono fun _ _ h => h.1
theorem inn_rd {ρ' : View} {j : Nat} {u : Value} {l : List α} (hen : 0 < e.n) (_hl : View.le ρ ρ') (hp : (NA e n v cs xs).P ρ') (hu : cs[j]? = some u) (hx : xs[j]? = some l) : RdSl ρ' e u l := by
  obtain ⟨u', c, h3, h4, h5⟩ := hp.2.get hx
  obtain rfl := Option.some.inj (hu.symm.trans h3)
  exact arr_rd (ρ := nov) hen (nov_le ρ') h4 h5
theorem app_alias {w : World} {ρ : View} {v : Value} {ds : List Value} {ys zs : List (List α)} {j : Nat} {u : Value} {x : List α} (hok : Ok w ρ [NA e 1 v cs xs]) (h1 : app xs ys = some zs) (hu : ds[j]? = some u) (hx : ys[j]? = some x) : (cs ++ ds)[xs.length + j]? = some u ∧ zs[xs.length + j]? = some x := by
  obtain ⟨_, rfl⟩ := app_some h1
  obtain ⟨_, h2⟩ := hok.get (k := 0) rfl
  have hl := h2.len
  rw [List.getElem?_append_right (by omega), List.getElem?_append_right (by omega)]
  rw [hl, Nat.add_sub_cancel_left]
  exact ⟨hu, hx⟩
theorem set_alias {j : Nat} {u u' : Value} (hu : cs[j]? = some u) : (cs.set j u')[j]? = some u' := List.getElem?_set_self (List.getElem?_eq_some_iff.1 hu).1
theorem setI_get {β : Type} {ls ls' : List β} {i : Int} {y : β} (h : setI ls i y = some ls') : ls'[i.toNat]? = some y := by
  obtain ⟨_, h1, rfl⟩ := setI_some h
  exact List.getElem?_set_self h1
/-- x.f of a value -/
theorem Q_field1 {T : TypeId} {x : Operand} {f : Nat} {fs : Array Field} {fd : Field} {vs : List Value} {u : Value} {by_ : Nat} {z : Value} (hT : P.underlying T = some (.struct fs)) (hf' : fs[f]? = some fd) (hty : Ty P fd.type 1 by_ z false) (hx : ev E x = some (.agg vs.toArray)) (hu : vs[fd.offset]? = some u) :
    Qv P E ⟨d, .field T x f, ty, pos, af, g⟩ u w := fun n a hf => by
  simp [execOp, hf.eval hx, Instr.field, run_underlying hT, hf', asAgg, part, hty.isAgg, hu]
theorem Q_fieldN {T : TypeId} {x : Operand} {f m : Nat} {fs : Array Field} {fd : Field} {vs us : List Value} {by_ : Nat} {z : Value} (hT : P.underlying T = some (.struct fs)) (hf' : fs[f]? = some fd) (hty : Ty P fd.type m by_ z true) (hx : ev E x = some (.agg vs.toArray)) (hu : (vs.drop fd.offset).take m = us) :
    Qv P E ⟨d, .field T x f, ty, pos, af, g⟩ (.agg us.toArray) w := fun n a hf => by
  subst hu
  have e1 : (vs.toArray.extract fd.offset (fd.offset + m)) = ((vs.drop fd.offset).take m).toArray := by
    apply Array.ext'
    simp
  simp [execOp, hf.eval hx, Instr.field, run_underlying hT, hf', asAgg, part, hty.isAgg, hty.sizeOf, e1]
end
end Go.Eng
