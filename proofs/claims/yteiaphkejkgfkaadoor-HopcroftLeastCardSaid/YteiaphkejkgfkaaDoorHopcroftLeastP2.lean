/-
  PLAIN LEAN, no program in sight: what the pure functions answer.
-/
import Derived.Test.YteiaphkejkgfkaaDoorHopcroftLeastP1
namespace Go.Proofs.YteiaphkejkgfkaaDoor
open Go Go.Eng
set_option maxRecDepth 100000
section
variable {N : Nat} {rows : List (List Int)} {rule entry : List Int}
/-- W holds a task by c for the part of x or of y -/
def Wk (work : List (Int × Int)) (part : List Int) (c : Nat) (x y : Int) : Prop := (pt part x, (c : Int)) ∈ work ∨ (pt part y, (c : Int)) ∈ work
structure HInv (rows : List (List Int)) (rule : List Int) (X : Nat → Int → Int → Prop) (part : List Int) (list : List (List Int)) (work : List (Int × Int)) : Prop where
  ps : PSt rows.length rows.length part list
  rul : ∀ a b : Int, 0 ≤ a ∧ a < (rows.length : Int) → 0 ≤ b ∧ b < (rows.length : Int) → pt part a = pt part b → rule.getD a.toNat 0 = rule.getD b.toNat 0
  alk : ∀ a b : Int, 0 ≤ a ∧ a < (rows.length : Int) → 0 ≤ b ∧ b < (rows.length : Int) → Alk rows rule a b → pt part a = pt part b
  wk : ∀ t ∈ work, ∃ p c : Nat, p < list.length ∧ c < 256 ∧ t = ((p : Int), (c : Int))
  st : ∀ a b : Int, 0 ≤ a ∧ a < (rows.length : Int) → 0 ≤ b ∧ b < (rows.length : Int) → pt part a = pt part b → ∀ c : Nat, c < 256 →
    pt part (nxt rows a c) = pt part (nxt rows b c) ∨ Wk work part c (nxt rows a c) (nxt rows b c) ∨ X c a b
  ms : (rows.length - list.length) * 257 + work.length ≤ rows.length * 257
/-- a split by what alike states are both in keeps all this -/
theorem HInv.split {X : Nat → Int → Int → Prop} {p : Nat} {part part' frm : List Int} {list list' : List (List Int)} {work work' : List (Int × Int)} (hs : Sz rows rule entry) (h : Rt rows rule entry) (hI : HInv rows rule X part list work)
    (hal : ∀ a b : Int, 0 ≤ a ∧ a < (rows.length : Int) → 0 ≤ b ∧ b < (rows.length : Int) → Alk rows rule a b → (a ∈ frm ↔ b ∈ frm))
    (h1 : PSt rows.length rows.length part' list')
    (h2 : ∀ s : Int, 0 ≤ s ∧ s < (rows.length : Int) → pt part' s = pt part s ∨ (pt part s = (p : Int) ∧ pt part' s = (list.length : Int)))
    (h3 : ∀ a b : Int, 0 ≤ a ∧ a < (rows.length : Int) → 0 ≤ b ∧ b < (rows.length : Int) → (pt part' a = pt part' b ↔ pt part a = pt part b ∧ (pt part a = (p : Int) → (a ∈ frm ↔ b ∈ frm))))
    (h4 : (list'.length = list.length ∧ work' = work) ∨ (list'.length = list.length + 1 ∧ work' = work ++ lat list.length)) : HInv rows rule X part' list' work' := by
  have hsub : ∀ t ∈ work, t ∈ work' := by
    intro t ht
    rcases h4 with ⟨_, rfl⟩ | ⟨_, rfl⟩
    · exact ht
    · exact List.mem_append.2 (.inl ht)
  -- what is moved has its tasks
  have hmv : ∀ s : Int, 0 ≤ s ∧ s < (rows.length : Int) → ∀ c : Nat, c < 256 → pt part' s ≠ pt part s → (pt part' s, (c : Int)) ∈ work' := by
    intro s hs c hc hne
    rcases h2 s hs with h | ⟨_, h⟩
    · exact absurd h hne
    · have := (h1.pr s hs).2
      rcases h4 with ⟨hl, _⟩ | ⟨_, rfl⟩
      · omega
      · rw [h]
        exact List.mem_append.2 (.inr (mem_lat hc))
  have hm' := h1.many
  refine ⟨h1, fun a b ha hb he => hI.rul a b ha hb ((h3 a b ha hb).1 he).1, fun a b ha hb hk => (h3 a b ha hb).2 ⟨hI.alk a b ha hb hk, fun _ => hal a b ha hb hk⟩, fun t ht => ?_, fun a b ha hb he c hc => ?_, ?_⟩
  · rcases h4 with ⟨hl, rfl⟩ | ⟨hl, rfl⟩
    · rw [hl]; exact hI.wk t ht
    · rcases List.mem_append.1 ht with ht | ht
      · obtain ⟨q, c, q1, q2, q3⟩ := hI.wk t ht
        exact ⟨q, c, by omega, q2, q3⟩
      · obtain ⟨c, c1, c2⟩ := lat_mem ht
        exact ⟨list.length, c, by omega, c1, c2⟩
  · have hx := nxt_rng hs h ha (c := (c : Int)) (by omega)
    have hy := nxt_rng hs h hb (c := (c : Int)) (by omega)
    have hst := hI.st a b ha hb ((h3 a b ha hb).1 he).1 c hc
    generalize nxt rows a (c : Int) = x at *
    generalize nxt rows b (c : Int) = y at *
    by_cases hx' : pt part' x = pt part x
    · by_cases hy' : pt part' y = pt part y
      · unfold Wk at hst ⊢
        rw [hx', hy']
        rcases hst with q | (q | q) | q
        · exact .inl q
        · exact .inr (.inl (.inl (hsub _ q)))
        · exact .inr (.inl (.inr (hsub _ q)))
        · exact .inr (.inr q)
      · exact .inr (.inl (.inr (hmv y hy c hc hy')))
    · exact .inr (.inl (.inl (hmv x hx c hc hx')))
  · have := hI.ms
    rcases h4 with ⟨hl, rfl⟩ | ⟨hl, rfl⟩
    · rw [hl]; exact this
    · rw [List.length_append, lat_len]
      omega
/-- amid the splits of one task: the parts from z on are new, of those before the ones in the list ps are to be split, j are -/
structure HMid (rows : List (List Int)) (rule : List Int) (X : Nat → Int → Int → Prop) (frm ps : List Int) (z j : Nat) (part : List Int) (list : List (List Int)) (work : List (Int × Int)) : Prop where
  i : HInv rows rule X part list work
  zl : z ≤ list.length
  un : ∀ a b : Int, 0 ≤ a ∧ a < (rows.length : Int) → 0 ≤ b ∧ b < (rows.length : Int) → pt part a = pt part b → (pt part a ∈ ps.take j ∨ (z : Int) ≤ pt part a) → (a ∈ frm ↔ b ∈ frm)
  fr : ∀ a : Int, a ∈ frm → pt part a ∈ ps ∨ (z : Int) ≤ pt part a
theorem run_parts {X : Nat → Int → Int → Prop} {part frm ps : List Int} {B : List (List (List Int))} {list : List (List Int)} {work : List (Int × Int)} (hN : 4294967296 ≤ N) (hs : Sz rows rule entry) (h : Rt rows rule entry)
    (hal : ∀ a b : Int, 0 ≤ a ∧ a < (rows.length : Int) → 0 ≤ b ∧ b < (rows.length : Int) → Alk rows rule a b → (a ∈ frm ↔ b ∈ frm)) (hfr : ∀ a ∈ frm, 0 ≤ a ∧ a < (rows.length : Int)) (hfl : frm.length < 4294967296)
    (hps : Acc list.length ps) (hM : HMid rows rule X frm ps list.length 0 part list work) :
    ∃ part' list' work', iterO N (fun s => F_hopcroft_splitter_run_l3 N rows rule entry B frm ps s.1 s.2.1 s.2.2.1 s.2.2.2) (part, list, work, 0) = some (part', list', work') ∧ HMid rows rule X frm ps list.length ps.length part' list' work' ∧
      (rows.length - list'.length) * 257 + work'.length ≤ (rows.length - list.length) * 257 + work.length := by
  have hn2 := h.n2
  have hpl := hps.len
  have hml := hM.i.ps.many
  obtain ⟨s, h1, h2, h3⟩ := loop_inv (f := fun s => F_hopcroft_splitter_run_l3 N rows rule entry B frm ps s.1 s.2.1 s.2.2.1 s.2.2.2) (fun j (s : List Int × List (List Int) × List (Int × Int)) => (s.1, s.2.1, s.2.2, (j : Int))) (fun s => (s.1, s.2.1, s.2.2)) ps
    (fun j s => HMid rows rule X frm ps list.length j s.1 s.2.1 s.2.2 ∧ (rows.length - s.2.1.length) * 257 + s.2.2.length ≤ (rows.length - list.length) * 257 + work.length) (N := N) (s := (part, list, work)) (by omega) ⟨hM, Nat.le_refl _⟩
    (fun j p s hx hI => by
      obtain ⟨part1, list1, work1⟩ := s
      obtain ⟨⟨k1, k2, k3, k4⟩, k5⟩ := hI
      simp only at k1 k2 k3 k4 k5
      have hj := lt_len hx
      have hpr := hps.rng p (List.mem_of_getElem? hx)
      obtain ⟨pn, rfl⟩ : ∃ pn : Nat, p = (pn : Int) := ⟨p.toNat, by omega⟩
      have hms := k1.ms
      obtain ⟨part', list', work', q1, q2, q3, q4, q5⟩ := split_spec (N := N) (rows := rows) (rule := rule) (entry := entry) (B := B) (p := pn) (frm := frm) (work := work1) hN (by omega) k1.ps (by omega) hfl (by omega)
      have hI' := k1.split hs h hal q2 q3 q4 q5
      have hm' := q2.many
      refine ⟨(part', list', work'), ?_, ⟨hI', by simp only; omega, fun a b ha hb he hor => ?_, fun a ha => ?_⟩, ?_⟩
      · unfold F_hopcroft_splitter_run_l3
        simp only [show ((j : Int) < (ps.length : Int)) by omega, decide_true, if_true, idx_of hx, q1, bind, Option.bind_some]
        rw [w64_succ (by omega)]
      · simp only at he hor
        obtain ⟨e1, e2⟩ := (q4 a b ha hb).1 he
        by_cases hap : pt part1 a = (pn : Int)
        · exact e2 hap
        · have ea : pt part' a = pt part1 a := (q3 a ha).resolve_right fun q => hap q.1
          refine k3 a b ha hb e1 ?_
          rw [ea] at hor
          rcases hor with hor | hor
          · have ht : ps.take (j + 1) = ps.take j ++ [(pn : Int)] := by rw [List.take_add_one, hx]; rfl
            rw [ht] at hor
            rcases List.mem_append.1 hor with q | q
            · exact .inl q
            · simp at q
              exact absurd q hap
          · exact .inr hor
      · simp only
        rcases q3 a (hfr a ha) with e | ⟨_, e⟩
        · rw [e]; exact k4 a ha
        · rw [e]; exact .inr (by omega)
      · simp only
        rcases q5 with ⟨e1, e2⟩ | ⟨e1, e2⟩
        · rw [e1, e2]; exact k5
        · rw [e2, List.length_append, lat_len]
          omega)
    (fun s _ => by unfold F_hopcroft_splitter_run_l3; simp)
  exact ⟨s.1, s.2.1, s.2.2, h1, h2, h3⟩
/-- the states whose step by c leads into a list -/
theorem run_from {c : Nat} {B : List (List (List Int))} {l : List Int} (hN : 4294967296 ≤ N) (h : Rt rows rule entry) (hB : BackOk rows (fun _ _ => True) B) (hc : c < 256) (hl : Acc rows.length l) :
    ∃ frm, iterO N (fun s => F_hopcroft_splitter_run_l1 N B (c : Int) l s.1 s.2) ([], 0) = some frm ∧ frm.length ≤ 40000 ∧ ∀ a : Int, a ∈ frm ↔ (0 ≤ a ∧ a < (rows.length : Int)) ∧ nxt rows a (c : Int) ∈ l := by
  have hn2 := h.n2
  have hll := hl.len
  obtain ⟨frm, h1, h2, h3⟩ := loop_inv (f := fun s => F_hopcroft_splitter_run_l1 N B (c : Int) l s.1 s.2) (fun i (s : List Int) => (s, (i : Int))) id l
    (fun i s => s.length ≤ 200 * i ∧ ∀ a : Int, a ∈ s ↔ (0 ≤ a ∧ a < (rows.length : Int)) ∧ nxt rows a (c : Int) ∈ l.take i) (N := N) (s := []) (by omega) ⟨by simp, fun a => by simp⟩
    (fun i y s hx hI => by
      obtain ⟨k1, k2⟩ := hI
      have hi := lt_len hx
      have hyr := hl.rng y (List.mem_of_getElem? hx)
      obtain ⟨yn, rfl⟩ : ∃ yn : Nat, y = (yn : Int) := ⟨y.toNat, by omega⟩
      obtain ⟨r, r1, _, r3⟩ := hB.get (show yn < rows.length by omega) hc
      obtain ⟨m1, m2⟩ := hB.m yn c (by omega) hc
      have hml := m1.len
      refine ⟨s ++ bv B yn c, ?_, by rw [List.length_append]; omega, fun a => ?_⟩
      · unfold F_hopcroft_splitter_run_l1
        simp only [show ((i : Int) < (l.length : Int)) by omega, decide_true, if_true, idx_of hx, idx_of r1, idx_of r3, bind, Option.bind_some]
        rw [app_eq (by omega)]
        simp only [Option.bind_some]
        rw [w64_succ (by omega)]
      · have ht : l.take (i + 1) = l.take i ++ [(yn : Int)] := by rw [List.take_add_one, hx]; rfl
        rw [List.mem_append, k2 a, m2 a, ht, List.mem_append]
        constructor
        · rintro (⟨a1, a2⟩ | ⟨j, j1, j2, _, j3⟩)
          · exact ⟨a1, .inl a2⟩
          · subst j1
            exact ⟨by omega, .inr (by simp [j3])⟩
        · rintro ⟨a1, a2 | a2⟩
          · exact .inl ⟨a1, a2⟩
          · simp at a2
            exact .inr ⟨a.toNat, by omega, by omega, trivial, by rw [show ((a.toNat : Nat) : Int) = a by omega]; exact a2⟩)
    (fun s _ => by unfold F_hopcroft_splitter_run_l1; simp)
  rw [List.take_length] at h3
  exact ⟨frm, h1, by omega, h3⟩
/-- the parts of the states of a list -/
theorem run_which {n m : Nat} {part frm : List Int} {list : List (List Int)} (hN : 4294967296 ≤ N) (hP : PSt n n part list) (hm : list.length = m) (hm2 : m ≤ 200) (hf : frm.length ≤ 40000) (hfr : ∀ a ∈ frm, 0 ≤ a ∧ a < (n : Int)) :
    ∃ ps, iterO N (fun s => F_hopcroft_splitter_run_l2 N part frm s.1 s.2) ([], 0) = some ps ∧ Acc m ps ∧ ∀ a ∈ frm, pt part a ∈ ps := by
  obtain ⟨ps, h1, h2, h3⟩ := loop_inv (f := fun s => F_hopcroft_splitter_run_l2 N part frm s.1 s.2) (fun i (s : List Int) => (s, (i : Int))) id frm
    (fun i s => Acc m s ∧ ∀ a ∈ frm.take i, pt part a ∈ s) (N := N) (s := []) (by omega) ⟨acc_nil m, fun a ha => by simp at ha⟩
    (fun i a s hx hI => by
      obtain ⟨k1, k2⟩ := hI
      have hi := lt_len hx
      have har := hfr a (List.mem_of_getElem? hx)
      have hpr := hP.pr a har
      have hsl := k1.len
      have gi := pt_idx hP.pl har
      have hi2 := k1.ins (x := pt part a) ⟨hpr.1, by omega⟩
      refine ⟨ins s (pt part a), ?_, hi2, fun b hb => ?_⟩
      · unfold F_hopcroft_splitter_run_l2
        simp only [show ((i : Int) < (frm.length : Int)) by omega, decide_true, if_true, idx_of hx, gi, contains_spec hN (show s.length < 4294967296 by omega), bind, Option.bind_some]
        by_cases hma : pt part a ∈ s
        · simp only [hma, decide_true, Bool.not_true, Bool.false_eq_true, if_false, Option.bind_some, ins, if_true]
          rw [w64_succ (by omega)]
        · simp only [hma, decide_false, Bool.not_false, if_true, ins, if_false]
          rw [app_eq (by rw [List.length_singleton]; omega)]
          simp only [Option.bind_some]
          rw [w64_succ (by omega)]
      · have ht : frm.take (i + 1) = frm.take i ++ [a] := by rw [List.take_add_one, hx]; rfl
        rw [ht] at hb
        rcases List.mem_append.1 hb with hb | hb
        · exact mem_ins.2 (.inl (k2 b hb))
        · simp at hb; subst hb
          exact mem_ins.2 (.inr rfl))
    (fun s _ => by unfold F_hopcroft_splitter_run_l2; simp)
  rw [List.take_length] at h3
  exact ⟨ps, h1, h2, h3⟩
theorem run_spec2 {B : List (List (List Int))} {part : List Int} {list : List (List Int)} {work : List (Int × Int)} (hN : 4294967296 ≤ N) (hs : Sz rows rule entry) (h : Rt rows rule entry) (hB : BackOk rows (fun _ _ => True) B) (hI : HInv rows rule (fun _ _ _ => False) part list work) :
    ∃ part' list' work', F_hopcroft_splitter_run N rows rule entry B part list work = some (part', list', work') ∧ part'.length = rows.length ∧ ∀ a b : Int, 0 ≤ a ∧ a < (rows.length : Int) → 0 ≤ b ∧ b < (rows.length : Int) → (pt part' a = pt part' b ↔ Alk rows rule a b) := by
  have hn2 := h.n2
  have key : ∃ r : List Int × List (List Int) × List (Int × Int), iterO N (fun s => F_hopcroft_splitter_run_l0 N rows rule entry B s.1 s.2.1 s.2.2) (part, list, work) = some r ∧ (r.1.length = rows.length ∧ ∀ a b : Int, 0 ≤ a ∧ a < (rows.length : Int) → 0 ≤ b ∧ b < (rows.length : Int) → (pt r.1 a = pt r.1 b ↔ Alk rows rule a b)) := by
    refine iterO_while (f := fun s => F_hopcroft_splitter_run_l0 N rows rule entry B s.1 s.2.1 s.2.2) (fun s => HInv rows rule (fun _ _ _ => False) s.1 s.2.1 s.2.2) (fun s => (rows.length - s.2.1.length) * 257 + s.2.2.length)
      (fun r => r.1.length = rows.length ∧ ∀ a b : Int, 0 ≤ a ∧ a < (rows.length : Int) → 0 ≤ b ∧ b < (rows.length : Int) → (pt r.1 a = pt r.1 b ↔ Alk rows rule a b)) ?_ (N := N) (s := (part, list, work)) hI (by have := hI.ms; simp only; omega)
    rintro ⟨part1, list1, work1⟩ hI1
    simp only at hI1
    by_cases hw : work1 = []
    · right
      subst hw
      refine ⟨(part1, list1, []), ?_, hI1.ps.pl, fun a b ha hb => ⟨fun he => ?_, hI1.alk a b ha hb⟩⟩
      · unfold F_hopcroft_splitter_run_l0
        simp
      · refine alk_of (R := fun a b => pt part1 a = pt part1 b) (n := rows.length) (fun i k hi hk q => hI1.rul i k hi hk q) (fun i c hi hc => nxt_rng hs h hi hc) (fun i k c hi hk q hc => ?_) ha hb he
        have := hI1.st i k hi hk q c.toNat (by omega)
        rw [show ((c.toNat : Nat) : Int) = c by omega] at this
        rcases this with q | (q | q) | q
        · exact q
        · simp at q
        · simp at q
        · exact q.elim
    · left
      obtain ⟨w0, t, rfl⟩ : ∃ w0 t, work1 = w0 ++ [t] := ⟨work1.dropLast, work1.getLast hw, (List.dropLast_concat_getLast hw).symm⟩
      obtain ⟨p, c, hp, hc, rfl⟩ := hI1.wk t (by simp)
      have hml := hI1.ps.many
      have hms := hI1.ms
      rw [List.length_append, List.length_singleton] at hms
      obtain ⟨hA, _, hmem⟩ := hI1.ps.ls p hp
      have gl : list1[p]? = some (list1.getD p []) := by rw [getD_of (List.getElem?_eq_getElem hp)]; exact List.getElem?_eq_getElem hp
      obtain ⟨frm, f1, f2, f3⟩ := run_from (N := N) hN h hB hc hA
      have hfr : ∀ a ∈ frm, 0 ≤ a ∧ a < (rows.length : Int) := fun a ha => ((f3 a).1 ha).1
      have hmem' : ∀ a : Int, 0 ≤ a ∧ a < (rows.length : Int) → (a ∈ frm ↔ pt part1 (nxt rows a (c : Int)) = (p : Int)) := by
        intro a ha
        have hx := nxt_rng hs h ha (c := (c : Int)) (by omega)
        rw [f3 a, hmem]
        exact ⟨fun q => q.2.2, fun q => ⟨ha, hx, q⟩⟩
      have hal : ∀ a b : Int, 0 ≤ a ∧ a < (rows.length : Int) → 0 ≤ b ∧ b < (rows.length : Int) → Alk rows rule a b → (a ∈ frm ↔ b ∈ frm) := by
        intro a b ha hb hk
        rw [hmem' a ha, hmem' b hb, hI1.alk _ _ (nxt_rng hs h ha (c := (c : Int)) (by omega)) (nxt_rng hs h hb (c := (c : Int)) (by omega)) (hk.step (by omega))]
      obtain ⟨ps, p1, p2, p3⟩ := run_which (N := N) hN hI1.ps rfl (by omega) f2 hfr
      have hM : HMid rows rule (fun c' a b => c' = c ∧ ¬ (a ∈ frm ↔ b ∈ frm)) frm ps list1.length 0 part1 list1 w0 := by
        refine ⟨⟨hI1.ps, hI1.rul, hI1.alk, fun t ht => hI1.wk t (by simp [ht]), fun a b ha hb he c' hc' => ?_, by omega⟩, Nat.le_refl _, fun a b ha hb he hor => ?_, fun a ha => .inl (p3 a ha)⟩
        · rcases hI1.st a b ha hb he c' hc' with q | q | q
          · exact .inl q
          · by_cases hq : Wk w0 part1 c' (nxt rows a c') (nxt rows b c')
            · exact .inr (.inl hq)
            · by_cases he' : pt part1 (nxt rows a (c' : Int)) = pt part1 (nxt rows b (c' : Int))
              · exact .inl he'
              · refine .inr (.inr ?_)
                unfold Wk at q hq
                rcases q with q | q
                · rcases List.mem_append.1 q with q | q
                  · exact absurd (.inl q) hq
                  · simp at q
                    obtain ⟨q1, q2⟩ := q
                    have hcc : c' = c := by omega
                    subst hcc
                    refine ⟨rfl, fun hh => ?_⟩
                    have := hh.1 ((hmem' a ha).2 q1)
                    exact he' (q1.trans ((hmem' b hb).1 this).symm)
                · rcases List.mem_append.1 q with q | q
                  · exact absurd (.inr q) hq
                  · simp at q
                    obtain ⟨q1, q2⟩ := q
                    have hcc : c' = c := by omega
                    subst hcc
                    refine ⟨rfl, fun hh => ?_⟩
                    have := hh.2 ((hmem' b hb).2 q1)
                    exact he' (((hmem' a ha).1 this).trans q1.symm)
          · exact q.elim
        · have := hI1.ps.pr a ha
          rcases hor with hor | hor
          · simp at hor
          · omega
      obtain ⟨part', list', work', r1, r2, r3⟩ := run_parts (N := N) (B := B) hN hs h hal hfr (by omega) p2 hM
      refine ⟨(part', list', work'), ?_, ⟨r2.i.ps, r2.i.rul, r2.i.alk, r2.i.wk, fun a b ha hb he c' hc' => ?_, r2.i.ms⟩, ?_⟩
      · unfold F_hopcroft_splitter_run_l0
        have hpos : decide (((w0 ++ [((p : Int), (c : Int))]).length : Int) > 0) = true := decide_eq_true (by simp only [List.length_append, List.length_singleton]; omega)
        have hlen : w64 (((w0 ++ [((p : Int), (c : Int))]).length : Int) - 1) = (w0.length : Int) := by
          rw [List.length_append, List.length_singleton, w64, wrap64] <;> omega
        have hix : idx (w0 ++ [((p : Int), (c : Int))]) (w0.length : Int) = some ((p : Int), (c : Int)) := idx_of List.getElem?_concat_length
        have hsl : slc (w0 ++ [((p : Int), (c : Int))]) 0 (w0.length : Int) = some w0 := by
          unfold slc
          rw [if_pos (by simp; omega)]
          simp
        simp only [hpos, if_true, hlen, hix, hsl, idx_of gl, bind, Option.bind_some]
        rw [f1]
        simp only [Option.bind_some]
        rw [p1]
        simp only [Option.bind_some]
        rw [r1]
        rfl
      · rcases r2.i.st a b ha hb he c' hc' with q | q | ⟨_, q⟩
        · exact .inl q
        · exact .inr (.inl q)
        · exfalso
          refine q ⟨fun hm => ?_, fun hm => ?_⟩
          · refine (r2.un a b ha hb he ?_).1 hm
            rw [List.take_length]
            exact r2.fr a hm
          · refine (r2.un a b ha hb he ?_).2 hm
            rw [List.take_length, he]
            exact r2.fr b hm
      · simp only [List.length_append, List.length_singleton]
        omega
  obtain ⟨⟨part', list', work'⟩, k1, k2, k3⟩ := key
  refine ⟨part', list', work', ?_, k2, k3⟩
  unfold F_hopcroft_splitter_run
  rw [k1]
  rfl
/-- THE PARTS of the code: the classes of alike states -/
theorem parts_spec (hN : 4294967296 ≤ N) (hs : Sz rows rule entry) (h : Rt rows rule entry) : ∃ (P : List Int) (m : Nat), F_hopcroft_parts N rows rule entry = some (P, (m : Int)) ∧ Cls rows rule P m := by
  have hn2 := h.n2
  obtain ⟨B, part, list, work, b1, b2, b3, b4, b5⟩ := begin_spec2 (N := N) hN hs h
  have hml := b2.p.many
  have hI : HInv rows rule (fun _ _ _ => False) part list work := by
    refine ⟨b2.p, fun a b ha hb => (b2.r a b ha hb).1, fun a b ha hb hk => (b2.r a b ha hb).2 hk.rul, b5, fun a b ha hb _ c hc => .inr (.inl (.inl ?_)), by omega⟩
    have hx := nxt_rng hs h ha (c := (c : Int)) (by omega)
    have hp := b2.p.pr _ hx
    have := b4 (pt part (nxt rows a (c : Int))).toNat c (by omega) hc
    rwa [show (((pt part (nxt rows a (c : Int))).toNat : Nat) : Int) = pt part (nxt rows a (c : Int)) by omega] at this
  obtain ⟨part', list', work', r1, r2, r3⟩ := run_spec2 (N := N) hN hs h b2.b hI
  obtain ⟨s, h1, h2, h3, h4⟩ := loop_inv (f := fun s => F_hopcroft_parts_l0 N part' s.1 s.2.1 s.2.2) (fun i (s : List (Int × Int) × List Int) => ((i : Int), s.1, s.2)) (fun s => (s.1, s.2)) part'
    (fun i s => PC (fun a b => Alk rows rule (a : Int) (b : Int)) i s.2 s.1.length ∧ s.1.length ≤ i ∧ ∀ p v : Int, mget s.1 p = some v ↔ ∃ a : Nat, a < i ∧ pt part' (a : Int) = p ∧ s.2[a]? = some v) (N := N) (s := ([], [])) (by omega)
    ⟨.nil, Nat.le_refl _, fun p v => ⟨fun q => by simp [mget] at q, fun ⟨a, ha, _⟩ => by omega⟩⟩
    (fun i p s hx hI => by
      obtain ⟨known, out⟩ := s
      obtain ⟨k1, k2, k3⟩ := hI
      simp only at k1 k2 k3
      have hi := lt_len hx
      have hpi : pt part' (i : Int) = p := by unfold pt; rw [Int.toNat_natCast]; exact getD_of hx
      have hol := k1.len
      have same : ∀ a : Nat, a < i → (pt part' (a : Int) = p ↔ Alk rows rule (i : Int) (a : Int)) := fun a ha => by
        rw [← hpi, eq_comm]
        exact r3 (i : Int) (a : Int) (by omega) (by omega)
      cases hk : mget known p with
      | none =>
        have hno : ∀ a, a < i → ¬ Alk rows rule (i : Int) (a : Int) := fun a ha q => by
          have hal : a < out.length := by omega
          have := (k3 p out[a]).2 ⟨a, ha, (same a ha).2 q, List.getElem?_eq_getElem hal⟩
          rw [hk] at this
          cases this
        have hlen := mset_len (v := (known.length : Int)) hk
        have hself : mget (mset known p (known.length : Int)) p = some (known.length : Int) := by rw [mget_mset_g]; simp
        refine ⟨(mset known p (known.length : Int), out ++ [(known.length : Int)]), ?_, ?_, by simp only [hlen]; omega, fun q v => ?_⟩
        · unfold F_hopcroft_parts_l0
          simp only [show ((i : Int) < (part'.length : Int)) by omega, decide_true, if_true, idx_of hx, hk, Option.isSome_none, Bool.not_false, hself, Option.getD_some, bind, Option.bind_some]
          rw [app_eq (by rw [List.length_singleton]; omega)]
          simp only [Option.bind_some]
          rw [w64_succ (by omega)]
        · simp only [hlen]
          exact k1.new alk_eqv hno
        · simp only
          rw [mget_mset_g]
          by_cases hq : p = q
          · subst hq
            simp only [beq_self_eq_true, if_true]
            constructor
            · intro e
              refine ⟨i, by omega, hpi, ?_⟩
              rw [← hol, List.getElem?_concat_length]
              exact e
            · rintro ⟨a, a1, a2, a3⟩
              by_cases hai : a = i
              · subst hai
                rw [← hol, List.getElem?_concat_length] at a3
                exact a3
              · exact absurd ((same a (by omega)).1 a2) (hno a (by omega))
          · have : (p == q) = false := by simpa using hq
            rw [this]
            simp only [Bool.false_eq_true, if_false]
            rw [k3 q v]
            constructor
            · rintro ⟨a, a1, a2, a3⟩
              exact ⟨a, by omega, a2, by rw [List.getElem?_append_left (by omega)]; exact a3⟩
            · rintro ⟨a, a1, a2, a3⟩
              by_cases hai : a = i
              · subst hai
                exact absurd (hpi.symm.trans a2) hq
              · rw [List.getElem?_append_left (by omega)] at a3
                exact ⟨a, by omega, a2, a3⟩
      | some v0 =>
        obtain ⟨a0, c1, c2, c3⟩ := (k3 p v0).1 hk
        refine ⟨(known, out ++ [v0]), ?_, k1.old alk_eqv c1 ((same a0 c1).1 c2) c3, by simp only; omega, fun q v => ?_⟩
        · unfold F_hopcroft_parts_l0
          simp only [show ((i : Int) < (part'.length : Int)) by omega, decide_true, if_true, idx_of hx, hk, Option.isSome_some, Bool.not_true, Bool.false_eq_true, if_false, Option.getD_some, bind, Option.bind_some]
          rw [app_eq (by rw [List.length_singleton]; omega)]
          simp only [Option.bind_some]
          rw [w64_succ (by omega)]
        · simp only
          rw [k3 q v]
          constructor
          · rintro ⟨a, a1, a2, a3⟩
            exact ⟨a, by omega, a2, by rw [List.getElem?_append_left (by omega)]; exact a3⟩
          · rintro ⟨a, a1, a2, a3⟩
            by_cases hai : a = i
            · subst hai
              rw [← hol, List.getElem?_concat_length] at a3
              obtain rfl := Option.some.inj a3
              exact ⟨a0, c1, c2.trans (hpi.symm.trans a2), c3⟩
            · rw [List.getElem?_append_left (by omega)] at a3
              exact ⟨a, by omega, a2, a3⟩)
    (fun s _ => by unfold F_hopcroft_parts_l0; simp)
  rw [r2] at h2
  refine ⟨s.2, s.1.length, ?_, h2.cls⟩
  unfold F_hopcroft_parts
  rw [b1]
  simp only [bind, Option.bind_some]
  rw [r1]
  simp only [Option.bind_some]
  rw [show iterO N (fun s => F_hopcroft_parts_l0 N part' s.1 s.2.1 s.2.2) (0, [], []) = _ from h1]
  rfl
end
end Go.Proofs.YteiaphkejkgfkaaDoor
namespace Go.Proofs.YteiaphkejkgfkaaDoor
open Go Go.Eng
set_option maxRecDepth 100000
theorem RG.inv {Q : List Int} {x : Int} {k' : Nat} (h : RG (Q ++ [x]) k') : (RG Q k' ∧ x ∈ Q) ∨ ∃ k, k' = k + 1 ∧ RG Q k ∧ x = (k : Int) := by
  generalize hq : Q ++ [x] = R at h
  cases h with
  | nil => simp at hq
  | @old P _ y h hy =>
    obtain ⟨rfl, h2⟩ := List.append_inj' hq rfl
    obtain rfl := (List.cons.inj h2).1
    exact .inl ⟨h, hy⟩
  | @new P m h =>
    obtain ⟨rfl, h2⟩ := List.append_inj' hq rfl
    exact .inr ⟨m, rfl, h, (List.cons.inj h2).1⟩
theorem RG.take {P : List Int} {m : Nat} (h : RG P m) : ∀ i, ∃ k, RG (P.take i) k := by
  induction h with
  | nil => intro i; exact ⟨0, by simpa using RG.nil⟩
  | @old P m x h hx ih =>
    intro i
    by_cases hi : i ≤ P.length
    · rw [List.take_append_of_le_length hi]; exact ih i
    · rw [List.take_of_length_le (by simp; omega)]
      exact ⟨m, h.old hx⟩
  | @new P m h ih =>
    intro i
    by_cases hi : i ≤ P.length
    · rw [List.take_append_of_le_length hi]; exact ih i
    · rw [List.take_of_length_le (by simp; omega)]
      exact ⟨m + 1, h.new⟩
def mgRows (P : List Int) (m : Nat) (rows : List (List Int)) : List (List Int) := (List.range m).map fun (v : Nat) => (rows.getD (P.idxOf (v : Int)) []).map (pt P)
def mgRule (P : List Int) (m : Nat) (rule : List Int) : List Int := (List.range m).map fun (v : Nat) => rule.getD (P.idxOf (v : Int)) 0
def mgEntry (P entry : List Int) : List Int := entry.map (pt P)
section
variable {N : Nat} {rows : List (List Int)} {rule entry P : List Int} {m : Nat}
theorem Cls.pt_rng (hC : Cls rows rule P m) {s : Int} (hs : 0 ≤ s ∧ s < (rows.length : Int)) : 0 ≤ pt P s ∧ pt P s < m := by
  have hl : s.toNat < P.length := by have := hC.len; omega
  unfold pt
  rw [getD_of (List.getElem?_eq_getElem hl)]
  exact hC.rg.mem.1 (List.getElem_mem hl)
theorem Cls.pt_iff (hC : Cls rows rule P m) {a b : Int} (ha : 0 ≤ a ∧ a < (rows.length : Int)) (hb : 0 ≤ b ∧ b < (rows.length : Int)) : pt P a = pt P b ↔ Alk rows rule a b := by
  have hl : a.toNat < P.length := by have := hC.len; omega
  have hl' : b.toNat < P.length := by have := hC.len; omega
  have := hC.iff_ a.toNat b.toNat (by omega) (by omega)
  rw [show ((a.toNat : Nat) : Int) = a by omega, show ((b.toNat : Nat) : Int) = b by omega, List.getElem?_eq_getElem hl, List.getElem?_eq_getElem hl', Option.some.injEq] at this
  unfold pt
  rw [getD_of (List.getElem?_eq_getElem hl), getD_of (List.getElem?_eq_getElem hl')]
  exact this
/-- each number is a state's -/
theorem Cls.rep (hC : Cls rows rule P m) {v : Nat} (hv : v < m) : ((P.idxOf (v : Int) : Nat) : Int) < (rows.length : Int) ∧ pt P ((P.idxOf (v : Int) : Nat) : Int) = (v : Int) := by
  have hm : (v : Int) ∈ P := hC.rg.mem.2 (by omega)
  have hl := List.idxOf_lt_length_of_mem hm
  have hlen := hC.len
  refine ⟨by omega, ?_⟩
  unfold pt
  rw [Int.toNat_natCast, getD_of (List.getElem?_eq_getElem hl)]
  exact List.getElem_idxOf hl
theorem row_nxt (hs : Sz rows rule entry) {s : Int} (hr : 0 ≤ s ∧ s < (rows.length : Int)) : (rows.getD s.toNat []).length = 256 ∧ ∀ c : Nat, c < 256 → (rows.getD s.toNat [])[c]? = some (nxt rows s (c : Int)) := by
  have hl : s.toNat < rows.length := by omega
  have hw := hs.w _ (List.getElem_mem hl)
  have e : rows.getD s.toNat [] = rows[s.toNat] := getD_of (List.getElem?_eq_getElem hl)
  refine ⟨by rw [e]; exact hw, fun c hc => ?_⟩
  have hcl : c < rows[s.toNat].length := by omega
  unfold nxt
  rw [Int.toNat_natCast, e, getD_of (List.getElem?_eq_getElem hcl)]
  exact List.getElem?_eq_getElem hcl
/-- alike states have rows of the same parts, and one rule -/
theorem Cls.same (hs : Sz rows rule entry) (h : Rt rows rule entry) (hC : Cls rows rule P m) {a b : Int} (ha : 0 ≤ a ∧ a < (rows.length : Int)) (hb : 0 ≤ b ∧ b < (rows.length : Int)) (he : pt P a = pt P b) :
    (rows.getD a.toNat []).map (pt P) = (rows.getD b.toNat []).map (pt P) ∧ rule.getD a.toNat 0 = rule.getD b.toNat 0 := by
  have hk := (hC.pt_iff ha hb).1 he
  refine ⟨List.ext_getElem? fun c => ?_, hk.rul⟩
  obtain ⟨a1, a2⟩ := row_nxt hs ha
  obtain ⟨b1, b2⟩ := row_nxt hs hb
  by_cases hc : c < 256
  · rw [List.getElem?_map, List.getElem?_map, a2 c hc, b2 c hc]
    have := (hC.pt_iff (nxt_rng hs h ha (c := (c : Int)) (by omega)) (nxt_rng hs h hb (c := (c : Int)) (by omega))).2 (hk.step (by omega))
    simp [this]
  · rw [List.getElem?_eq_none (by rw [List.length_map]; omega), List.getElem?_eq_none (by rw [List.length_map]; omega)]
theorem mg_row (hs : Sz rows rule entry) (h : Rt rows rule entry) (hC : Cls rows rule P m) {s : Int} (hr : 0 ≤ s ∧ s < (rows.length : Int)) :
    (mgRows P m rows)[(pt P s).toNat]? = some ((rows.getD s.toNat []).map (pt P)) ∧ (mgRule P m rule)[(pt P s).toNat]? = some (rule.getD s.toNat 0) := by
  have hp := hC.pt_rng hr
  have hv : (pt P s).toNat < m := by omega
  obtain ⟨r1, r2⟩ := hC.rep hv
  have := hC.same hs h (a := ((P.idxOf (((pt P s).toNat : Nat) : Int) : Nat) : Int)) (b := s) (by omega) hr (by rw [r2]; omega)
  rw [Int.toNat_natCast] at this
  unfold mgRows mgRule
  rw [List.getElem?_map, List.getElem?_map, List.getElem?_range hv]
  simp only [Option.map_some]
  exact ⟨by rw [this.1], by rw [this.2]⟩
theorem mg_ext (hs : Sz rows rule entry) (h : Rt rows rule entry) (hC : Cls rows rule P m) {R : List (List Int)} {U : List Int} (hR : R.length = m) (hU : U.length = m)
    (hh : ∀ j : Nat, j < rows.length → R[(pt P (j : Int)).toNat]? = some ((rows.getD j []).map (pt P)) ∧ U[(pt P (j : Int)).toNat]? = some (rule.getD j 0)) : R = mgRows P m rows ∧ U = mgRule P m rule := by
  have key : ∀ v, v < m → R[v]? = (mgRows P m rows)[v]? ∧ U[v]? = (mgRule P m rule)[v]? := by
    intro v hv
    obtain ⟨r1, r2⟩ := hC.rep hv
    have h1 := hh (P.idxOf (v : Int)) (by omega)
    have h2 := mg_row hs h hC (s := ((P.idxOf (v : Int) : Nat) : Int)) (by omega)
    rw [r2, Int.toNat_natCast] at h1 h2
    rw [Int.toNat_natCast] at h2
    exact ⟨h1.1.trans h2.1.symm, h1.2.trans h2.2.symm⟩
  refine ⟨List.ext_getElem? fun v => ?_, List.ext_getElem? fun v => ?_⟩
  · by_cases hv : v < m
    · exact (key v hv).1
    · rw [List.getElem?_eq_none (by omega), List.getElem?_eq_none (by simp [mgRows]; omega)]
  · by_cases hv : v < m
    · exact (key v hv).2
    · rw [List.getElem?_eq_none (by omega), List.getElem?_eq_none (by simp [mgRule]; omega)]
/-- a row is put -/
theorem merge_row {row : List Int} {R : List (List Int)} {p : Nat} (hN : 4294967296 ≤ N) (hp : p < R.length) (hR : ∀ r ∈ R, r.length = 256) (hw : row.length = 256) (hr : ∀ y ∈ row, 0 ≤ y ∧ y < (P.length : Int)) :
    iterO N (fun s => F_hopcroft_Merge_l1 N P (p : Int) row s.1 s.2) (0, R) = some (R.set p (row.map (pt P))) := by
  obtain ⟨S, h1, h2, h3, h4⟩ := loop_inv (f := fun s => F_hopcroft_Merge_l1 N P (p : Int) row s.1 s.2) (fun c (s : List (List Int)) => ((c : Int), s)) id row
    (fun c s => s.length = R.length ∧ (∀ q, q ≠ p → s[q]? = R[q]?) ∧ ∃ r, s[p]? = some r ∧ r.length = 256 ∧ ∀ c', c' < c → r[c']? = (row.map (pt P))[c']?) (N := N) (s := R) (by omega)
    ⟨rfl, fun q _ => rfl, R[p], List.getElem?_eq_getElem hp, hR _ (List.getElem_mem hp), fun c' hc => by omega⟩
    (fun c y s hx hI => by
      obtain ⟨k1, k2, r, k3, k4, k5⟩ := hI
      have hc := lt_len hx
      have hyr := hr y (List.mem_of_getElem? hx)
      have hps : p < s.length := by omega
      have hcr : c < r.length := by omega
      have gy := pt_idx (part := P) (n := P.length) rfl hyr
      refine ⟨s.set p (r.set c (pt P y)), ?_, by simpa using k1, fun q hq => ?_, r.set c (pt P y), List.getElem?_set_self hps, by simpa using k4, fun c' hc' => ?_⟩
      · unfold F_hopcroft_Merge_l1
        simp only [show ((c : Int) < 256) by omega, decide_true, if_true, idx_of hx, gy, idx_of k3, idx_nat hcr, setI_nat hcr, setI_nat hps, bind, Option.bind_some]
        rw [w64_succ (by omega)]
      · rw [List.getElem?_set_ne (by omega)]; exact k2 q hq
      · by_cases he : c' = c
        · subst he
          rw [List.getElem?_set_self hcr, List.getElem?_map, hx]
          rfl
        · rw [List.getElem?_set_ne (by omega)]; exact k5 c' (by omega))
    (fun s _ => by unfold F_hopcroft_Merge_l1; simp [hw])
  rw [show iterO N (fun s => F_hopcroft_Merge_l1 N P (p : Int) row s.1 s.2) (0, R) = _ from h1, id]
  obtain ⟨r, h5, h6, h7⟩ := h4
  have hr' : r = row.map (pt P) := List.ext_getElem? fun c => by
    by_cases hc : c < 256
    · exact h7 c (by omega)
    · rw [List.getElem?_eq_none (by omega), List.getElem?_eq_none (by simp; omega)]
  congr 1
  refine List.ext_getElem? fun q => ?_
  by_cases hq : q = p
  · subst hq
    rw [h5, List.getElem?_set_self hp, hr']
  · rw [h3 q hq, List.getElem?_set_ne (by omega)]
theorem merge_spec (hN : 4294967296 ≤ N) (hs : Sz rows rule entry) (h : Rt rows rule entry) (hC : Cls rows rule P m) : F_hopcroft_Merge N rows rule entry = some (mgRows P m rows, mgRule P m rule, mgEntry P entry) := by
  have hn2 := h.n2
  have hru := h.ru
  have he2 := h.e2
  obtain ⟨P', m', p1, p2⟩ := parts_spec (N := N) hN hs h
  obtain ⟨rfl, rfl⟩ := p2.uniq hC
  have hml := hC.rg.le
  have hPl := hC.len
  unfold F_hopcroft_Merge
  simp only [right_yes hN hs h, p1, Bool.not_true, Bool.false_eq_true, if_false, bind, Option.bind_some]
  rw [mk_eq (by omega)]
  simp only [Option.bind_some]
  rw [mk_eq (by omega)]
  simp only [Option.bind_some]
  obtain ⟨s, h1, h2, h3, h4, h5⟩ := loop_inv (f := fun s => F_hopcroft_Merge_l0 N rows rule P' s.1 s.2.1 s.2.2) (fun i (s : List (List Int) × List Int) => ((i : Int), s.1, s.2)) (fun s => (s.1, s.2)) P'
    (fun i s => s.1.length = m' ∧ s.2.length = m' ∧ (∀ r ∈ s.1, r.length = 256) ∧ ∀ j : Nat, j < i → s.1[(pt P' (j : Int)).toNat]? = some ((rows.getD j []).map (pt P')) ∧ s.2[(pt P' (j : Int)).toNat]? = some (rule.getD j 0))
    (N := N) (s := (List.replicate m' (List.replicate 256 0), List.replicate m' 0)) (by omega) ⟨by simp, by simp, fun r hr => by rw [List.eq_of_mem_replicate hr]; exact List.length_replicate, fun j hj => by omega⟩
    (fun i p s hx hI => by
      obtain ⟨R, U⟩ := s
      obtain ⟨k1, k2, k3, k4⟩ := hI
      simp only at k1 k2 k3 k4
      have hi := lt_len hx
      have hir : 0 ≤ (i : Int) ∧ (i : Int) < (rows.length : Int) := by omega
      have hpi : pt P' (i : Int) = p := by unfold pt; rw [Int.toNat_natCast]; exact getD_of hx
      have hpr := hC.pt_rng hir
      rw [hpi] at hpr
      obtain ⟨pn, rfl⟩ : ∃ pn : Nat, p = (pn : Int) := ⟨p.toNat, by omega⟩
      obtain ⟨row, r1, r2, r3, r4⟩ := row_nat h (show i < rows.length by omega)
      have hmr := merge_row (N := N) (P := P') (p := pn) (R := R) (row := row) hN (by omega) k3 (hs.w row r3) (fun y hy => by have := r4 y hy; omega)
      have gr : idx rule (i : Int) = some (rule.getD i 0) := by rw [getD_of (List.getElem?_eq_getElem (show i < rule.length by omega))]; exact idx_nat _
      have hpU : pn < U.length := by omega
      refine ⟨(R.set pn (row.map (pt P')), U.set pn (rule.getD i 0)), ?_, by simpa using k1, by simpa using k2, fun r hr => ?_, fun j hj => ?_⟩
      · unfold F_hopcroft_Merge_l0
        simp only [show ((i : Int) < (P'.length : Int)) by omega, decide_true, if_true, idx_of hx, r1, bind, Option.bind_some]
        rw [hmr]
        simp only [gr, idx_nat hpU, setI_nat hpU, Option.bind_some]
        rw [w64_succ (by omega)]
      · rcases List.mem_or_eq_of_mem_set hr with hr | rfl
        · exact k3 r hr
        · rw [List.length_map]; exact hs.w row r3
      · have hjr : 0 ≤ (j : Int) ∧ (j : Int) < (rows.length : Int) := by omega
        have hpj := hC.pt_rng hjr
        by_cases he : pt P' (j : Int) = (pn : Int)
        · have := hC.same hs h hjr hir (he.trans hpi.symm)
          rw [Int.toNat_natCast, Int.toNat_natCast, r2] at this
          rw [he, Int.toNat_natCast, List.getElem?_set_self (by omega), List.getElem?_set_self hpU, this.1, this.2]
          exact ⟨rfl, rfl⟩
        · rw [List.getElem?_set_ne (by omega), List.getElem?_set_ne (by omega)]
          refine k4 j ?_
          by_cases hji : j = i
          · subst hji; exact absurd hpi he
          · omega)
    (fun s _ => by unfold F_hopcroft_Merge_l0; simp)
  rw [show iterO N (fun s => F_hopcroft_Merge_l0 N rows rule P' s.1 s.2.1 s.2.2) (0, List.replicate m' (List.replicate 256 0), List.replicate m' 0) = _ from h1]
  simp only [Option.bind_some]
  obtain ⟨e1, e2⟩ := mg_ext hs h hC h2 h3 (fun j hj => h5 j (by omega))
  obtain ⟨E, q1, q2⟩ := loop_inv (f := fun s => F_hopcroft_Merge_l2 N entry P' s.1 s.2) (fun i (s : List Int) => (s, (i : Int))) id entry (fun i s => s = (entry.take i).map (pt P')) (N := N) (s := []) (by omega) (by simp)
    (fun i y s hx hI => by
      have hi := lt_len hx
      have hyr := h.ent y (List.mem_of_getElem? hx)
      have gy := pt_idx (part := P') hPl hyr
      have hsl : s.length = i := by rw [hI, List.length_map, List.length_take]; omega
      refine ⟨s ++ [pt P' y], ?_, by rw [hI, List.take_add_one, hx, List.map_append]; rfl⟩
      unfold F_hopcroft_Merge_l2
      simp only [show ((i : Int) < (entry.length : Int)) by omega, decide_true, if_true, idx_of hx, gy, bind, Option.bind_some]
      rw [app_eq (by rw [List.length_singleton]; omega)]
      simp only [Option.bind_some]
      rw [w64_succ (by omega)])
    (fun s _ => by unfold F_hopcroft_Merge_l2; simp)
  rw [List.take_length] at q2
  rw [show iterO N (fun s => F_hopcroft_Merge_l2 N entry P' s.1 s.2) ([], 0) = _ from q1, e1, e2, q2]
  rfl
theorem refMerge_row {row : List Int} (hN : 4294967296 ≤ N) (hw : row.length = 256) (hr : ∀ y ∈ row, 0 ≤ y ∧ y < (P.length : Int)) :
    iterO N (fun s => F_dofferref19_Merge_l1 N P row s.1 s.2) (0, List.replicate 256 0) = some (row.map (pt P)) := by
  obtain ⟨r, h1, h2, h3⟩ := loop_inv (f := fun s => F_dofferref19_Merge_l1 N P row s.1 s.2) (fun c (s : List Int) => ((c : Int), s)) id row
    (fun c s => s.length = 256 ∧ ∀ c', c' < c → s[c']? = (row.map (pt P))[c']?) (N := N) (s := List.replicate 256 0) (by omega) ⟨List.length_replicate, fun c' hc => by omega⟩
    (fun c y s hx hI => by
      obtain ⟨k1, k2⟩ := hI
      have hc := lt_len hx
      have hyr := hr y (List.mem_of_getElem? hx)
      have hcs : c < s.length := by omega
      have gy := pt_idx (part := P) (n := P.length) rfl hyr
      refine ⟨s.set c (pt P y), ?_, by simpa using k1, fun c' hc' => ?_⟩
      · unfold F_dofferref19_Merge_l1
        simp only [show ((c : Int) < 256) by omega, decide_true, if_true, idx_of hx, gy, idx_nat hcs, setI_nat hcs, bind, Option.bind_some]
        rw [w64_succ (by omega)]
      · by_cases he : c' = c
        · subst he
          rw [List.getElem?_set_self hcs, List.getElem?_map, hx]
          rfl
        · rw [List.getElem?_set_ne (by omega)]; exact k2 c' (by omega))
    (fun s _ => by unfold F_dofferref19_Merge_l1; simp [hw])
  rw [show iterO N (fun s => F_dofferref19_Merge_l1 N P row s.1 s.2) (0, List.replicate 256 0) = _ from h1, id]
  congr 1
  exact List.ext_getElem? fun c => by
    by_cases hc : c < 256
    · exact h3 c (by omega)
    · rw [List.getElem?_eq_none (by omega), List.getElem?_eq_none (by simp; omega)]
theorem refMerge_spec (hN : 4294967296 ≤ N) (hs : Sz rows rule entry) (h : Rt rows rule entry) (hC : Cls rows rule P m) : F_dofferref19_Merge N rows rule entry = some (mgRows P m rows, mgRule P m rule, mgEntry P entry) := by
  have hn2 := h.n2
  have hru := h.ru
  have he2 := h.e2
  obtain ⟨P', m', p1, p2⟩ := refParts_spec (N := N) hN hs h
  obtain ⟨rfl, rfl⟩ := p2.uniq hC
  have hml := hC.rg.le
  have hPl := hC.len
  unfold F_dofferref19_Merge
  simp only [p1, bind, Option.bind_some]
  obtain ⟨s, h1, k, h2, h3, h4, h5⟩ := loop_inv (f := fun s => F_dofferref19_Merge_l0 N rows rule P' s.1 s.2.1 s.2.2) (fun i (s : List (List Int) × List Int) => ((i : Int), s.1, s.2)) (fun s => (s.1, s.2)) P'
    (fun i s => ∃ k, RG (P'.take i) k ∧ s.1.length = k ∧ s.2.length = k ∧ ∀ j : Nat, j < i → s.1[(pt P' (j : Int)).toNat]? = some ((rows.getD j []).map (pt P')) ∧ s.2[(pt P' (j : Int)).toNat]? = some (rule.getD j 0))
    (N := N) (s := ([], [])) (by omega) ⟨0, .nil, rfl, rfl, fun j hj => by omega⟩
    (fun i p s hx hI => by
      obtain ⟨R, U⟩ := s
      obtain ⟨k, k1, k2, k3, k4⟩ := hI
      simp only at k2 k3 k4
      have hi := lt_len hx
      have hir : 0 ≤ (i : Int) ∧ (i : Int) < (rows.length : Int) := by omega
      have hpi : pt P' (i : Int) = p := by unfold pt; rw [Int.toNat_natCast]; exact getD_of hx
      obtain ⟨row, r1, r2, r3, r4⟩ := row_nat h (show i < rows.length by omega)
      have hkl := k1.le
      rw [List.length_take] at hkl
      have gr : idx rule (i : Int) = some (rule.getD i 0) := by rw [getD_of (List.getElem?_eq_getElem (show i < rule.length by omega))]; exact idx_nat _
      obtain ⟨k', hk'⟩ := hC.rg.take (i + 1)
      have ht : P'.take (i + 1) = P'.take i ++ [p] := by rw [List.take_add_one, hx]; rfl
      rw [ht] at hk'
      have hk2 := hk'
      rcases hk'.inv with ⟨i1, i2⟩ | ⟨k0, rfl, i1, rfl⟩
      · obtain ⟨_, rfl⟩ := i1.uniq k1 rfl (fun _ _ _ _ => Iff.rfl)
        have hpr := k1.mem.1 i2
        obtain ⟨jn, hjl, hje⟩ := List.getElem_of_mem i2
        rw [List.length_take] at hjl
        have hpj : pt P' (jn : Int) = p := by
          unfold pt
          rw [Int.toNat_natCast, getD_of (List.getElem?_eq_getElem (show jn < P'.length by omega))]
          rw [List.getElem_take] at hje
          exact hje
        refine ⟨(R, U), ?_, _, by rw [ht]; exact hk2, k2, k3, fun j hj => ?_⟩
        · unfold F_dofferref19_Merge_l0
          simp only [show ((i : Int) < (P'.length : Int)) by omega, decide_true, if_true, idx_of hx, show p < (R.length : Int) by omega, bind, Option.bind_some]
          rw [w64_succ (by omega)]
        · by_cases hji : j = i
          · subst hji
            have h4 := k4 jn (by omega)
            have := hC.same hs h (a := (jn : Int)) (b := (j : Int)) (by omega) hir (hpj.trans hpi.symm)
            rw [Int.toNat_natCast, Int.toNat_natCast] at this
            rw [hpi, ← hpj, h4.1, h4.2, this.1, this.2]
            exact ⟨rfl, rfl⟩
          · exact k4 j (by omega)
      · obtain ⟨_, rfl⟩ := i1.uniq k1 rfl (fun _ _ _ _ => Iff.rfl)
        have hmr := refMerge_row (N := N) (P := P') (row := row) hN (hs.w row r3) (fun y hy => by have := r4 y hy; omega)
        refine ⟨(R ++ [row.map (pt P')], U ++ [rule.getD i 0]), ?_, k0 + 1, by rw [ht]; exact hk2, by simp [k2], by simp [k3], fun j hj => ?_⟩
        · unfold F_dofferref19_Merge_l0
          simp only [show ((i : Int) < (P'.length : Int)) by omega, decide_true, if_true, idx_of hx, show ¬ ((k0 : Int) < (R.length : Int)) by omega, decide_false, Bool.false_eq_true, if_false, r1, bind, Option.bind_some]
          rw [hmr]
          simp only [Option.bind_some]
          rw [app_eq (by rw [List.length_singleton]; omega)]
          simp only [Option.bind_some, gr]
          rw [app_eq (by rw [List.length_singleton]; omega)]
          simp only [Option.bind_some]
          rw [w64_succ (by omega)]
        · by_cases hji : j = i
          · subst hji
            rw [hpi, Int.toNat_natCast, r2, ← k2, List.getElem?_concat_length, k2, ← k3, List.getElem?_concat_length]
            exact ⟨rfl, rfl⟩
          · have hh := k4 j (by omega)
            rw [List.getElem?_append_left (lt_len hh.1), List.getElem?_append_left (lt_len hh.2)]
            exact hh)
    (fun s _ => by unfold F_dofferref19_Merge_l0; simp)
  rw [List.take_length] at h2
  obtain ⟨_, rfl⟩ := h2.uniq hC.rg rfl (fun _ _ _ _ => Iff.rfl)
  rw [show iterO N (fun s => F_dofferref19_Merge_l0 N rows rule P' s.1 s.2.1 s.2.2) (0, [], []) = _ from h1]
  simp only [Option.bind_some]
  obtain ⟨e1, e2⟩ := mg_ext hs h hC h3 h4 (fun j hj => h5 j (by omega))
  obtain ⟨E, q1, q2⟩ := loop_inv (f := fun s => F_dofferref19_Merge_l2 N entry P' s.1 s.2) (fun i (s : List Int) => (s, (i : Int))) id entry (fun i s => s = (entry.take i).map (pt P')) (N := N) (s := []) (by omega) (by simp)
    (fun i y s hx hI => by
      have hi := lt_len hx
      have hyr := h.ent y (List.mem_of_getElem? hx)
      have gy := pt_idx (part := P') hPl hyr
      have hsl : s.length = i := by rw [hI, List.length_map, List.length_take]; omega
      refine ⟨s ++ [pt P' y], ?_, by rw [hI, List.take_add_one, hx, List.map_append]; rfl⟩
      unfold F_dofferref19_Merge_l2
      simp only [show ((i : Int) < (entry.length : Int)) by omega, decide_true, if_true, idx_of hx, gy, bind, Option.bind_some]
      rw [app_eq (by rw [List.length_singleton]; omega)]
      simp only [Option.bind_some]
      rw [w64_succ (by omega)])
    (fun s _ => by unfold F_dofferref19_Merge_l2; simp)
  rw [List.take_length] at q2
  rw [show iterO N (fun s => F_dofferref19_Merge_l2 N entry P' s.1 s.2) ([], 0) = _ from q1, e1, e2, q2]
  rfl
end
end Go.Proofs.YteiaphkejkgfkaaDoor
namespace Go.Proofs.YteiaphkejkgfkaaDoor
open Go Go.Eng
set_option maxRecDepth 100000
section
variable {N : Nat} {rows : List (List Int)} {rule entry : List Int}
theorem refRowT {o P row : List Int} {n : Nat} (hN : 4294967296 ≤ N) (hg : ∀ x : Nat, x < n → P[x]? = some (pl o x)) (hw : row.length = 256) (hr : ∀ y ∈ row, 0 ≤ y ∧ y < (n : Int)) :
    iterO N (fun s => F_dofferref18_Trim_l2 N P row s.1 s.2) (List.replicate 256 0, 0) = some (row.map (pl o)) := by
  obtain ⟨r, h1, h2, h3⟩ := loop_inv (f := fun s => F_dofferref18_Trim_l2 N P row s.1 s.2) (fun i (s : List Int) => (s, (i : Int))) id row (fun i r => r.length = 256 ∧ ∀ j : Nat, j < i → r[j]? = (row[j]?).map (pl o)) (N := N) (s := List.replicate 256 0) (by omega)
    ⟨by simp, fun j hj => by omega⟩
    (fun i x r hx hI => by
      obtain ⟨k1, k2⟩ := hI
      have hi := lt_len hx
      have hxr := hr x (List.mem_of_getElem? hx)
      obtain ⟨v, rfl⟩ : ∃ v : Nat, x = (v : Int) := ⟨x.toNat, by omega⟩
      have hv : v < n := by omega
      have hir : i < r.length := by omega
      refine ⟨r.set i (pl o v), ?_, by simp [k1], fun j hj => ?_⟩
      · unfold F_dofferref18_Trim_l2
        simp only [show ((i : Int) < 256) by omega, decide_true, if_true, idx_of hx, idx_of (hg v hv), idx_nat hir, setI_nat hir, bind, Option.bind_some]
        rw [w64_succ (by omega)]
      · by_cases hj : j = i
        · subst hj
          rw [List.getElem?_set_self hir, hx]; rfl
        · rw [List.getElem?_set_ne (by omega), k2 j (by omega)])
    (fun s _ => by unfold F_dofferref18_Trim_l2; simp [hw])
  rw [show iterO N (fun s => F_dofferref18_Trim_l2 N P row s.1 s.2) (List.replicate 256 0, 0) = _ from h1]
  congr 1
  apply List.ext_getElem?
  intro j
  by_cases h : j < row.length
  · rw [id, h3 j h, List.getElem?_map]
  · rw [id, List.getElem?_eq_none (by omega), List.getElem?_eq_none (by simp; omega)]
theorem refTrim_spec (hN : 4294967296 ≤ N) (hs : Sz rows rule entry) (h : Rt rows rule entry) :
    F_dofferref18_Trim N rows rule entry = some (reRows (kp rows rule entry) rows, reRule (kp rows rule entry) rule, reEntry (kp rows rule entry) entry) := by
  have hA : Acc rows.length (kp rows rule entry) := kp_acc
  have hn1 := h.n1
  have hn2 := h.n2
  have he2 := h.e2
  have hru := h.ru
  obtain ⟨L1, a1, a2, a3⟩ := refReached_spec (N := N) hN hs h
  obtain ⟨L2, b1, b2, b3⟩ := refLive_spec (N := N) hN hs h
  unfold F_dofferref18_Trim
  simp only [a1, b1, bind, Option.bind_some]
  rw [mk_eq (by omega)]
  simp only [Option.bind_some]
  obtain ⟨P, p1, p2, p3⟩ := refNumber (N := N) (k := kpf rows rule entry) hN rfl hn1 (by omega) a2 b2 (by simp [kpf]) (fun j h0 hj => by
    have e1 : bt L1 j = rch rows entry j := by rw [Bool.eq_iff_iff, a3 j hj, rch_iff]
    have e2 : bt L2 j = lv rows rule j := by rw [Bool.eq_iff_iff, b3 j hj, lv_iff]
    have e0 : (j == 0) = false := by simp; omega
    rw [e1, e2, kpf, e0, Bool.false_or])
  rw [p1]
  simp only [Option.bind_some]
  have hz : pl (kp rows rule entry) 0 = 0 := pl_zero hA (kp_zero h)
  change ∀ x : Nat, x < rows.length → P[x]? = some (pl (kp rows rule entry) x) at p3
  obtain ⟨s1, q1, q2, q3⟩ := loop_inv (f := fun s => F_dofferref18_Trim_l1 N rows rule P s.1 s.2.1 s.2.2) (fun i (s : List (List Int) × List Int) => ((i : Int), s.1, s.2)) id rows
    (fun i s => s.1 = (lst (kpf rows rule entry) i).map (fun s => (rows.getD s.toNat []).map (pl (kp rows rule entry))) ∧ s.2 = (lst (kpf rows rule entry) i).map (fun s => rule.getD s.toNat 0)) (N := N) (s := ([], [])) (by omega) ⟨by simp [lst], by simp [lst]⟩
    (fun i x s hx hI => by
      obtain ⟨k1, k2⟩ := hI
      obtain ⟨R, U⟩ := s
      simp only at k1 k2
      have hi := lt_len hx
      have hvu : i < rule.length := by omega
      have hli := lst_len (kpf rows rule entry) i
      have l1 : R.length ≤ i := by rw [k1]; simp; omega
      have l2 : U.length ≤ i := by rw [k2]; simp; omega
      have hsu := lst_succ (kpf rows rule entry) i
      have hPi : idx P (i : Int) = some (pl (kp rows rule entry) i) := idx_of (p3 i hi)
      have hrow := List.mem_of_getElem? hx
      have gate : (((if (decide ((i : Int) > 0)) = true then (some (pl (kp rows rule entry) i == 0)) else (some false)) : Option Bool)) = some (!kpf rows rule entry i) := by
        by_cases h0 : i = 0
        · subst h0
          simp [kpf]
        · have : (i : Int) > 0 := by omega
          simp only [this, decide_true, if_true]
          congr 1
          cases hk : kpf rows rule entry i with
          | false =>
            unfold kp
            rw [pl_lst hi, hk]
            rfl
          | true =>
            have hm : (i : Int) ∈ kp rows rule entry := mem_lst.2 ⟨by omega, by simpa using hk⟩
            have hne : ¬ pl (kp rows rule entry) (i : Int) = 0 := fun e => by
              have := pl_inj hm ((mem_kp h).2 (.inl rfl)) (e.trans hz.symm)
              omega
            simpa using hne
      by_cases hk : kpf rows rule entry i = true
      · refine ⟨(R ++ [x.map (pl (kp rows rule entry))], U ++ [rule[i]]), ?_, ?_, ?_⟩
        · unfold F_dofferref18_Trim_l1
          simp only [show ((i : Int) < (rows.length : Int)) by omega, decide_true, if_true, idx_of hx, hPi, bind, Option.bind_some, gate, hk, Bool.not_true, Bool.false_eq_true, if_false]
          rw [refRowT hN p3 (hs.w x hrow) (h.row x hrow)]
          simp only [Option.bind_some]
          rw [app_eq (by simp; omega)]
          simp only [Option.bind_some, idx_nat hvu]
          rw [app_eq (by simp; omega)]
          simp only [Option.bind_some]
          rw [w64_succ (by omega)]
        · show R ++ _ = _
          rw [hsu, if_pos hk, List.map_append, k1]
          simp only [List.map_cons, List.map_nil, Int.toNat_natCast]
          rw [getD_of hx]
        · show U ++ _ = _
          rw [hsu, if_pos hk, List.map_append, k2]
          simp only [List.map_cons, List.map_nil, Int.toNat_natCast]
          rw [getD_of (List.getElem?_eq_getElem hvu)]
      · have hk' : kpf rows rule entry i = false := by simpa using hk
        refine ⟨(R, U), ?_, ?_, ?_⟩
        · unfold F_dofferref18_Trim_l1
          simp only [show ((i : Int) < (rows.length : Int)) by omega, decide_true, if_true, idx_of hx, hPi, bind, Option.bind_some, gate, hk', Bool.not_false]
          rw [w64_succ (by omega)]
        · show R = _
          rw [hsu, if_neg hk, k1]
        · show U = _
          rw [hsu, if_neg hk, k2])
    (fun s _ => by unfold F_dofferref18_Trim_l1; simp)
  rw [show iterO N (fun s => F_dofferref18_Trim_l1 N rows rule P s.1 s.2.1 s.2.2) (0, [], []) = _ from q1]
  obtain ⟨s1a, s1b⟩ := s1
  simp only at q2 q3
  subst q2 q3
  simp only [Option.bind_some, id]
  obtain ⟨s3, w1, w2⟩ := loop_inv (f := fun s => F_dofferref18_Trim_l3 N entry P s.1 s.2) (fun i (s : List Int) => (s, (i : Int))) id entry (fun i s => s = (reEntry (kp rows rule entry) entry).take i) (N := N) (s := []) (by omega) (by simp)
    (fun i x s hx k1 => by
      have hi := lt_len hx
      have hxr := h.ent x (List.mem_of_getElem? hx)
      obtain ⟨v, rfl⟩ : ∃ v : Nat, x = (v : Int) := ⟨x.toNat, by omega⟩
      have l1 : s.length ≤ i := by rw [k1]; simp; omega
      refine ⟨s ++ [pl (kp rows rule entry) v], ?_, ?_⟩
      · unfold F_dofferref18_Trim_l3
        simp only [show ((i : Int) < (entry.length : Int)) by omega, decide_true, if_true, idx_of hx, idx_of (p3 v (by omega)), bind, Option.bind_some]
        rw [app_eq (by simp; omega)]
        simp only [Option.bind_some]
        rw [w64_succ (by omega)]
      · have : (reEntry (kp rows rule entry) entry)[i]? = some (pl (kp rows rule entry) v) := by unfold reEntry; rw [List.getElem?_map, hx]; rfl
        rw [List.take_add_one, this, k1]; rfl)
    (fun s _ => by unfold F_dofferref18_Trim_l3; simp)
  rw [show iterO N (fun s => F_dofferref18_Trim_l3 N entry P s.1 s.2) ([], 0) = _ from w1]
  rw [List.take_of_length_le (by simp [reEntry])] at w2
  subst w2
  rfl
end
end Go.Proofs.YteiaphkejkgfkaaDoor
namespace Go.Proofs.YteiaphkejkgfkaaDoor
open Go Go.Eng
set_option maxRecDepth 100000
theorem upto_succ (n : Nat) : upto (n + 1) = upto n ++ [(n : Int)] := by simp [upto, List.range_succ]
theorem rg_upto : ∀ m : Nat, RG (upto m) m
  | 0 => .nil
  | m + 1 => by rw [upto_succ]; exact (rg_upto m).new
theorem RG.full {P : List Int} {m : Nat} (h : RG P m) : m = P.length → P = upto m := by
  induction h with
  | nil => intro _; rfl
  | @old P m x h hx ih =>
    intro q
    have := h.le
    simp at q
    omega
  | @new P m h ih =>
    intro q
    rw [upto_succ, ih (by simpa using q)]
section
variable {N : Nat} {rows : List (List Int)} {rule entry P : List Int} {m : Nat}
theorem mgRows_len : (mgRows P m rows).length = m := by simp [mgRows]
theorem mgRule_len : (mgRule P m rule).length = m := by simp [mgRule]
theorem Cls.pos (h : Rt rows rule entry) (hC : Cls rows rule P m) : pt P 0 = 0 ∧ 1 ≤ m := by
  have := hC.len
  have hn := h.n1
  have hf := hC.rg.first (by omega)
  exact ⟨by unfold pt; exact getD_of hf.1, hf.2⟩
/-- each number is a state's -/
theorem Cls.ex (hC : Cls rows rule P m) {v : Int} (hv : 0 ≤ v ∧ v < m) : ∃ s : Int, (0 ≤ s ∧ s < (rows.length : Int)) ∧ pt P s = v := by
  obtain ⟨r1, r2⟩ := hC.rep (v := v.toNat) (by omega)
  exact ⟨_, ⟨by omega, r1⟩, by rw [r2]; omega⟩
theorem mg_sz (hs : Sz rows rule entry) (h : Rt rows rule entry) (hC : Cls rows rule P m) : Sz (mgRows P m rows) (mgRule P m rule) (mgEntry P entry) := by
  have hml := hC.rg.le
  have hl := hC.len
  have hn2 := h.n2
  have he := h.e2
  refine ⟨fun r hr => ?_, by rw [mgRows_len]; omega, by rw [mgRule_len]; omega, by simp only [mgEntry, List.length_map]; omega⟩
  obtain ⟨v, hv, rfl⟩ := List.mem_map.1 hr
  obtain ⟨r1, _⟩ := hC.rep (List.mem_range.1 hv)
  rw [List.length_map]
  have := (row_nxt hs (s := ((P.idxOf (v : Int) : Nat) : Int)) (by omega)).1
  rwa [Int.toNat_natCast] at this
theorem mg_right (hs : Sz rows rule entry) (h : Rt rows rule entry) (hC : Cls rows rule P m) : Rt (mgRows P m rows) (mgRule P m rule) (mgEntry P entry) := by
  have hml := hC.rg.le
  have hl := hC.len
  have hn2 := h.n2
  obtain ⟨h0, h1⟩ := hC.pos h
  have hrow0 := mg_row hs h hC (s := 0) (by have := h.n1; omega)
  rw [h0] at hrow0
  refine ⟨by rw [mgRows_len]; exact h1, by rw [mgRows_len]; omega, by rw [mgRows_len, mgRule_len], by simpa [mgEntry] using h.e1, by simpa [mgEntry] using h.e2, fun r hr x hx => ?_, fun x hx => ?_, fun x hx => ?_, ?_, ?_⟩
  · rw [mgRows_len]
    obtain ⟨v, hv, rfl⟩ := List.mem_map.1 hr
    obtain ⟨r1, _⟩ := hC.rep (List.mem_range.1 hv)
    obtain ⟨y, hy, rfl⟩ := List.mem_map.1 hx
    obtain ⟨row, q1, q2, q3, q4⟩ := row_nat h (i := P.idxOf (v : Int)) (by omega)
    rw [q2] at hy
    exact hC.pt_rng (q4 y hy)
  · obtain ⟨v, hv, rfl⟩ := List.mem_map.1 hx
    obtain ⟨r1, _⟩ := hC.rep (List.mem_range.1 hv)
    have hru := h.ru
    have hrl : P.idxOf (v : Int) < rule.length := by omega
    rw [getD_of (List.getElem?_eq_getElem hrl)]
    exact h.rul _ (List.getElem_mem hrl)
  · rw [mgRows_len]
    obtain ⟨y, hy, rfl⟩ := List.mem_map.1 hx
    exact hC.pt_rng (h.ent y hy)
  · have := hrow0.1
    rw [show ((0 : Int)).toNat = 0 by rfl] at this
    rw [this, getD_of h.r0, List.map_replicate, h0]
  · have := hrow0.2
    rw [show ((0 : Int)).toNat = 0 by rfl] at this
    rw [this, getD_of h.u0]
theorem mg_nxt (hs : Sz rows rule entry) (h : Rt rows rule entry) (hC : Cls rows rule P m) {s c : Int} (hr : 0 ≤ s ∧ s < (rows.length : Int)) (hc : 0 ≤ c ∧ c < 256) : nxt (mgRows P m rows) (pt P s) c = pt P (nxt rows s c) := by
  have h1 := (mg_row hs h hC hr).1
  have h2 := (row_nxt hs hr).2 c.toNat (by omega)
  rw [show ((c.toNat : Nat) : Int) = c by omega] at h2
  show ((mgRows P m rows).getD (pt P s).toNat []).getD c.toNat 0 = _
  rw [getD_of h1]
  refine getD_of ?_
  rw [List.getElem?_map, h2]
  rfl
theorem mg_rul (hs : Sz rows rule entry) (h : Rt rows rule entry) (hC : Cls rows rule P m) {s : Int} (hr : 0 ≤ s ∧ s < (rows.length : Int)) : (mgRule P m rule).getD (pt P s).toNat 0 = rule.getD s.toNat 0 := getD_of (mg_row hs h hC hr).2
theorem foldl_rng (hs : Sz rows rule entry) (h : Rt rows rule entry) : ∀ {t : List Int} {s : Int}, Byt t → 0 ≤ s ∧ s < (rows.length : Int) → 0 ≤ t.foldl (nxt rows) s ∧ t.foldl (nxt rows) s < (rows.length : Int)
  | [], _, _, hr => hr
  | c :: t, s, hb, hr => foldl_rng hs h (t := t) (fun x hx => hb x (by simp [hx])) (nxt_rng hs h hr (hb c (by simp)))
theorem mg_foldl (hs : Sz rows rule entry) (h : Rt rows rule entry) (hC : Cls rows rule P m) : ∀ {t : List Int} {s : Int}, Byt t → 0 ≤ s ∧ s < (rows.length : Int) → t.foldl (nxt (mgRows P m rows)) (pt P s) = pt P (t.foldl (nxt rows) s)
  | [], _, _, _ => rfl
  | c :: t, s, hb, hr => by
    have hc := hb c (by simp)
    rw [List.foldl_cons, List.foldl_cons, mg_nxt hs h hC hr hc]
    exact mg_foldl hs h hC (fun x hx => hb x (by simp [hx])) (nxt_rng hs h hr hc)
theorem mg_alk (hs : Sz rows rule entry) (h : Rt rows rule entry) (hC : Cls rows rule P m) {a b : Int} (ha : 0 ≤ a ∧ a < (rows.length : Int)) (hb : 0 ≤ b ∧ b < (rows.length : Int)) : Alk (mgRows P m rows) (mgRule P m rule) (pt P a) (pt P b) ↔ Alk rows rule a b := by
  unfold Alk
  constructor
  · intro q t ht
    have := q t ht
    rwa [mg_foldl hs h hC ht ha, mg_foldl hs h hC ht hb, mg_rul hs h hC (foldl_rng hs h ht ha), mg_rul hs h hC (foldl_rng hs h ht hb)] at this
  · intro q t ht
    rw [mg_foldl hs h hC ht ha, mg_foldl hs h hC ht hb, mg_rul hs h hC (foldl_rng hs h ht ha), mg_rul hs h hC (foldl_rng hs h ht hb)]
    exact q t ht
theorem cls_upto {n : Nat} (hn : rows.length = n) (hd : ∀ a b : Int, 0 ≤ a ∧ a < (n : Int) → 0 ≤ b ∧ b < (n : Int) → Alk rows rule a b → a = b) : Cls rows rule (upto n) n := by
  refine ⟨rg_upto n, by rw [upto_len, hn], fun i k hi hk => ?_⟩
  have h1 : (upto n)[i]? = some (i : Int) := by rw [List.getElem?_eq_getElem (by rw [upto_len]; omega), upto_get]
  have h2 : (upto n)[k]? = some (k : Int) := by rw [List.getElem?_eq_getElem (by rw [upto_len]; omega), upto_get]
  rw [h1, h2, Option.some.injEq]
  constructor
  · intro q; rw [q]; exact .refl _
  · intro q; exact hd _ _ (by omega) (by omega) q
/-- of the merged one each state is a part -/
theorem mg_cls (hs : Sz rows rule entry) (h : Rt rows rule entry) (hC : Cls rows rule P m) : Cls (mgRows P m rows) (mgRule P m rule) (upto m) m := by
  refine cls_upto mgRows_len fun a b ha hb hk => ?_
  obtain ⟨x, hx, rfl⟩ := hC.ex ha
  obtain ⟨y, hy, rfl⟩ := hC.ex hb
  exact (hC.pt_iff hx hy).2 ((mg_alk hs h hC hx hy).1 hk)
theorem mg_rch (hs : Sz rows rule entry) (h : Rt rows rule entry) (hC : Cls rows rule P m) {s : Int} (hr : Rch rows entry s) : Rch (mgRows P m rows) (mgEntry P entry) (pt P s) := by
  induction hr with
  | zero => rw [(hC.pos h).1]; exact .zero
  | ent hx => exact .ent (List.mem_map_of_mem hx)
  | @step s y hr hy ih =>
    refine ih.step ?_
    rw [getD_of (mg_row hs h hC (hr.rng h)).1]
    exact List.mem_map_of_mem hy
theorem mg_lv (hs : Sz rows rule entry) (h : Rt rows rule entry) (hC : Cls rows rule P m) {s : Int} (hl : Lv rows rule s) : Lv (mgRows P m rows) (mgRule P m rule) (pt P s) := by
  induction hl with
  | here a b hr =>
    have hp := hC.pt_rng ⟨a, b⟩
    exact .here hp.1 (by rw [mgRows_len]; exact hp.2) (by rw [mg_rul hs h hC ⟨a, b⟩]; exact hr)
  | step a b hy _ ih =>
    have hp := hC.pt_rng ⟨a, b⟩
    refine .step hp.1 (by rw [mgRows_len]; exact hp.2) ?_ ih
    rw [getD_of (mg_row hs h hC ⟨a, b⟩).1]
    exact List.mem_map_of_mem hy
theorem kp_full (hl : (kp rows rule entry).length = rows.length) : kp rows rule entry = upto rows.length := by
  unfold kp at hl ⊢
  refine lst_all fun j hj => ?_
  unfold lst at hl
  rw [List.length_map] at hl
  have := List.length_filter_eq_length_iff.1 (hl.trans List.length_range.symm)
  exact this j (List.mem_range.2 hj)
theorem kp_all (h : Rt rows rule entry) (hk : ∀ x : Int, 0 < x → x < (rows.length : Int) → Rch rows entry x ∧ Lv rows rule x) : (kp rows rule entry).length = rows.length := by
  have : ∀ x ∈ upto rows.length, x ∈ kp rows rule entry := fun x hx => by
    have hr := (rg_upto rows.length).mem.1 hx
    rw [mem_kp h]
    by_cases h0 : x = 0
    · exact .inl h0
    · exact .inr (hk x (by omega) hr.2)
  have hnd : (upto rows.length).Nodup := by
    unfold upto List.Nodup
    rw [List.pairwise_map]
    exact (List.nodup_range (n := rows.length)).imp fun hne q => hne (by omega)
  have h1 := nodup_len hnd this
  rw [upto_len] at h1
  have h2 := (kp_acc (rows := rows) (rule := rule) (entry := entry)).len
  omega
theorem mg_kp (hs : Sz rows rule entry) (h : Rt rows rule entry) (hC : Cls rows rule P m) (hk : (kp rows rule entry).length = rows.length) : (kp (mgRows P m rows) (mgRule P m rule) (mgEntry P entry)).length = (mgRows P m rows).length := by
  refine kp_all (mg_right hs h hC) fun v hv0 hv1 => ?_
  rw [mgRows_len] at hv1
  obtain ⟨s, hs', rfl⟩ := hC.ex (v := v) ⟨by omega, hv1⟩
  have hm : s ∈ kp rows rule entry := by rw [kp_full hk]; exact (rg_upto _).mem.2 hs'
  rcases (mem_kp h).1 hm with rfl | ⟨q1, q2⟩
  · rw [(hC.pos h).1] at hv0; omega
  · exact ⟨mg_rch hs h hC q1, mg_lv hs h hC q2⟩
/-- a least DFA -/
def Lst (rows : List (List Int)) (rule entry : List Int) : Prop := Rt rows rule entry ∧ (kp rows rule entry).length = rows.length ∧ Cls rows rule (upto rows.length) rows.length
theorem isLeast_spec (hN : 4294967296 ≤ N) (hs : Sz rows rule entry) : ∃ b, F_hopcroft_IsLeast N rows rule entry = some b ∧ (b = true ↔ Lst rows rule entry) := by
  obtain ⟨b, h1, h2⟩ := isTrim_spec (N := N) hN hs
  unfold F_hopcroft_IsLeast
  rw [h1]
  cases b with
  | false =>
    refine ⟨false, rfl, ⟨(fun q => by cases q), fun q => ?_⟩⟩
    exact absurd (h2.2 ⟨q.1, q.2.1⟩) (by simp)
  | true =>
    obtain ⟨hR, hk⟩ := h2.1 rfl
    obtain ⟨P, m, p1, p2⟩ := parts_spec (N := N) hN hs hR
    refine ⟨(m : Int) == (rows.length : Int), by simp [p1], ?_⟩
    rw [beq_iff_eq]
    constructor
    · intro q
      have hm : m = rows.length := by omega
      subst hm
      have := p2.rg.full p2.len.symm
      exact ⟨hR, hk, this ▸ p2⟩
    · intro q
      have := (p2.uniq q.2.2).2
      omega
/-- trimmed -/
noncomputable abbrev tRows (rows : List (List Int)) (rule entry : List Int) := reRows (kp rows rule entry) rows
noncomputable abbrev tRule (rows : List (List Int)) (rule entry : List Int) := reRule (kp rows rule entry) rule
noncomputable abbrev tEntry (rows : List (List Int)) (rule entry : List Int) := reEntry (kp rows rule entry) entry
theorem t_right (h : Rt rows rule entry) : Rt (tRows rows rule entry) (tRule rows rule entry) (tEntry rows rule entry) := reO_right h kp_acc (kp_zero h)
theorem t_sz (hs : Sz rows rule entry) (h : Rt rows rule entry) : Sz (tRows rows rule entry) (tRule rows rule entry) (tEntry rows rule entry) := reO_sz hs h kp_acc
theorem t_kp (h : Rt rows rule entry) : (kp (tRows rows rule entry) (tRule rows rule entry) (tEntry rows rule entry)).length = (tRows rows rule entry).length := by rw [kp_re h, upto_len]
theorem t_len : (tRows rows rule entry).length = (kp rows rule entry).length := by simp [reRows]
theorem cls_ex (hs : Sz rows rule entry) (h : Rt rows rule entry) : ∃ P m, Cls rows rule P m := by
  obtain ⟨P, m, _, h2⟩ := refParts_spec (N := 4294967296) (Nat.le_refl _) hs h
  exact ⟨P, m, h2⟩
theorem least_spec (hN : 4294967296 ≤ N) (hs : Sz rows rule entry) (h : Rt rows rule entry) (hC : Cls (tRows rows rule entry) (tRule rows rule entry) P m) :
    F_hopcroft_Least N rows rule entry = some (mgRows P m (tRows rows rule entry), mgRule P m (tRule rows rule entry), mgEntry P (tEntry rows rule entry)) := by
  unfold F_hopcroft_Least
  simp only [trim_spec hN hs h, merge_spec hN (t_sz hs h) (t_right h) hC, bind, Option.bind_some]
/-- THE LEAST ONE is least -/
theorem least_lst (hs : Sz rows rule entry) (h : Rt rows rule entry) (hC : Cls (tRows rows rule entry) (tRule rows rule entry) P m) :
    Lst (mgRows P m (tRows rows rule entry)) (mgRule P m (tRule rows rule entry)) (mgEntry P (tEntry rows rule entry)) := by
  refine ⟨mg_right (t_sz hs h) (t_right h) hC, mg_kp (t_sz hs h) (t_right h) hC (t_kp h), ?_⟩
  have := mg_cls (t_sz hs h) (t_right h) hC
  rwa [mgRows_len]
theorem sz_nil : Sz [] [] [] := ⟨fun r hr => by simp at hr, by simp, by simp, by simp⟩
theorem Parts_yes (hN : 4294967296 ≤ N) (hs : Sz rows rule entry) (h : Rt rows rule entry) (hC : Cls rows rule P m) : F_hopcroft_Parts N rows rule entry = some P := by
  obtain ⟨P', m', p1, p2⟩ := parts_spec (N := N) hN hs h
  obtain ⟨rfl, rfl⟩ := p2.uniq hC
  unfold F_hopcroft_Parts
  simp only [right_yes hN hs h, p1, bind, Option.bind_some, Bool.not_true, Bool.false_eq_true, if_false]
end
def prRows : List (List Int) := [List.replicate 256 0, List.replicate 256 2, List.replicate 256 1]
theorem pairs_eq {N : Nat} (hN : 4294967296 ≤ N) : F_dofferlaw19_pairs N = some prRows := by
  unfold F_dofferlaw19_pairs
  rw [show (3 : Int) = ((3 : Nat) : Int) by rfl, mk_eq (by decide)]
  simp only [bind, Option.bind_some]
  obtain ⟨s, h1, r1, r2, h2, h3, h4, h5⟩ := loop_inv (f := fun s => F_dofferlaw19_pairs_l0 N s.1 s.2) (fun c (s : List (List Int)) => (s, (c : Int))) id (List.range 256)
    (fun c s => ∃ r1 r2, s = [List.replicate 256 0, r1, r2] ∧ r1.length = 256 ∧ r2.length = 256 ∧ ∀ j, j < c → r1[j]? = some 2 ∧ r2[j]? = some 1) (N := N) (s := List.replicate 3 (List.replicate 256 0)) (by rw [List.length_range]; omega)
    ⟨List.replicate 256 0, List.replicate 256 0, rfl, List.length_replicate, List.length_replicate, fun j hj => by omega⟩
    (fun c y s hx hI => by
      obtain ⟨hc, rfl⟩ := range_get hx
      obtain ⟨r1, r2, rfl, k1, k2, k3⟩ := hI
      generalize List.replicate 256 (0 : Int) = z
      refine ⟨[z, r1.set y 2, r2.set y 1], ?_, _, _, rfl, by simpa using k1, by simpa using k2, fun j hj => ?_⟩
      · have a1 : y < r1.length := by omega
        have a2 : y < r2.length := by omega
        unfold F_dofferlaw19_pairs_l0
        simp only [show ((y : Int) < 256) by omega, decide_true, if_true, show idx [z, r1, r2] 1 = some r1 by rfl, show idx [z, r1, r2] 2 = some r2 by rfl, idx_nat a1, idx_nat a2, setI_nat a1, setI_nat a2, show setI [z, r1, r2] 1 (r1.set y 2) = some [z, r1.set y 2, r2] by rfl,
          show idx [z, r1.set y 2, r2] 2 = some r2 by rfl, show setI [z, r1.set y 2, r2] 2 (r2.set y 1) = some [z, r1.set y 2, r2.set y 1] by rfl, bind, Option.bind_some]
        rw [w64_succ (by omega)]
      · by_cases hj' : j = y
        · subst hj'
          exact ⟨List.getElem?_set_self (by omega), List.getElem?_set_self (by omega)⟩
        · rw [List.getElem?_set_ne (by omega), List.getElem?_set_ne (by omega)]
          exact k3 j (by omega))
    (fun s _ => by unfold F_dofferlaw19_pairs_l0; simp)
  rw [List.length_range] at h5
  have e1 : r1 = List.replicate 256 2 := List.ext_getElem? fun j => by
    by_cases hj : j < 256
    · rw [(h5 j hj).1, List.getElem?_replicate, if_pos hj]
    · rw [List.getElem?_eq_none (by omega), List.getElem?_eq_none (by rw [List.length_replicate]; omega)]
  have e2 : r2 = List.replicate 256 1 := List.ext_getElem? fun j => by
    by_cases hj : j < 256
    · rw [(h5 j hj).2, List.getElem?_replicate, if_pos hj]
    · rw [List.getElem?_eq_none (by omega), List.getElem?_eq_none (by rw [List.length_replicate]; omega)]
  rw [show iterO N (fun s => F_dofferlaw19_pairs_l0 N s.1 s.2) (List.replicate 3 (List.replicate 256 0), 0) = _ from h1, id, h2, e1, e2]
  rfl
theorem prRow {i : Nat} (hi : i < 3) : prRows[i]? = some (List.replicate 256 (if i = 0 then 0 else if i = 1 then 2 else 1)) := by
  match i, hi with
  | 0, _ => rfl
  | 1, _ => rfl
  | 2, _ => rfl
theorem prNxt {i c : Int} (hi : 0 ≤ i ∧ i < 3) (hc : 0 ≤ c ∧ c < 256) : nxt prRows i c = if i = 0 then 0 else if i = 1 then 2 else 1 := by
  unfold nxt
  rw [getD_of (prRow (i := i.toNat) (by omega))]
  refine getD_of ?_
  rw [List.getElem?_replicate, if_pos (by omega)]
  have e1 : i.toNat = 0 ↔ i = 0 := by omega
  have e2 : i.toNat = 1 ↔ i = 1 := by omega
  simp only [e1, e2]
theorem prRight : Rt prRows [-1, 0, 0] [1] := by
  refine ⟨by decide, by decide, rfl, by decide, by decide, fun r hr x hx => ?_, fun x hx => ?_, fun x hx => ?_, rfl, rfl⟩
  · have : (prRows.length : Int) = 3 := rfl
    rw [this]
    simp only [prRows, List.mem_cons, List.not_mem_nil, or_false] at hr
    rcases hr with rfl | rfl | rfl <;> (have := List.eq_of_mem_replicate hx; omega)
  · simp at hx; omega
  · have : (prRows.length : Int) = 3 := rfl
    simp at hx; omega
theorem prSz : Sz prRows [-1, 0, 0] [1] := ⟨fun r hr => by
  simp only [prRows, List.mem_cons, List.not_mem_nil, or_false] at hr
  rcases hr with rfl | rfl | rfl <;> exact List.length_replicate, by decide, by decide, by decide⟩
theorem prCls : Cls prRows [-1, 0, 0] [0, 1, 1] 2 := by
  have rg : RG [0, 1, 1] 2 := by
    have h1 : RG [0] 1 := RG.nil.new
    have h2 : RG [0, 1] 2 := h1.new
    exact h2.old (by simp)
  have no : ∀ k : Int, k = 1 ∨ k = 2 → ¬ Alk prRows [-1, 0, 0] 0 k := fun k hk q => by
    have := q.rul
    rcases hk with rfl | rfl <;> simp at this
  have yes : ∀ i k : Int, (0 ≤ i ∧ i < 3) → (0 ≤ k ∧ k < 3) → 1 ≤ i ∧ 1 ≤ k → Alk prRows [-1, 0, 0] i k := fun i k hi hk h => by
    refine alk_of (R := fun i k => 1 ≤ i ∧ 1 ≤ k) (n := 3) (fun i k hi hk h => ?_) (fun i c hi hc => ?_) (fun i k c hi hk h hc => ?_) (by omega) (by omega) h
    · have e1 : i = 1 ∨ i = 2 := by omega
      have e2 : k = 1 ∨ k = 2 := by omega
      rcases e1 with rfl | rfl <;> rcases e2 with rfl | rfl <;> rfl
    · rw [prNxt (by omega) hc]
      split
      · omega
      · split <;> omega
    · rw [prNxt (by omega) hc, prNxt (by omega) hc]
      split <;> split <;> first | omega | (split <;> first | omega | (split <;> omega))
  refine ⟨rg, rfl, fun i k hi hk => ?_⟩
  have hi' : i = 0 ∨ i = 1 ∨ i = 2 := by have : prRows.length = 3 := rfl; omega
  have hk' : k = 0 ∨ k = 1 ∨ k = 2 := by have : prRows.length = 3 := rfl; omega
  rcases hi' with rfl | rfl | rfl <;> rcases hk' with rfl | rfl | rfl
  · exact ⟨fun _ => .refl _, fun _ => rfl⟩
  · exact ⟨fun q => by simp at q, fun q => absurd q (no 1 (.inl rfl))⟩
  · exact ⟨fun q => by simp at q, fun q => absurd q (no 2 (.inr rfl))⟩
  · exact ⟨fun q => by simp at q, fun q => absurd q.symm (no 1 (.inl rfl))⟩
  · exact ⟨fun _ => .refl _, fun _ => rfl⟩
  · exact ⟨fun _ => yes _ _ (by decide) (by decide) (by decide), fun _ => rfl⟩
  · exact ⟨fun q => by simp at q, fun q => absurd q.symm (no 2 (.inr rfl))⟩
  · exact ⟨fun _ => yes _ _ (by decide) (by decide) (by decide), fun _ => rfl⟩
  · exact ⟨fun _ => .refl _, fun _ => rfl⟩
theorem alive19_of {N : Nat} (hN : 4294967296 ≤ N) : F_dofferlaw19_alive N = some true := by
  unfold F_dofferlaw19_alive
  simp only [pairs_eq hN, Parts_yes hN prSz prRight prCls, sameInts_spec hN (a := [0, 1, 1]) (by decide), bind, Option.bind_some, decide_true]
theorem alive19 : F_dofferlaw19_alive 4294967296 = some true := alive19_of (Nat.le_refl _)
section
variable {N : Nat} {rows : List (List Int)} {rule entry P : List Int} {m : Nat}
theorem hopcroftLeast_true (hw : ∀ r ∈ rows, r.length = 256) : F_dofferlaw19_HopcroftLeast 4294967296 rows rule entry = some true := by
  unfold F_dofferlaw19_HopcroftLeast
  simp only [alive19, bind, Option.bind_some, Bool.not_true, Bool.false_eq_true, if_false]
  by_cases g1 : (rows.length : Int) > 14
  · simp [F_dofferlaw17_Of, g1]
  by_cases g2 : (rule.length : Int) > 14
  · simp [F_dofferlaw17_Of, g1, g2]
  by_cases g3 : (entry.length : Int) > 20
  · simp [F_dofferlaw17_Of, g1, g2, g3]
  have hN : 4294967296 ≤ 4294967296 := Nat.le_refl _
  have hs : Sz rows rule entry := ⟨hw, by omega, by omega, by omega⟩
  rw [of_spec hN hs, if_neg (by omega)]
  obtain ⟨b, hb, hbt⟩ := refRight_spec hN hs
  obtain ⟨b1, hb1, hbt1⟩ := isLeast_spec hN hs
  simp only [Option.bind_some, Bool.not_true, Bool.false_eq_true, if_false, hb]
  by_cases h : Rt rows rule entry
  case neg =>
    have hbf : b = false := by
      cases b with
      | false => rfl
      | true => exact absurd (hbt.1 rfl) h
    subst hbf
    simp
  obtain rfl := hbt.2 h
  have ht := t_right h
  have hts := t_sz hs h
  obtain ⟨P, m, hC⟩ := cls_ex hts ht
  have hml := hC.rg.le
  have hPl := hC.len
  have hkl := (kp_acc (rows := rows) (rule := rule) (entry := entry)).len
  have htl := t_len (rows := rows) (rule := rule) (entry := entry)
  have he2 := ht.e2
  have hms := mg_sz hts ht hC
  have hL := least_lst hs h hC
  obtain ⟨b2, hb2, hbt2⟩ := isLeast_spec hN hms
  obtain rfl := hbt2.2 hL
  have g4 : ¬ (((mgRows P m (tRows rows rule entry)).length : Int) > 14 ∨ ((mgRule P m (tRule rows rule entry)).length : Int) > 14 ∨ ((mgEntry P (tEntry rows rule entry)).length : Int) > 20) := by
    rw [mgRows_len, mgRule_len]
    simp only [mgEntry, List.length_map]
    omega
  have key : b1 = true ↔ (kp rows rule entry).length = rows.length ∧ m = rows.length := by
    rw [hbt1]
    constructor
    · rintro ⟨_, k1, k2⟩
      have e := re_upto h
      have hC' := hC
      unfold tRows tRule at hC'
      rw [kp_full k1, e.1, e.2.1] at hC'
      exact ⟨k1, (hC'.uniq k2).2⟩
    · rintro ⟨k1, k2⟩
      have e := re_upto h
      have hC' := hC
      unfold tRows tRule at hC'
      rw [kp_full k1, e.1, e.2.1] at hC'
      subst k2
      have := hC'.rg.full hC'.len.symm
      exact ⟨h, k1, this ▸ hC'⟩
  simp only [least_spec hN hs h hC, refTrim_spec hN hs h, refMerge_spec hN hts ht hC, of_spec hN hms, if_neg g4, same_spec hN hms, hb1, hb2, Option.bind_some, Bool.not_true, Bool.false_eq_true, if_false, decide_true, and_self, if_true]
  rw [mgRows_len]
  have e1 : ∀ x : Bool, (b1 == x) = true ↔ (x = true ↔ (kp rows rule entry).length = rows.length ∧ m = rows.length) := by
    intro x
    rw [beq_iff_eq, Bool.eq_iff_iff, key]
    exact ⟨fun q => q.symm, fun q => q.symm⟩
  by_cases c1 : ((reRows (kp rows rule entry) rows).length : Int) = (rows.length : Int)
  · have c1' : (kp rows rule entry).length = rows.length := by simp only [reRows, List.length_map] at c1; omega
    have : (((reRows (kp rows rule entry) rows).length : Int) == (rows.length : Int)) = true := by simpa using c1
    simp only [this, if_true, Option.bind_some]
    rw [(e1 ((m : Int) == (rows.length : Int))).2 (by rw [beq_iff_eq]; exact ⟨fun q => ⟨c1', by omega⟩, fun q => by have := q.2; omega⟩)]
    rfl
  · have c1' : (kp rows rule entry).length ≠ rows.length := by simp only [reRows, List.length_map] at c1; omega
    have : (((reRows (kp rows rule entry) rows).length : Int) == (rows.length : Int)) = false := by simpa using c1
    simp only [this, Bool.false_eq_true, if_false, Option.bind_some]
    rw [(e1 false).2 ⟨fun q => by simp at q, fun q => absurd q.1 c1'⟩]
    rfl
end
end Go.Proofs.YteiaphkejkgfkaaDoor
