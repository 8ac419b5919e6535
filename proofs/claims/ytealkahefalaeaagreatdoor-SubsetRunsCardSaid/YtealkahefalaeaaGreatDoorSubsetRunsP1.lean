/-
  PLAIN LEAN, no program in sight: what the pure functions answer.
-/
import Derived.Test.YtealkahefalaeaaGreatDoorSubsetRunsD1
import Derived.Test.YtealkahefalaeaaGreatDoorProg
namespace Go.Eng
open Go
theorem iterO_for {σ τ : Type} {f : σ → Option (σ ⊕ τ)} {r : τ} (st : Nat → σ) : ∀ (n : Nat) {N k : Nat}, n < N → (∀ i, k ≤ i → i < k + n → f (st i) = some (.inl (st (i + 1)))) → f (st (k + n)) = some (.inr r) → iterO N f (st k) = some r
  | 0, 0, _, h, _, _ => absurd h (Nat.not_lt_zero _)
  | 0, N + 1, k, _, _, he => by simp only [iterO]; rw [show f (st k) = _ from he]
  | n + 1, 0, _, h, _, _ => absurd h (Nat.not_lt_zero _)
  | n + 1, N + 1, k, h, hs, he => by
    simp only [iterO]
    rw [hs k (Nat.le_refl _) (by omega)]
    exact iterO_for st n (by omega) (fun i h1 h2 => hs i (by omega) (by omega)) (by rw [show k + 1 + n = k + (n + 1) by omega]; exact he)
theorem iterO_for0 {σ τ : Type} {f : σ → Option (σ ⊕ τ)} {r : τ} {s : σ} (st : Nat → σ) (n : Nat) {N : Nat} (h0 : st 0 = s) (hN : n < N) (hs : ∀ i, i < n → f (st i) = some (.inl (st (i + 1)))) (he : f (st n) = some (.inr r)) : iterO N f s = some r := by
  subst h0
  exact iterO_for st n hN (fun i _ h => hs i (by omega)) (by rw [Nat.zero_add]; exact he)
theorem iterO_while {σ τ : Type} {f : σ → Option (σ ⊕ τ)} (I : σ → Prop) (μ : σ → Nat) (Q : τ → Prop) (step : ∀ s, I s → (∃ s', f s = some (.inl s') ∧ I s' ∧ μ s' < μ s) ∨ ∃ r, f s = some (.inr r) ∧ Q r) :
    ∀ {N : Nat} {s : σ}, I s → μ s < N → ∃ r, iterO N f s = some r ∧ Q r
  | 0, _, _, h => absurd h (Nat.not_lt_zero _)
  | N + 1, s, hI, h => by
    rcases step s hI with ⟨s', h1, h2, h3⟩ | ⟨r, h1, h2⟩
    · obtain ⟨r, h4, h5⟩ := iterO_while I μ Q step (N := N) h2 (by omega)
      exact ⟨r, by simp only [iterO, h1]; exact h4, h5⟩
    · exact ⟨r, by simp only [iterO, h1], h2⟩
theorem wrap64 {x : Int} (h1 : -9223372036854775808 ≤ x) (h2 : x ≤ 9223372036854775807) : IntKind.wrap .i64 x = x := by
  simp only [IntKind.wrap, IntKind.signed, IntKind.bits]
  simp
  omega
theorem w64_succ {n : Nat} (h : n < 9223372036854775807) : w64 ((n : Int) + 1) = ((n + 1 : Nat) : Int) := by
  rw [w64, wrap64] <;> omega
theorem idx_nat {α : Type} {xs : List α} {i : Nat} (h : i < xs.length) : idx xs (i : Int) = some xs[i] := by simp [idx, h]
theorem idx_int {α : Type} {xs : List α} {i : Int} (h0 : 0 ≤ i) (h : i.toNat < xs.length) : idx xs i = some xs[i.toNat] := by simp [idx, h, h0]
theorem idx_of {α : Type} {xs : List α} {i : Nat} {x : α} (h : xs[i]? = some x) : idx xs (i : Int) = some x := by simp [idx, h]
theorem app_eq {α : Type} {xs ys : List α} (h : xs.length + ys.length ≤ 4294967296) : app xs ys = some (xs ++ ys) := by simp [app, h]
/-- a loop over xs that leaves with g at the first element that p fits -/
theorem loop_find {α τ : Type} {f : Int → Option (Int ⊕ (Unit ⊕ τ))} (xs : List α) (p : α → Bool) (g : Nat → τ) {N : Nat} (hN : xs.length < N)
    (hb : ∀ (i : Nat) (x : α), xs[i]? = some x → f (i : Int) = if p x then some (.inr (.inr (g i))) else some (.inl ((i + 1 : Nat) : Int))) (he : f (xs.length : Int) = some (.inr (.inl ()))) :
    iterO N f 0 = some (match xs.findIdx? p with | some i => .inr (g i) | none => .inl ()) := by
  cases h : xs.findIdx? p with
  | none =>
    have h' := List.findIdx?_eq_none_iff.1 h
    refine iterO_for0 (fun i => (i : Int)) xs.length rfl hN (fun i hi => ?_) he
    rw [hb i xs[i] (List.getElem?_eq_getElem hi), h' _ (List.getElem_mem hi)]
    simp
  | some k =>
    obtain ⟨hk, hp, hlt⟩ := List.findIdx?_eq_some_iff_getElem.1 h
    refine iterO_for0 (fun i => (i : Int)) k rfl (by omega) (fun i hi => ?_) ?_
    · rw [hb i _ (List.getElem?_eq_getElem (by omega))]
      have := hlt i hi
      simp [this]
    · rw [hb k _ (List.getElem?_eq_getElem hk)]
      simp [hp]
/-- .. that leaves with b -/
theorem loop_any {α τ : Type} {f : Int → Option (Int ⊕ (Unit ⊕ τ))} (xs : List α) (p : α → Bool) (b : τ) {N : Nat} (hN : xs.length < N)
    (hb : ∀ (i : Nat) (x : α), xs[i]? = some x → f (i : Int) = if p x then some (.inr (.inr b)) else some (.inl ((i + 1 : Nat) : Int))) (he : f (xs.length : Int) = some (.inr (.inl ()))) :
    iterO N f 0 = some (if xs.any p then .inr b else .inl ()) := by
  rw [loop_find xs p (fun _ => b) hN hb he]
  cases h : xs.findIdx? p with
  | none =>
    have h' := List.findIdx?_eq_none_iff.1 h
    have : xs.any p = false := by rw [List.any_eq_false]; intro x hx; rw [h' x hx]; simp
    simp [this]
  | some k =>
    obtain ⟨hk, hp, hlt⟩ := List.findIdx?_eq_some_iff_getElem.1 h
    have : xs.any p = true := List.any_eq_true.2 ⟨_, List.getElem_mem hk, hp⟩
    simp [this]
/-- a loop over xs that folds -/
theorem loop_fold {α σ τ : Type} {ι : Type} {f : ι → Option (ι ⊕ τ)} (st : Nat → σ → ι) (out : σ → τ) (xs : List α) (step : σ → α → σ) (I : Nat → σ → Prop) {N : Nat} {s : σ} (hN : xs.length < N)
    (hI : I 0 s) (hb : ∀ (i : Nat) (x : α) (s : σ), xs[i]? = some x → I i s → f (st i s) = some (.inl (st (i + 1) (step s x))) ∧ I (i + 1) (step s x)) (he : ∀ s, I xs.length s → f (st xs.length s) = some (.inr (out s))) :
    iterO N f (st 0 s) = some (out (xs.foldl step s)) := by
  have hI' : ∀ i, i ≤ xs.length → I i ((xs.take i).foldl step s) := by
    intro i
    induction i with
    | zero => intro _; simpa using hI
    | succ i ih =>
      intro hi
      have hx : xs[i]? = some xs[i] := List.getElem?_eq_getElem (by omega)
      rw [List.take_add_one, hx, List.foldl_append]
      exact (hb i _ _ hx (ih (by omega))).2
  refine iterO_for0 (fun i => st i ((xs.take i).foldl step s)) xs.length (by simp) hN (fun i hi => ?_) ?_
  · have hx : xs[i]? = some xs[i] := List.getElem?_eq_getElem hi
    rw [(hb i _ _ hx (hI' i (by omega))).1, List.take_add_one, hx, List.foldl_append]
    rfl
  · have := he _ (hI' _ (Nat.le_refl _))
    rw [List.take_length] at this
    simp only [List.take_length]
    exact this
/-- a loop over xs, by an invariant -/
theorem loop_inv {α σ τ ι : Type} {f : ι → Option (ι ⊕ τ)} (st : Nat → σ → ι) (out : σ → τ) (xs : List α) (I : Nat → σ → Prop) {N : Nat} {s : σ} (hN : xs.length < N)
    (hI : I 0 s) (hb : ∀ (i : Nat) (x : α) (s : σ), xs[i]? = some x → I i s → ∃ s', f (st i s) = some (.inl (st (i + 1) s')) ∧ I (i + 1) s') (he : ∀ s, I xs.length s → f (st xs.length s) = some (.inr (out s))) :
    ∃ s', iterO N f (st 0 s) = some (out s') ∧ I xs.length s' := by
  have key : ∀ (k i : Nat) (s : σ) (M : Nat), i + k = xs.length → k < M → I i s → ∃ s', iterO M f (st i s) = some (out s') ∧ I xs.length s' := by
    intro k
    induction k with
    | zero =>
      intro i s M hi hM h
      obtain ⟨M, rfl⟩ : ∃ m, M = m + 1 := ⟨M - 1, by omega⟩
      obtain rfl : i = xs.length := by omega
      exact ⟨s, by simp only [iterO]; rw [he s h], h⟩
    | succ k ih =>
      intro i s M hi hM h
      obtain ⟨M, rfl⟩ : ∃ m, M = m + 1 := ⟨M - 1, by omega⟩
      obtain ⟨s', h1, h2⟩ := hb i _ s (List.getElem?_eq_getElem (by omega)) h
      obtain ⟨s'', h3, h4⟩ := ih (i + 1) s' M (by omega) (by omega) h2
      exact ⟨s'', by simp only [iterO]; rw [h1]; exact h3, h4⟩
  exact key xs.length 0 s N (by omega) hN hI
end Go.Eng
namespace Go.Proofs.YtealkahefalaeaaGreatDoor
open Go Go.Eng Go.Cr
set_option maxRecDepth 100000
theorem xty3 : Ty Tryz.prog 3 1 8 (.int .i64 0) false := ⟨by kernel_rfl, by kernel_rfl⟩
theorem fnx108 : HasFn Tryz.prog 108 := ⟨_, _, Tryz.func108, by kernel_rfl, rfl⟩
theorem fnx128 : HasFn Tryz.prog 128 := ⟨_, _, Tryz.func128, by kernel_rfl, rfl⟩
theorem c_ix108 {N : Nat} {C : Cx} {w : World} {ρ : View} {hs : List Hl} {b2 oo : Nat} {x1 : Int} {x3 : Int} (H : Hp C w ρ (hs)) (g : cellsAt ρ b2 oo [.int .i64 x3]) {r : Bool} (hF : F_subset_Right_1 N x1 x3 = some r) :
  Calls Tryz.prog 108 [.int .i64 x1, .pointer (some ⟨b2, oo, none⟩)].toArray w (Rets (fun v w' => (∃ (x7 : Bool), x7 = r ∧ .bool x7 = v ∧ Hp C w' ρ (hs)))) := by
 unfold F_subset_Right_1 at hF
 have h0 : Tryz.f108.body = some _ := rfl
 refine fn_calls' Tryz.func108 h0 (n := 11) rfl (by simp) <| C_seq <| R_nd <| nq (Q_assign rfl) rfl rfl <| WL_nil <| x_then ?_
 obtain ⟨o9, ho9, hF⟩ := bnd hF
 refine C_cut (fun a w' => ∃ (x8 : Bool), x8 = o9 ∧ Fr 11 a [(3, .bool x8)] ∧ Hp C w' ρ (hs)) ?_ ?_
 ·refine R_nd <| nq (Q_move rfl) rfl rfl <| nq (Q_lss rfl rfl) rfl rfl <| nq (Q_move rfl) rfl rfl ?_
  rcases Bool.eq_false_or_eq_true (decide (x1 < 0)) with hb | hb
  ·rw [hb]
   replace ho9 := itT hb ho9
   refine gs rfl rfl rfl rfl <| gs rfl rfl rfl rfl <| gs rfl rfl rfl rfl <| nq (Q_pickT rfl rfl) rfl rfl <| nq (Q_assign rfl) rfl rfl <| WL_nil ?_
   obtain rfl := Option.some.inj ho9
   refine x_A fun a hf => ⟨true, rfl, hf.sub ⟨rfl, trivial⟩, H⟩
  ·rw [hb]
   replace ho9 := itF hb ho9
   refine gq (Q_move rfl) rfl rfl rfl <| gq (v := .int .i64 x3) (Q_ld (g.up H.ok.view) xty3 rfl (fun _ => rfl) rfl rfl) rfl rfl rfl <| gq (Q_geq rfl rfl) rfl rfl rfl <| nq (Q_pickF rfl rfl) rfl rfl <| nq (Q_assign rfl) rfl rfl <| WL_nil ?_
   obtain rfl := Option.some.inj ho9
   refine x_A fun a hf => ⟨decide (x1 ≥ x3), rfl, hf.sub ⟨rfl, trivial⟩, H⟩
 ·rintro a wd10 ⟨x8, rfl, hf, H⟩
  try dsimp only at hF
  refine CW.at hf <| C_ret ?_
  obtain rfl := Option.some.inj hF
  exact fn_ret (l := [.tmp 3]) (vs := [.bool x8]) rfl rfl rfl ⟨x8, rfl, rfl, H⟩
theorem c_ix128 {N : Nat} {C : Cx} {w : World} {ρ : View} {hs : List Hl} {v1 : Value} {b4 oo : Nat} {x2 : (List Int)} {x5 : Int} (H : Hp C w ρ (hs)) (g : cellsAt ρ b4 oo [.int .i64 x5]) (r3 : RdSl ρ (eI .i64) v1 x2) {r : Int} (hF : F_slices_IndexFunc_int_int N x2 x5 = some r) :
  Calls Tryz.prog 128 [v1, .func (.func 108) #[] [.pointer (some ⟨b4, oo, none⟩)].toArray].toArray w (Rets (fun v w' => (∃ (x88 : Int), x88 = r ∧ .int .i64 x88 = v ∧ Hp C w' ρ (hs)))) := by
 unfold F_slices_IndexFunc_int_int at hF
 have h0 : Tryz.f128.body = some _ := rfl
 refine fn_calls' Tryz.func128 h0 (n := 19) rfl (by simp) <| C_seq <| R_nd <| nq (Q_assign rfl) rfl rfl <| WL_nil <| x_then <| C_seq <| C_seq <| R_nd <| nq (Q_move rfl) rfl rfl <| nq (Q_len Tryz.underlying23 rfl r3) rfl rfl <| nq (Q_move rfl) rfl rfl <| WL_nil <| x_then ?_
 obtain ⟨o129, ho129, hF⟩ := bnd hF
 refine C_cutQ (fun a w' => .inl () = o129 ∧ Fr 19 a [] ∧ Hp C w' ρ (hs)) ?_ ?_
 ·refine C_block ?_
  refine C_iter (f := fun s => F_slices_IndexFunc_int_int_l0 N x2 x5 s) ho129 (fun s a w' => ∃ (x142 : Int), x142 = s ∧ Fr 19 a [(0, v1), (1, .func (.func 108) #[] [.pointer (some ⟨b4, oo, none⟩)].toArray), (7, .int .i64 (x2.length : Int)), (8, .int .i64 x142)] ∧ Hp C w' ρ (hs)) ?_ ?_
  ·exact fun a hf => ⟨0, rfl, hf.sub ⟨rfl, rfl, rfl, rfl, trivial⟩, H⟩
  ·rintro s o155 a wd158 ⟨x142, rfl, hf, H⟩ hB156 hO157
   replace hB156 : F_slices_IndexFunc_int_int_l0 N x2 x5 x142 = some o155 := hB156
   unfold F_slices_IndexFunc_int_int_l0 at hB156
   refine CW.at hf <| C_seq <| R_nd <| nq (Q_lss rfl rfl) rfl rfl <| WL_nil <| x_then <| C_seq ?_
   refine C_cond rfl (fun hb => ?_) (fun hb => ?_)
   ·replace hB156 := itT hb hB156
    refine C_skip <| x_then <| C_seq <| C_block <| C_seq <| R_nd <| nq (Q_move rfl) rfl rfl <| nq (Q_assign rfl) rfl rfl <| WL_nil <| x_then <| C_seq <| R_nd <| nq (Q_move rfl) rfl rfl <| nq (Q_move rfl) rfl rfl ?_
    refine nq (Q_move rfl) rfl rfl ?_
    obtain ⟨x159, hx159, hB156⟩ := bnd hB156
    obtain ⟨b160, o161, c162, hc163, ha164, hi165⟩ := idxR r3 hx159
    refine nq (Q_idx hi165 Tryz.underlying23 xty3 rfl rfl) rfl rfl <| nq (v := .int .i64 x159) (Q_ld (show cellsAt _ _ _ [.int .i64 x159] from (show _ = [_] from hc163) ▸ (ha164.up H.ok.view)) xty3 rfl (fun _ => rfl) rfl rfl) rfl rfl ?_
    obtain ⟨q166, hq166, hB156⟩ := bnd hB156
    refine ne (E_callV fnx108 rfl rfl (c_ix108 H g   hq166)) rfl rfl ?_
    rintro _ wd169 ⟨x168, rfl, rfl, H⟩
    try dsimp only at hB156
    refine WL_nil <| x_then ?_
    refine C_cond rfl (fun hb => ?_) (fun hb => ?_)
    ·replace hB156 := itT hb hB156
     refine C_seq <| R_nd <| nq (Q_move rfl) rfl rfl <| nq (Q_assign rfl) rfl rfl <| WL_nil <| x_then <| C_ret <| x_block_ret <| x_then_ret <| x_then_ret <| x_block_ret <| x_then_ret <| x_then_ret ?_
     obtain rfl := Option.some.inj hB156
     obtain rfl := hO157 _ rfl
     obtain rfl := Option.some.inj (show some _ = some _ from hF)
     exact fn_ret (l := [.tmp 4]) (vs := [.int .i64 x142]) rfl rfl rfl ⟨x142, rfl, rfl, H⟩
    ·replace hB156 := itF hb hB156
     refine C_skip <| x_block <| x_then <| R_nd <| nq (Q_add rfl rfl) rfl rfl <| nq (Q_move rfl) rfl rfl <| WL_nil ?_
     obtain rfl := Option.some.inj hB156
     refine x_A fun a hf => ⟨_, rfl, w64 (x142 + 1), rfl, hf.sub ⟨rfl, rfl, rfl, rfl, trivial⟩, H⟩
   ·replace hB156 := itF hb hB156
    refine C_exit <| x_then_exit <| x_then_exit <| x_block_exit ?_
    obtain rfl := Option.some.inj hB156
    obtain rfl := hO157 _ rfl
    refine x_A fun a hf => ⟨rfl, hf.sub trivial, H⟩
 ·rintro a wd170 ⟨rfl, hf, H⟩
  try dsimp only at hF
  refine XX.at hf <| x_then <| C_seq <| R_nd <| nq (Q_assign rfl) rfl rfl <| WL_nil <| x_then <| C_ret ?_
  obtain rfl := Option.some.inj hF
  exact fn_ret (l := [.tmp 4]) (vs := [.int .i64 (-1)]) rfl rfl rfl ⟨(-1), rfl, rfl, H⟩
theorem ixPr (N : Nat) (x n : Int) : F_subset_Right_1 N x n = some (ilt x 0 || ile n x) := by
  rw [ilt_eq, ile_eq]
  unfold F_subset_Right_1
  by_cases h : x < 0 <;> simp [h]
theorem firB_eq (n : Int) : ∀ (l : List Int) (i : Nat), firB n l i = match l.findIdx? (fun x => ilt x 0 || ile n x) with | some j => ((i + j : Nat) : Int) | none => -1
  | [], _ => rfl
  | x :: l, i => by
    have e : firB n (x :: l) i = bif ilt x 0 || ile n x then .ofNat i else firB n l (i + 1) := rfl
    rw [e, firB_eq n l (i + 1), List.findIdx?_cons]
    cases ilt x 0 || ile n x with
    | true => rfl
    | false =>
      simp only [cond_false, Bool.false_eq_true, if_false]
      cases l.findIdx? (fun x => ilt x 0 || ile n x) with
      | none => rfl
      | some j =>
        show ((i + 1 + j : Nat) : Int) = ((i + (j + 1) : Nat) : Int)
        rw [Nat.add_assoc, Nat.add_comm 1 j]
theorem ixPure {xs : List Int} {n : Int} (hl : xs.length ≤ 1048576) : F_slices_IndexFunc_int_int 1048577 xs n = some (firB n xs 0) := by
  unfold F_slices_IndexFunc_int_int
  generalize hM : (1048577 : Nat) = N
  rw [loop_find xs (fun x => ilt x 0 || ile n x) (fun i => (i : Int)) (by omega) (fun i x hx => by
    have hi := (List.getElem?_eq_some_iff.1 hx).1
    unfold F_slices_IndexFunc_int_int_l0
    simp only [show ((i : Int) < (xs.length : Int)) by omega, decide_true, if_true, idx_of hx, ixPr, bind, Option.bind_some]
    rw [w64_succ (by omega)]) (by unfold F_slices_IndexFunc_int_int_l0; simp), firB_eq]
  cases h : xs.findIdx? (fun x => ilt x 0 || ile n x) with
  | none => rfl
  | some k => simp
theorem ixC : IxC Tryz.prog ⟨261, 282, 128, 108⟩ := by
  intro w v xs b o n hr hl hc
  refine (c_ix128 (Hp.start w) hc hr (ixPure hl)).mono fun e w' he => ?_
  obtain ⟨u, rfl, x, rfl, rfl, H⟩ := he
  exact ⟨_, rfl, rfl, H.os, H.tape, H.out, H.size, fun b hb => H.old b hb (by simp)⟩
end Go.Proofs.YtealkahefalaeaaGreatDoor
namespace Go.Proofs.YtealkahefalaeaaGreatDoor
open Go Go.Eng Go.Cr
set_option maxRecDepth 100000
theorem runXx : XOk Tryz.prog ⟨261, 282, 128, 108⟩ := ⟨⟨_, Tryz.func261, by kernel_rfl, by kernel_rfl, by kernel_rfl, by kernel_rfl⟩, ⟨_, Tryz.func282, by kernel_rfl, by kernel_rfl, by kernel_rfl, by kernel_rfl⟩, .inr ⟨fnx128, ixC⟩⟩
theorem runMx : Tryz.prog.follows .mixedOrders = true := by kernel_rfl
end Go.Proofs.YtealkahefalaeaaGreatDoor
namespace Go.Proofs.YtealkahefalaeaaGreatDoor
open Go Go.Eng Go.Cr
set_option maxRecDepth 100000
theorem run45 : isTrue (run Tryz.prog ⟨261, 282, 128, 108⟩ 1000 (.f 45 []) [] (h0T 18 .u8 tab_math_bits_deBruijn64tab)) = true := by kernel_rfl
theorem runC45 : RunC Tryz.prog 45 (fun ρ => GTab ρ 18 .u8 tab_math_bits_deBruijn64tab) := runCT runXx runMx run45 ⟨_, _, Tryz.func45, by kernel_rfl, rfl⟩ (by decide) (by decide)
end Go.Proofs.YtealkahefalaeaaGreatDoor
namespace Go.Proofs.YtealkahefalaeaaGreatDoor
open Go Go.Eng
theorem lt_len {α : Type} {xs : List α} {i : Nat} {x : α} (h : xs[i]? = some x) : i < xs.length := (List.getElem?_eq_some_iff.1 h).1
theorem right1 (N : Nat) (x n : Int) : F_subset_Right_1 N x n = some (decide (x < 0) || decide (x ≥ n)) := by
  unfold F_subset_Right_1
  by_cases h : x < 0 <;> simp [h]
theorem right2 (N : Nat) (x : Int) : F_subset_Right_2 N x = some (decide (x < -1) || decide (x ≥ 48)) := by
  unfold F_subset_Right_2
  by_cases h : x < -1 <;> simp [h]
theorem contains1 {N : Nat} {xs : List Int} {n : Int} (hN : 4294967296 ≤ N) (hl : xs.length < 4294967296) : F_slices_ContainsFunc_int_int N xs n = some (xs.any fun x => decide (x < 0) || decide (x ≥ n)) := by
  unfold F_slices_ContainsFunc_int_int F_slices_IndexFunc_int_int
  rw [loop_find xs (fun x => decide (x < 0) || decide (x ≥ n)) (fun i => (i : Int)) (by omega) (fun i x hx => by
    have hi := lt_len hx
    unfold F_slices_IndexFunc_int_int_l0
    simp only [show ((i : Int) < (xs.length : Int)) by omega, decide_true, if_true, idx_of hx, right1, bind, Option.bind_some]
    rw [w64_succ (by omega)]) (by unfold F_slices_IndexFunc_int_int_l0; simp)]
  cases h : xs.findIdx? _ with
  | none =>
    have : xs.any (fun x => decide (x < 0) || decide (x ≥ n)) = false := List.any_eq_false.2 fun x hx => by rw [List.findIdx?_eq_none_iff.1 h x hx]; simp
    simp [this]
  | some k =>
    obtain ⟨hk, hp, _⟩ := List.findIdx?_eq_some_iff_getElem.1 h
    have : xs.any (fun x => decide (x < 0) || decide (x ≥ n)) = true := List.any_eq_true.2 ⟨_, List.getElem_mem hk, hp⟩
    rw [this]
    simp
theorem contains2 {N : Nat} {xs : List Int} (hN : 4294967296 ≤ N) (hl : xs.length < 4294967296) : F_slices_ContainsFunc_int_int_1 N xs = some (xs.any fun x => decide (x < -1) || decide (x ≥ 48)) := by
  unfold F_slices_ContainsFunc_int_int_1 F_slices_IndexFunc_int_int_1
  rw [loop_find xs (fun x => decide (x < -1) || decide (x ≥ 48)) (fun i => (i : Int)) (by omega) (fun i x hx => by
    have hi := lt_len hx
    unfold F_slices_IndexFunc_int_int_1_l0
    simp only [show ((i : Int) < (xs.length : Int)) by omega, decide_true, if_true, idx_of hx, right2, bind, Option.bind_some]
    rw [w64_succ (by omega)]) (by unfold F_slices_IndexFunc_int_int_1_l0; simp)]
  cases h : xs.findIdx? _ with
  | none =>
    have : xs.any (fun x => decide (x < -1) || decide (x ≥ 48)) = false := List.any_eq_false.2 fun x hx => by rw [List.findIdx?_eq_none_iff.1 h x hx]; simp
    simp [this]
  | some k =>
    obtain ⟨hk, hp, _⟩ := List.findIdx?_eq_some_iff_getElem.1 h
    have : xs.any (fun x => decide (x < -1) || decide (x ≥ 48)) = true := List.any_eq_true.2 ⟨_, List.getElem_mem hk, hp⟩
    rw [this]
    simp
/-- what a DFA must be -/
structure Rt (rows : List (List Int)) (rule entry : List Int) : Prop where
  n1 : 1 ≤ rows.length
  n2 : rows.length ≤ 200
  ru : rule.length = rows.length
  e1 : 1 ≤ entry.length
  e2 : entry.length ≤ 8
  row : ∀ r ∈ rows, ∀ x ∈ r, 0 ≤ x ∧ x < rows.length
  rul : ∀ x ∈ rule, -1 ≤ x ∧ x < 48
  ent : ∀ x ∈ entry, 0 ≤ x ∧ x < rows.length
  r0 : rows[0]? = some (List.replicate 256 0)
  u0 : rule[0]? = some (-1)
/-- rows of 256, lists of a length that memory bears -/
structure Sz (rows : List (List Int)) (rule entry : List Int) : Prop where
  w : ∀ r ∈ rows, r.length = 256
  a : rows.length < 4294967296
  b : rule.length < 4294967296
  c : entry.length < 4294967296
theorem right_spec {N : Nat} {rows : List (List Int)} {rule entry : List Int} (hN : 4294967296 ≤ N) (hs : Sz rows rule entry) : ∃ b, F_subset_Right N rows rule entry = some b ∧ (b = true ↔ Rt rows rule entry) := by
  unfold F_subset_Right
  generalize hz : List.replicate 256 (0 : Int) = z
  by_cases a1 : (rows.length : Int) < 1
  · exact ⟨false, by simp [a1], by simp; intro h; have := h.n1; omega⟩
  by_cases a2 : (rows.length : Int) > 200
  · exact ⟨false, by simp [a1, a2], by simp; intro h; have := h.n2; omega⟩
  by_cases a3 : rule.length = rows.length
  case neg =>
    have e0 : ((rule.length : Int) != (rows.length : Int)) = true := by simp; omega
    exact ⟨false, by simp [a1, a2, e0], by simp; intro h; exact a3 h.ru⟩
  by_cases a4 : (entry.length : Int) < 1
  · exact ⟨false, by simp [a1, a2, a3, a4], by simp; intro h; have := h.e1; omega⟩
  by_cases a5 : (entry.length : Int) > 8
  · exact ⟨false, by simp [a1, a2, a3, a4, a5], by simp; intro h; have := h.e2; omega⟩
  have e0 : ((rule.length : Int) != (rows.length : Int)) = false := by simp [a3]
  simp only [decide_eq_false a1, decide_eq_false a2, e0, decide_eq_false a4, decide_eq_false a5, bind, Option.bind_some, Bool.false_eq_true, if_false]
  rw [loop_any rows (fun r => r.any fun x => decide (x < 0) || decide (x ≥ (rows.length : Int))) false (by have := hs.a; omega) (fun i r hr => by
    have hi := lt_len hr
    have hw := hs.w r (List.mem_of_getElem? hr)
    unfold F_subset_Right_l0
    simp only [show ((i : Int) < (rows.length : Int)) by omega, decide_true, if_true, idx_of hr, contains1 hN (show r.length < 4294967296 by omega), bind, Option.bind_some]
    rw [w64_succ (by have := hs.a; omega)]) (by unfold F_subset_Right_l0; simp)]
  by_cases c1 : (rows.any fun r => r.any fun x => decide (x < 0) || decide (x ≥ (rows.length : Int))) = true
  · refine ⟨false, by simp [c1], ?_⟩
    simp
    intro h
    obtain ⟨r, hr, hx⟩ := List.any_eq_true.1 c1
    obtain ⟨x, hx, hp⟩ := List.any_eq_true.1 hx
    have := h.row r hr x hx
    simp at hp; omega
  rw [if_neg c1]
  simp only [contains2 hN hs.b, contains1 hN hs.c, Option.bind_some]
  by_cases c2 : (rule.any fun x => decide (x < -1) || decide (x ≥ 48)) = true
  · refine ⟨false, by simp [c2], ?_⟩
    simp
    intro h
    obtain ⟨x, hx, hp⟩ := List.any_eq_true.1 c2
    have := h.rul x hx
    simp at hp; omega
  by_cases c3 : (entry.any fun x => decide (x < 0) || decide (x ≥ (rows.length : Int))) = true
  · refine ⟨false, by simp [c2, c3], ?_⟩
    simp
    intro h
    obtain ⟨x, hx, hp⟩ := List.any_eq_true.1 c3
    have := h.ent x hx
    simp at hp; omega
  have hr0 : 0 < rows.length := by omega
  have hu0 : 0 < rule.length := by omega
  simp only [if_neg c2, Option.bind_some, if_neg c3]
  have i0 : idx rows 0 = some rows[0] := idx_nat (i := 0) hr0
  have i1 : idx rule 0 = some rule[0] := idx_nat (i := 0) hu0
  rw [i0, i1]
  have c1' : ∀ r ∈ rows, ∀ x ∈ r, 0 ≤ x ∧ x < (rows.length : Int) := by
    intro r hr x hx
    have h1 : (rows.any fun r => r.any fun x => decide (x < 0) || decide (x ≥ (rows.length : Int))) = false := by simpa using c1
    have h2 := List.any_eq_false.1 h1 r hr
    have h3 := List.any_eq_false.1 (by simpa using h2 : (r.any fun x => decide (x < 0) || decide (x ≥ (rows.length : Int))) = false) x hx
    simp at h3; omega
  have c2' : ∀ x ∈ rule, -1 ≤ x ∧ x < 48 := by
    intro x hx
    have h3 := List.any_eq_false.1 (by simpa using c2 : (rule.any fun x => decide (x < -1) || decide (x ≥ 48)) = false) x hx
    simp at h3; omega
  have c3' : ∀ x ∈ entry, 0 ≤ x ∧ x < (rows.length : Int) := by
    intro x hx
    have h3 := List.any_eq_false.1 (by simpa using c3 : (entry.any fun x => decide (x < 0) || decide (x ≥ (rows.length : Int))) = false) x hx
    simp at h3; omega
  by_cases d1 : rows[0] = z
  · by_cases d2 : rule[0] = -1
    · refine ⟨true, by simp [d1, d2], ?_⟩
      simp
      exact ⟨by omega, by omega, a3, by omega, by omega, c1', c2', c3', by rw [List.getElem?_eq_getElem hr0, d1, hz], by rw [List.getElem?_eq_getElem hu0, d2]⟩
    · refine ⟨false, by simp [d1, d2], ?_⟩
      simp
      intro h
      have := h.u0
      rw [List.getElem?_eq_getElem hu0] at this
      exact d2 (Option.some.inj this)
  · refine ⟨false, by simp [d1], ?_⟩
    simp
    intro h
    have := h.r0
    rw [List.getElem?_eq_getElem hr0, hz] at this
    exact d1 (Option.some.inj this)
end Go.Proofs.YtealkahefalaeaaGreatDoor
namespace Go.Proofs.YtealkahefalaeaaGreatDoor
open Go Go.Eng
theorem range_get {n i x : Nat} (h : (List.range n)[i]? = some x) : i < n ∧ x = i := by
  have hl := lt_len h
  simp at hl
  rw [List.getElem?_range hl] at h
  exact ⟨hl, (Option.some.inj h).symm⟩
/-- what the document asks of row i -/
def badRow (rows : List (List Int)) (rule : List Int) (i : Nat) : Bool :=
  (decide (rule.getD i 0 < -1) || decide (rule.getD i 0 > 47)) || (rows.getD i []).any fun x => decide (x < 0) || decide (x ≥ (rows.length : Int)) || (i == 0 && x != 0)
theorem ref_row {N : Nat} {rows : List (List Int)} {rule : List Int} (hN : 4294967296 ≤ N) (h2 : rows.length ≤ 200) (hw : ∀ r ∈ rows, r.length = 256) (hu : rule.length = rows.length) :
    iterO N (fun s => F_dofferref17_Right_l0 N rows rule s) 0 = some (if (List.range rows.length).any (badRow rows rule) then .inr false else .inl ()) := by
  refine loop_any (List.range rows.length) (badRow rows rule) false (by simp; omega) (fun i x hx => ?_) (by simp [F_dofferref17_Right_l0])
  obtain ⟨hi, rfl⟩ := range_get hx
  have hr : rows[x]? = some rows[x] := List.getElem?_eq_getElem hi
  have hui : x < rule.length := by omega
  have hu : rule[x]? = some rule[x] := List.getElem?_eq_getElem hui
  have hlen := hw rows[x] (List.getElem_mem hi)
  have g1 : rule.getD x 0 = rule[x] := by simp [List.getD, hu]
  have g2 : rows.getD x [] = rows[x] := by simp [List.getD, hr]
  unfold F_dofferref17_Right_l0 badRow
  rw [g1, g2]
  simp only [show ((x : Int) < (rows.length : Int)) by omega, decide_true, if_true, idx_of hr, idx_of hu, bind, Option.bind_some]
  by_cases b1 : rule[x] < -1
  · simp [b1]
  by_cases b2 : rule[x] > 47
  · simp [b1, b2]
  simp only [decide_eq_false b1, decide_eq_false b2, Bool.false_eq_true, if_false, Option.bind_some, Bool.or_false, Bool.false_or]
  rw [loop_any (rows[x]) (fun y => decide (y < 0) || decide (y ≥ (rows.length : Int)) || (x == 0 && y != 0)) (τ := Int ⊕ (Unit ⊕ Bool)) (.inr (.inr false)) (by omega) (fun j y hy => by
    have hj := lt_len hy
    unfold F_dofferref17_Right_l1
    simp only [show ((j : Int) < 256) by omega, decide_true, if_true, idx_of hy, bind, Option.bind_some]
    by_cases c1 : y < 0
    · simp [c1]
    by_cases c2 : y ≥ (rows.length : Int)
    · simp [c1, c2]
    simp only [decide_eq_false c1, decide_eq_false c2, Bool.false_eq_true, if_false, Bool.or_false, Bool.false_or]
    rw [w64_succ (by omega)]
    by_cases c3 : x = 0
    · subst c3; by_cases c4 : y = 0 <;> simp [c4]
    · have : ¬ ((x : Int) = 0) := by omega
      simp [c3]) (by unfold F_dofferref17_Right_l1; simp [hlen])]
  rw [w64_succ (by omega)]
  by_cases d : (rows[x].any fun y => decide (y < 0) || decide (y ≥ (rows.length : Int)) || (x == 0 && y != 0)) = true
  · simp [d]
  · simp [d]
theorem refRight_spec {N : Nat} {rows : List (List Int)} {rule entry : List Int} (hN : 4294967296 ≤ N) (hs : Sz rows rule entry) : ∃ b, F_dofferref17_Right N rows rule entry = some b ∧ (b = true ↔ Rt rows rule entry) := by
  unfold F_dofferref17_Right
  by_cases a1 : (rows.length : Int) < 1
  · exact ⟨false, by simp [a1], by simp; intro h; have := h.n1; omega⟩
  by_cases a2 : (rows.length : Int) > 200
  · exact ⟨false, by simp [a1, a2], by simp; intro h; have := h.n2; omega⟩
  by_cases a3 : rule.length = rows.length
  case neg =>
    have e0 : ((rule.length : Int) != (rows.length : Int)) = true := by simp; omega
    exact ⟨false, by simp [a1, a2, e0], by simp; intro h; exact a3 h.ru⟩
  by_cases a4 : (entry.length : Int) < 1
  · exact ⟨false, by simp [a1, a2, a3, a4], by simp; intro h; have := h.e1; omega⟩
  by_cases a5 : (entry.length : Int) > 8
  · exact ⟨false, by simp [a1, a2, a3, a4, a5], by simp; intro h; have := h.e2; omega⟩
  have e0 : ((rule.length : Int) != (rows.length : Int)) = false := by simp [a3]
  simp only [decide_eq_false a1, decide_eq_false a2, e0, decide_eq_false a4, decide_eq_false a5, bind, Option.bind_some, Bool.false_eq_true, if_false]
  rw [ref_row hN (by omega) hs.w a3]
  have hr0 : 0 < rows.length := by omega
  have hu0 : 0 < rule.length := by omega
  by_cases c1 : ((List.range rows.length).any (badRow rows rule)) = true
  · refine ⟨false, by simp [c1], ?_⟩
    simp only [Bool.false_eq_true, false_iff]
    intro h
    obtain ⟨i, hi, hp⟩ := List.any_eq_true.1 c1
    have hi : i < rows.length := by simpa using hi
    have hui : i < rule.length := by omega
    unfold badRow at hp
    have g1 : rule.getD i 0 = rule[i] := by simp [List.getD, List.getElem?_eq_getElem hui]
    have g2 : rows.getD i [] = rows[i] := by simp [List.getD, List.getElem?_eq_getElem hi]
    rw [g1, g2] at hp
    have h1 := h.rul _ (List.getElem_mem hui)
    rcases Bool.or_eq_true_iff.1 hp with hp | hp
    · simp at hp; omega
    · obtain ⟨x, hx, hp⟩ := List.any_eq_true.1 hp
      have h2 := h.row _ (List.getElem_mem hi) x hx
      simp at hp
      rcases hp with hp | ⟨rfl, h4⟩
      · omega
      · have h3 := h.r0
        rw [List.getElem?_eq_getElem hr0] at h3
        rw [Option.some.inj h3] at hx
        exact h4 (List.eq_of_mem_replicate hx)
  rw [if_neg c1]
  simp only [Option.bind_some]
  rw [loop_any entry (fun x => decide (x < 0) || decide (x ≥ (rows.length : Int))) false (by have := hs.c; omega) (fun i x hx => by
    have hi := lt_len hx
    unfold F_dofferref17_Right_l2
    simp only [show ((i : Int) < (entry.length : Int)) by omega, decide_true, if_true, idx_of hx, bind, Option.bind_some]
    rw [w64_succ (by omega)]
    by_cases c1 : x < 0 <;> simp [c1]) (by unfold F_dofferref17_Right_l2; simp)]
  have c1' : ∀ i, (hi : i < rows.length) → (-1 ≤ rule[i]'(by omega) ∧ rule[i]'(by omega) < 48) ∧ ∀ x ∈ rows[i], 0 ≤ x ∧ x < (rows.length : Int) ∧ (i = 0 → x = 0) := by
    intro i hi
    have hui : i < rule.length := by omega
    have h1 : ((List.range rows.length).any (badRow rows rule)) = false := by simpa using c1
    have hp := List.any_eq_false.1 h1 i (by simpa using hi)
    unfold badRow at hp
    have g1 : rule.getD i 0 = rule[i] := by simp [List.getD, List.getElem?_eq_getElem hui]
    have g2 : rows.getD i [] = rows[i] := by simp [List.getD, List.getElem?_eq_getElem hi]
    rw [g1, g2, Bool.not_eq_true, Bool.or_eq_false_iff] at hp
    obtain ⟨hp1, hp2⟩ := hp
    refine ⟨by simp at hp1; omega, fun x hx => ?_⟩
    have := List.any_eq_false.1 hp2 x hx
    simp at this
    exact ⟨by omega, by omega, this.2⟩
  by_cases c3 : (entry.any fun x => decide (x < 0) || decide (x ≥ (rows.length : Int))) = true
  · refine ⟨false, by simp [c3], ?_⟩
    simp
    intro h
    obtain ⟨x, hx, hp⟩ := List.any_eq_true.1 c3
    have := h.ent x hx
    simp at hp; omega
  have c3' : ∀ x ∈ entry, 0 ≤ x ∧ x < (rows.length : Int) := by
    intro x hx
    have h3 := List.any_eq_false.1 (by simpa using c3 : (entry.any fun x => decide (x < 0) || decide (x ≥ (rows.length : Int))) = false) x hx
    simp at h3; omega
  rw [if_neg c3]
  have i1 : idx rule 0 = some rule[0] := idx_nat (i := 0) hu0
  simp only [i1, Option.bind_some]
  by_cases d2 : rule[0] = -1
  · refine ⟨true, by simp [d2], ?_⟩
    simp only [true_iff]
    refine ⟨by omega, by omega, a3, by omega, by omega, ?_, ?_, c3', ?_, by rw [List.getElem?_eq_getElem hu0, d2]⟩
    · intro r hr x hx
      obtain ⟨i, hi, rfl⟩ := List.mem_iff_getElem.1 hr
      have := (c1' i hi).2 x hx
      exact ⟨this.1, this.2.1⟩
    · intro x hx
      obtain ⟨i, hi, rfl⟩ := List.mem_iff_getElem.1 hx
      exact (c1' i (by omega)).1
    · rw [List.getElem?_eq_getElem hr0]
      congr 1
      exact List.eq_replicate_iff.2 ⟨hs.w _ (List.getElem_mem hr0), fun x hx => ((c1' 0 hr0).2 x hx).2.2 rfl⟩
  · refine ⟨false, by simp [d2], ?_⟩
    simp
    intro h
    have := h.u0
    rw [List.getElem?_eq_getElem hu0] at this
    exact d2 (Option.some.inj this)
/-- the copy -/
theorem of_spec {N : Nat} {rows : List (List Int)} {rule entry : List Int} {m : Int} (hN : 4294967296 ≤ N) (hs : Sz rows rule entry) :
    F_dofferlaw17_Of N rows rule entry m = some (if (rows.length : Int) > m ∨ (rule.length : Int) > m ∨ (entry.length : Int) > 20 then ([], false) else (rows, true)) := by
  unfold F_dofferlaw17_Of
  by_cases a1 : (rows.length : Int) > m
  · simp [a1]
  by_cases a2 : (rule.length : Int) > m
  · simp [a1, a2]
  by_cases a3 : (entry.length : Int) > 20
  · simp [a1, a2, a3]
  simp only [bind, if_false, a1, a2, a3, or_self]
  have := loop_fold (f := fun s => F_dofferlaw17_Of_l0 N rows s.1 s.2) (fun i (s : List (List Int)) => ((i : Int), s)) id rows (fun s x => s ++ [x]) (fun i s => s.length = i) (N := N) (s := []) (by have := hs.a; omega) rfl
    (fun i x s hx hI => ⟨by
      have hi := lt_len hx
      have := hs.a
      unfold F_dofferlaw17_Of_l0
      simp only [show ((i : Int) < (rows.length : Int)) by omega, decide_true, if_true, idx_of hx, bind, Option.bind_some]
      rw [w64_succ (by omega), app_eq (by simp; omega)]
      rfl, by simp [hI]⟩) (fun s _ => by unfold F_dofferlaw17_Of_l0; simp)
  rw [show iterO N (fun s => F_dofferlaw17_Of_l0 N rows s.1 s.2) (0, []) = _ from this]
  have hf : ∀ (l acc : List (List Int)), l.foldl (fun s x => s ++ [x]) acc = acc ++ l := by
    intro l
    induction l with
    | nil => simp
    | cons x l ih => intro acc; rw [List.foldl_cons, ih]; simp
  rw [hf]
  simp
end Go.Proofs.YtealkahefalaeaaGreatDoor
namespace Go.Proofs.YtealkahefalaeaaGreatDoor
open Go Go.Eng
/-- the copy, of any size -/
theorem of_any {N : Nat} {rows : List (List Int)} {rule entry : List Int} {m : Int} (hN : 4294967296 ≤ N) (hm : m < 4294967296) (hw : ∀ r ∈ rows, r.length = 256) :
    F_dofferlaw17_Of N rows rule entry m = some (if (rows.length : Int) > m ∨ (rule.length : Int) > m ∨ (entry.length : Int) > 20 then ([], false) else (rows, true)) := by
  by_cases h : (rows.length : Int) > m ∨ (rule.length : Int) > m ∨ (entry.length : Int) > 20
  · rw [if_pos h]
    unfold F_dofferlaw17_Of
    by_cases a1 : (rows.length : Int) > m
    · simp [a1]
    by_cases a2 : (rule.length : Int) > m
    · simp [a1, a2]
    by_cases a3 : (entry.length : Int) > 20
    · simp [a1, a2, a3]
    · exact absurd h (by simp [a1, a2, a3])
  · exact of_spec hN ⟨hw, by omega, by omega, by omega⟩
end Go.Proofs.YtealkahefalaeaaGreatDoor
namespace Go.Proofs.YtealkahefalaeaaGreatDoor
open Go Go.Eng
def nxt (rows : List (List Int)) (s c : Int) : Int := (rows.getD s.toNat []).getD c.toNat 0
def beg (entry : List Int) (cond : Int) : Int := if 0 ≤ cond ∧ cond < (entry.length : Int) then entry.getD cond.toNat 0 else 0
def stt (rows : List (List Int)) (entry : List Int) (cond : Int) (text : List Int) : Int := text.foldl (nxt rows) (beg entry cond)
/-- bytes -/
def Byt (text : List Int) : Prop := ∀ c ∈ text, 0 ≤ c ∧ c < 256
theorem Byt.take {text : List Int} (h : Byt text) (k : Nat) : Byt (text.take k) := fun c hc => h c (List.mem_of_mem_take hc)
section
variable {N : Nat} {rows : List (List Int)} {rule entry : List Int}
theorem nxt_get (hs : Sz rows rule entry) {s c : Int} (hr : 0 ≤ s ∧ s < rows.length) (hc : 0 ≤ c ∧ c < 256) : ∃ row, idx rows s = some row ∧ row ∈ rows ∧ idx row c = some (nxt rows s c) ∧ nxt rows s c ∈ row := by
  have hl : s.toNat < rows.length := by omega
  have hw := hs.w _ (List.getElem_mem hl)
  have e1 : rows.getD s.toNat [] = rows[s.toNat] := by rw [List.getD, List.getElem?_eq_getElem hl]; rfl
  have hcl : c.toNat < rows[s.toNat].length := by omega
  have e2 : nxt rows s c = rows[s.toNat][c.toNat] := by unfold nxt; rw [e1, List.getD, List.getElem?_eq_getElem hcl]; rfl
  exact ⟨rows[s.toNat], idx_int hr.1 hl, List.getElem_mem hl, by rw [e2]; exact idx_int hc.1 hcl, e2 ▸ List.getElem_mem hcl⟩
theorem nxt_rng (hs : Sz rows rule entry) (h : Rt rows rule entry) {s c : Int} (hr : 0 ≤ s ∧ s < rows.length) (hc : 0 ≤ c ∧ c < 256) : 0 ≤ nxt rows s c ∧ nxt rows s c < rows.length := by
  obtain ⟨row, _, h2, _, h4⟩ := nxt_get hs hr hc
  exact h.row row h2 _ h4
theorem next_spec (hs : Sz rows rule entry) {s c : Int} (hr : 0 ≤ s ∧ s < rows.length) (hc : 0 ≤ c ∧ c < 256) : F_subset_DFA_next N rows rule entry s c = some (nxt rows s c) := by
  obtain ⟨row, h1, _, h3, _⟩ := nxt_get hs hr hc
  unfold F_subset_DFA_next
  simp only [show ¬ s < 0 by omega, show ¬ s ≥ (rows.length : Int) by omega, decide_false, Bool.false_eq_true, if_false, bind, Option.bind_some, h1, h3]
theorem beg_rng (h : Rt rows rule entry) (cond : Int) : 0 ≤ beg entry cond ∧ beg entry cond < rows.length := by
  unfold beg
  split
  · rename_i hc
    have hl : cond.toNat < entry.length := by omega
    rw [List.getD, List.getElem?_eq_getElem hl]
    exact h.ent _ (List.getElem_mem hl)
  · have := h.n1; omega
theorem begin_spec (cond : Int) : F_subset_DFA_begin N rows rule entry cond = some (beg entry cond) := by
  unfold F_subset_DFA_begin beg
  by_cases h1 : cond < 0
  · have : ¬ (0 ≤ cond ∧ cond < (entry.length : Int)) := by omega
    simp [h1, this]
  by_cases h2 : cond ≥ (entry.length : Int)
  · have : ¬ (0 ≤ cond ∧ cond < (entry.length : Int)) := by omega
    simp [h1, h2, this]
  · have h3 : 0 ≤ cond ∧ cond < (entry.length : Int) := by omega
    have hl : cond.toNat < entry.length := by omega
    rw [if_pos h3, List.getD, List.getElem?_eq_getElem hl]
    simp only [h1, h2, decide_false, Bool.false_eq_true, if_false, bind, Option.bind_some, idx_int h3.1 hl]
    rfl
theorem stt_rng (hs : Sz rows rule entry) (h : Rt rows rule entry) (cond : Int) {text : List Int} (ht : Byt text) : 0 ≤ stt rows entry cond text ∧ stt rows entry cond text < rows.length := by
  unfold stt
  have key : ∀ (l : List Int) (s : Int), Byt l → (0 ≤ s ∧ s < (rows.length : Int)) → 0 ≤ l.foldl (nxt rows) s ∧ l.foldl (nxt rows) s < rows.length := by
    intro l
    induction l with
    | nil => intro s _ hs; exact hs
    | cons c l ih => intro s hl hr; exact ih _ (fun x hx => hl x (by simp [hx])) (nxt_rng hs h hr (hl c (by simp)))
  exact key text _ ht (beg_rng h cond)
theorem run_spec (hN : 4294967296 ≤ N) (hs : Sz rows rule entry) (h : Rt rows rule entry) (cond : Int) {text : List Int} (ht : Byt text) (hl : text.length < 4294967296) :
    F_subset_DFA_Run N rows rule entry cond text = some (rule.getD (stt rows entry cond text).toNat 0) := by
  obtain ⟨b, hb, hbt⟩ := right_spec hN hs
  rw [hbt.2 h] at hb
  unfold F_subset_DFA_Run
  obtain ⟨s, h1, h2, _⟩ := loop_inv (f := fun s => F_subset_DFA_Run_l0 N rows rule entry text s.1 s.2) (fun i (s : Int) => ((i : Int), s)) id text (fun i s => s = stt rows entry cond (text.take i) ∧ 0 ≤ s ∧ s < rows.length) (N := N) (s := beg entry cond) (by omega)
    ⟨by simp [stt], beg_rng h cond⟩
    (fun i c s hc hI => by
      obtain ⟨k1, k2⟩ := hI
      have hi := lt_len hc
      have hcb := ht c (List.mem_of_getElem? hc)
      refine ⟨nxt rows s c, ?_, ?_, nxt_rng hs h k2 hcb⟩
      · unfold F_subset_DFA_Run_l0
        simp only [show ((i : Int) < (text.length : Int)) by omega, decide_true, if_true, idx_of hc, next_spec hs k2 hcb, bind, Option.bind_some]
        rw [w64_succ (by omega)]
      · unfold stt at k1 ⊢
        rw [List.take_add_one, hc, List.foldl_append, ← k1]; rfl)
    (fun s _ => by unfold F_subset_DFA_Run_l0; simp)
  rw [List.take_length] at h2
  subst h2
  have hr := stt_rng hs h cond ht
  have hru := h.ru
  have hlt : (stt rows entry cond text).toNat < rule.length := by omega
  simp only [hb, begin_spec, bind, Option.bind_some, Bool.not_true, Bool.false_eq_true, if_false]
  rw [show iterO N (fun s => F_subset_DFA_Run_l0 N rows rule entry text s.1 s.2) (0, beg entry cond) = _ from h1]
  simp only [Option.bind_some, id, idx_int hr.1 hlt]
  rw [List.getD, List.getElem?_eq_getElem hlt]; rfl
theorem run_not (hN : 4294967296 ≤ N) (hs : Sz rows rule entry) (h : ¬ Rt rows rule entry) (cond : Int) {text : List Int} : F_subset_DFA_Run N rows rule entry cond text = some (-1) := by
  obtain ⟨b, hb, hbt⟩ := right_spec hN hs
  have hbf : b = false := by
    cases b with
    | false => rfl
    | true => exact absurd (hbt.1 rfl) h
  subst hbf
  unfold F_subset_DFA_Run
  simp only [hb, bind, Option.bind_some, Bool.not_false, if_true]
theorem right_t (hN : 4294967296 ≤ N) (hs : Sz rows rule entry) (h : Rt rows rule entry) : F_subset_Right N rows rule entry = some true := by
  obtain ⟨b, hb, hbt⟩ := right_spec hN hs
  rw [hbt.2 h] at hb; exact hb
theorem right_f (hN : 4294967296 ≤ N) (hs : Sz rows rule entry) (h : ¬ Rt rows rule entry) : F_subset_Right N rows rule entry = some false := by
  obtain ⟨b, hb, hbt⟩ := right_spec hN hs
  cases b with
  | false => exact hb
  | true => exact absurd (hbt.1 rfl) h
theorem refRight_t (hN : 4294967296 ≤ N) (hs : Sz rows rule entry) (h : Rt rows rule entry) : F_dofferref17_Right N rows rule entry = some true := by
  obtain ⟨b, hb, hbt⟩ := refRight_spec hN hs
  rw [hbt.2 h] at hb; exact hb
theorem refRight_f (hN : 4294967296 ≤ N) (hs : Sz rows rule entry) (h : ¬ Rt rows rule entry) : F_dofferref17_Right N rows rule entry = some false := by
  obtain ⟨b, hb, hbt⟩ := refRight_spec hN hs
  cases b with
  | false => exact hb
  | true => exact absurd (hbt.1 rfl) h
/-- the state behind i bytes -/
def sta (rows : List (List Int)) (entry : List Int) (cond : Int) (text : List Int) (i : Nat) : Int := stt rows entry cond (text.take i)
theorem sta_rng (hs : Sz rows rule entry) (h : Rt rows rule entry) (cond : Int) {text : List Int} (ht : Byt text) (i : Nat) : 0 ≤ sta rows entry cond text i ∧ sta rows entry cond text i < rows.length := stt_rng hs h cond (ht.take i)
theorem sta_succ (cond : Int) {text : List Int} {i : Nat} {c : Int} (hc : text[i]? = some c) : sta rows entry cond text (i + 1) = nxt rows (sta rows entry cond text i) c := by
  unfold sta stt
  rw [List.take_add_one, hc, List.foldl_append]; rfl
theorem sta_zero (cond : Int) {text : List Int} : sta rows entry cond text 0 = beg entry cond := by simp [sta, stt]
theorem sta_all (cond : Int) {text : List Int} : sta rows entry cond text text.length = stt rows entry cond text := by simp [sta]
theorem trace_spec (hN : 4294967296 ≤ N) (hs : Sz rows rule entry) (h : Rt rows rule entry) (cond : Int) {text : List Int} (ht : Byt text) (hl : text.length < 4000000000) :
    F_dofferref17_Trace N rows rule entry cond text = some ((List.range (text.length + 1)).map (sta rows entry cond text)) := by
  obtain ⟨s, h1, h2, h3⟩ := loop_inv (f := fun s => F_dofferref17_Trace_l0 N rows text s.1 s.2.1 s.2.2) (fun i (s : Int × List Int) => ((i : Int), s)) (fun s => s.2) text (fun i s => s.1 = sta rows entry cond text i ∧ s.2 = (List.range (i + 1)).map (sta rows entry cond text)) (N := N) (s := (beg entry cond, [beg entry cond])) (by omega)
    ⟨(sta_zero cond).symm, by simp [sta_zero]⟩
    (fun i c s hc hI => by
      obtain ⟨s1, s2⟩ := s
      obtain ⟨k1, k2⟩ := hI
      simp only at k1 k2
      subst k1 k2
      have hi := lt_len hc
      have hcb := ht c (List.mem_of_getElem? hc)
      obtain ⟨row, g1, _, g3, _⟩ := nxt_get hs (sta_rng hs h cond ht i) hcb
      refine ⟨(sta rows entry cond text (i + 1), (List.range (i + 1 + 1)).map (sta rows entry cond text)), ?_, rfl, rfl⟩
      unfold F_dofferref17_Trace_l0
      simp only [show ((i : Int) < (text.length : Int)) by omega, decide_true, if_true, idx_of hc, g1, g3, bind, Option.bind_some]
      rw [w64_succ (by omega), app_eq (by simp; omega), ← sta_succ cond hc]
      simp [List.range_succ])
    (fun s _ => by unfold F_dofferref17_Trace_l0; simp)
  have hb : ((if (decide (cond ≥ 0)) = true then some (decide (cond < (entry.length : Int))) else some false : Option Bool)) = some (decide (0 ≤ cond ∧ cond < (entry.length : Int))) := by
    by_cases c1 : 0 ≤ cond <;> simp [c1]
  unfold F_dofferref17_Trace
  rw [hb]
  simp only [bind, Option.bind_some]
  have hq : (if decide (0 ≤ cond ∧ cond < (entry.length : Int)) = true then (idx entry cond).bind (fun x => some x) else some 0) = some (beg entry cond) := by
    unfold beg
    by_cases c1 : 0 ≤ cond ∧ cond < (entry.length : Int)
    · have hl : cond.toNat < entry.length := by omega
      rw [if_pos (by simpa using c1), if_pos c1, idx_int c1.1 hl, List.getD, List.getElem?_eq_getElem hl]; rfl
    · rw [if_neg (by simpa using c1), if_neg c1]
  rw [hq]
  simp only [Option.bind_some]
  rw [show iterO N (fun s => F_dofferref17_Trace_l0 N rows text s.1 s.2.1 s.2.2) (0, beg entry cond, [beg entry cond]) = _ from h1]
  simp [h3]
/-- the longest beginning behind which there is a rule, among the first j -/
def bst (rows : List (List Int)) (rule entry : List Int) (cond : Int) (text : List Int) (most : Int) : Nat → Int × Int
  | 0 => (0, -1)
  | j + 1 => if ((j + 1 : Nat) : Int) ≤ most ∧ 0 ≤ rule.getD (sta rows entry cond text (j + 1)).toNat 0 then (((j + 1 : Nat) : Int), rule.getD (sta rows entry cond text (j + 1)).toNat 0) else bst rows rule entry cond text most j
theorem rule_get (h : Rt rows rule entry) {s : Int} (hr : 0 ≤ s ∧ s < rows.length) : idx rule s = some (rule.getD s.toNat 0) ∧ -1 ≤ rule.getD s.toNat 0 := by
  have hru := h.ru
  have hl : s.toNat < rule.length := by omega
  rw [List.getD, List.getElem?_eq_getElem hl]
  exact ⟨idx_int hr.1 hl, (h.rul _ (List.getElem_mem hl)).1⟩
theorem slc_drop {text : List Int} {fr : Int} (h0 : 0 ≤ fr) (h1 : fr ≤ text.length) : slc text fr (text.length : Int) = some (text.drop fr.toNat) := by
  unfold slc
  rw [if_pos ⟨h0, h1, by omega⟩]
  simp
theorem refLongest_spec (hN : 4294967296 ≤ N) (hs : Sz rows rule entry) (h : Rt rows rule entry) (cond : Int) {text : List Int} {fr most : Int} (ht : Byt text) (hl : text.length < 4000000000) (h0 : 0 ≤ fr) (h1 : fr ≤ text.length) :
    F_dofferref17_Longest N rows rule entry cond text fr most = some (bst rows rule entry cond (text.drop fr.toNat) most (text.drop fr.toNat).length) := by
  have hsl : slc text fr (text.length : Int) = some (text.drop fr.toNat) := slc_drop h0 h1
  unfold F_dofferref17_Longest
  simp only [show ¬ fr < 0 by omega, show ¬ fr > (text.length : Int) by omega, decide_false, Bool.false_eq_true, if_false, bind, Option.bind_some, hsl]
  have ht' : Byt (text.drop fr.toNat) := fun c hc => ht c (List.mem_of_mem_drop hc)
  have hl' : (text.drop fr.toNat).length < 4000000000 := by simp; omega
  generalize text.drop fr.toNat = tx at ht' hl'
  rw [trace_spec hN hs h cond ht' hl']
  simp only [Option.bind_some]
  obtain ⟨s, g1, g2⟩ := loop_inv (f := fun s => F_dofferref17_Longest_l0 N rule most ((List.range (tx.length + 1)).map (sta rows entry cond tx)) s.1 s.2.1 s.2.2) (fun i (s : Int × Int) => (s.1, s.2, (i : Int))) (fun s => s) ((List.range (tx.length + 1)).map (sta rows entry cond tx)) (fun i s => s = bst rows rule entry cond tx most (i - 1)) (N := N) (s := (0, -1)) (by simp; omega)
    rfl
    (fun i c s hc hI => by
      subst hI
      have hi := lt_len hc
      have hlen : ((List.range (tx.length + 1)).map (sta rows entry cond tx)).length = tx.length + 1 := by simp
      have hcs : c = sta rows entry cond tx i := by
        rw [hlen] at hi
        rw [List.getElem?_map, List.getElem?_range hi] at hc
        exact (Option.some.inj hc).symm
      obtain ⟨r1, r2⟩ := rule_get h (sta_rng hs h cond ht' i)
      refine ⟨bst rows rule entry cond tx most i, ?_, rfl⟩
      unfold F_dofferref17_Longest_l0
      simp only [show ((i : Int) < (((List.range (tx.length + 1)).map (sta rows entry cond tx)).length : Int)) by omega, decide_true, if_true, idx_of hc, bind, Option.bind_some, hcs, r1]
      rw [w64_succ (by omega)]
      cases i with
      | zero => simp [bst]
      | succ j =>
        simp only [bst, Nat.add_sub_cancel]
        by_cases c1 : ((j + 1 : Nat) : Int) ≤ most
        · by_cases c2 : 0 ≤ rule.getD (sta rows entry cond tx (j + 1)).toNat 0
          · have c3 : ((j + 1 : Nat) : Int) > 0 := by omega
            simp only [c1, c2, c3, decide_true, if_true, and_self, Option.bind_some, ge_iff_le]
          · have c3 : ((j + 1 : Nat) : Int) > 0 := by omega
            simp only [c1, c2, c3, decide_true, decide_false, if_true, and_false, if_false, Option.bind_some, Bool.false_eq_true, ge_iff_le]
        · have c3 : ((j + 1 : Nat) : Int) > 0 := by omega
          simp only [c1, c3, decide_true, decide_false, if_true, false_and, if_false, Option.bind_some, Bool.false_eq_true])
    (fun s _ => by unfold F_dofferref17_Longest_l0; simp)
  rw [show iterO N (fun s => F_dofferref17_Longest_l0 N rule most ((List.range (tx.length + 1)).map (sta rows entry cond tx)) s.1 s.2.1 s.2.2) (0, -1, 0) = _ from g1]
  simp [g2]
theorem bst_stay {cond most : Int} {text : List Int} {k : Nat} (hk : ∀ j, k ≤ j → j < text.length → ¬ (((j + 1 : Nat) : Int) ≤ most ∧ 0 ≤ rule.getD (sta rows entry cond text (j + 1)).toNat 0)) : ∀ j, k ≤ j → j ≤ text.length → bst rows rule entry cond text most j = bst rows rule entry cond text most k
  | 0, h1, _ => by obtain rfl : k = 0 := by omega
                   rfl
  | j + 1, h1, h2 => by
    by_cases e : k = j + 1
    · rw [e]
    · rw [bst, if_neg (hk j (by omega) (by omega))]
      exact bst_stay hk j (by omega) (by omega)
theorem zero_row (hs : Sz rows rule entry) (h : Rt rows rule entry) {c : Int} (hc : 0 ≤ c ∧ c < 256) : nxt rows 0 c = 0 := by
  have h0 := h.r0
  unfold nxt
  have e : rows.getD (0 : Int).toNat [] = List.replicate 256 0 := by rw [show (0 : Int).toNat = 0 from rfl, List.getD, h0]; rfl
  rw [e, List.getD, List.getElem?_replicate]
  split <;> rfl
theorem sta_dead (hs : Sz rows rule entry) (h : Rt rows rule entry) (cond : Int) {text : List Int} (ht : Byt text) {k : Nat} (hk : sta rows entry cond text k = 0) : ∀ j, k ≤ j → j ≤ text.length → sta rows entry cond text j = 0
  | 0, h1, _ => by obtain rfl : k = 0 := by omega
                   exact hk
  | j + 1, h1, h2 => by
    by_cases e : k = j + 1
    · rw [← e]; exact hk
    · have := sta_dead hs h cond ht hk j (by omega) (by omega)
      have hc : text[j]? = some text[j] := List.getElem?_eq_getElem (by omega)
      rw [sta_succ cond hc, this, zero_row hs h (ht _ (List.getElem_mem _))]
theorem longest_spec (hN : 4294967296 ≤ N) (hs : Sz rows rule entry) (h : Rt rows rule entry) (cond : Int) {text : List Int} {fr most : Int} (ht : Byt text) (hl : text.length < 4000000000) (h0 : 0 ≤ fr) (h1 : fr ≤ text.length) :
    F_subset_DFA_Longest N rows rule entry cond text fr most = some (bst rows rule entry cond (text.drop fr.toNat) most (text.drop fr.toNat).length) := by
  have hsl : slc text fr (text.length : Int) = some (text.drop fr.toNat) := slc_drop h0 h1
  unfold F_subset_DFA_Longest
  simp only [show ¬ fr < 0 by omega, show ¬ fr > (text.length : Int) by omega, decide_false, Bool.false_eq_true, if_false, bind, Option.bind_some, hsl, right_t hN hs h, Bool.not_true, begin_spec]
  have ht' : Byt (text.drop fr.toNat) := fun c hc => ht c (List.mem_of_mem_drop hc)
  have hl' : (text.drop fr.toNat).length < 4000000000 := by simp; omega
  generalize text.drop fr.toNat = tx at ht' hl'
  obtain ⟨r, g1, g2⟩ := iterO_while (f := fun s : Int × Int × Int × Int => F_subset_DFA_Longest_l0 N rows rule entry most tx s.1 s.2.1 s.2.2.1 s.2.2.2)
    (fun s => ∃ k : Nat, k ≤ tx.length ∧ s = ((bst rows rule entry cond tx most k).1, (bst rows rule entry cond tx most k).2, sta rows entry cond tx k, (k : Int)))
    (fun s => tx.length - s.2.2.2.toNat) (fun r => r = bst rows rule entry cond tx most tx.length)
    (fun s hI => by
      obtain ⟨k, hk, rfl⟩ := hI
      unfold F_subset_DFA_Longest_l0
      by_cases hkl : k < tx.length
      · have hc : tx[k]? = some tx[k] := List.getElem?_eq_getElem hkl
        have hcb := ht' _ (List.getElem_mem hkl)
        have hr1 := sta_rng hs h cond ht' (k + 1)
        obtain ⟨r1, r2⟩ := rule_get h hr1
        simp only [show ((k : Int) < (tx.length : Int)) by omega, decide_true, if_true, idx_of hc, next_spec hs (sta_rng hs h cond ht' k) hcb, bind, Option.bind_some, ← sta_succ cond hc]
        by_cases d1 : sta rows entry cond tx (k + 1) = 0
        · right
          refine ⟨bst rows rule entry cond tx most k, by simp [d1], ?_⟩
          refine (bst_stay (fun j h1 h2 => ?_) tx.length hk (Nat.le_refl _)).symm
          rw [sta_dead hs h cond ht' d1 (j + 1) (by omega) (by omega)]
          have hu := h.u0
          rw [show (0 : Int).toNat = 0 from rfl, List.getD, hu]
          simp
        have e1 : (sta rows entry cond tx (k + 1) == 0) = false := by simpa using d1
        by_cases d2 : (k : Int) ≥ most
        · right
          refine ⟨bst rows rule entry cond tx most k, by simp [e1, d2], ?_⟩
          refine (bst_stay (fun j h1 h2 => ?_) tx.length hk (Nat.le_refl _)).symm
          intro hh; omega
        left
        simp only [e1, d2, decide_false, Bool.false_eq_true, if_false, Option.bind_some, r1]
        rw [w64_succ (by omega)]
        refine ⟨((bst rows rule entry cond tx most (k + 1)).1, (bst rows rule entry cond tx most (k + 1)).2, sta rows entry cond tx (k + 1), ((k + 1 : Nat) : Int)), ?_, ⟨k + 1, by omega, rfl⟩, by simp; omega⟩
        by_cases d3 : rule.getD (sta rows entry cond tx (k + 1)).toNat 0 = -1
        · have e3 : (rule.getD (sta rows entry cond tx (k + 1)).toNat 0 != -1) = false := by simpa using d3
          have e4 : ¬ (((k + 1 : Nat) : Int) ≤ most ∧ 0 ≤ rule.getD (sta rows entry cond tx (k + 1)).toNat 0) := by rw [d3]; omega
          simp only [e3, Bool.false_eq_true, if_false, Option.bind_some, bst, if_neg e4]
        · have e3 : (rule.getD (sta rows entry cond tx (k + 1)).toNat 0 != -1) = true := by simpa using d3
          have e4 : ((k + 1 : Nat) : Int) ≤ most ∧ 0 ≤ rule.getD (sta rows entry cond tx (k + 1)).toNat 0 := by omega
          simp only [e3, if_true, Option.bind_some, bst, if_pos e4]
      · right
        obtain rfl : k = tx.length := by omega
        exact ⟨bst rows rule entry cond tx most tx.length, by simp, rfl⟩) (N := N) (s := (0, -1, beg entry cond, 0)) ⟨0, by omega, by rw [sta_zero]; rfl⟩ (by simp; omega)
  rw [show iterO N (fun s : Int × Int × Int × Int => F_subset_DFA_Longest_l0 N rows rule entry most tx s.1 s.2.1 s.2.2.1 s.2.2.2) (0, -1, beg entry cond, 0) = _ from g1]
  simp [g2]
end
end Go.Proofs.YtealkahefalaeaaGreatDoor
namespace Go.Proofs.YtealkahefalaeaaGreatDoor
open Go Go.Eng
theorem codeNext_spec {N : Nat} {rows : List (List Int)} {rule entry : List Int} (hs : Sz rows rule entry) {s c : Int} (hc : 0 ≤ c ∧ c < 256) :
    F_subset_DFA_next N rows rule entry s c = some (if 0 ≤ s ∧ s < (rows.length : Int) then nxt rows s c else 0) := by
  by_cases h : 0 ≤ s ∧ s < (rows.length : Int)
  · rw [if_pos h]; exact next_spec hs h hc
  · rw [if_neg h]
    unfold F_subset_DFA_next
    by_cases h1 : s < 0
    · simp [h1]
    · have : s ≥ (rows.length : Int) := by omega
      simp [h1, this]
theorem subsetRuns_true {rows : List (List Int)} {rule entry text : List Int} {cond fr most : Int} (hw : ∀ r ∈ rows, r.length = 256) (ht : Byt text) : ∃ N, F_dofferlaw17_SubsetRuns N rows rule entry text cond fr most = some true := by
  refine ⟨4294967296, ?_⟩
  generalize hM : (4294967296 : Nat) = N
  have hN : 4294967296 ≤ N := by omega
  unfold F_dofferlaw17_SubsetRuns
  rw [of_any hN (by omega) hw]
  simp only [bind, Option.bind_some]
  by_cases h1 : (rows.length : Int) > 40 ∨ (rule.length : Int) > 40 ∨ (entry.length : Int) > 20
  · simp [h1]
  by_cases h2 : (text.length : Int) > 50
  · simp [h1, h2]
  have hs : Sz rows rule entry := ⟨hw, by omega, by omega, by omega⟩
  have hl : text.length < 4000000000 := by omega
  simp only [if_neg h1, h2, decide_false, Bool.not_true, Bool.false_eq_true, if_false, Option.bind_some]
  by_cases hR : Rt rows rule entry
  case neg =>
    have hlong : F_subset_DFA_Longest N rows rule entry cond text fr most = some (0, -1) := by
      unfold F_subset_DFA_Longest
      by_cases c1 : fr < 0
      · simp [c1]
      by_cases c2 : fr > (text.length : Int)
      · simp [c1, c2]
      simp [c1, c2, right_f hN hs hR]
    have hnext : F_subset_DFA_Next N rows rule entry fr 5 = some 0 := by unfold F_subset_DFA_Next; simp [right_f hN hs hR]
    have hbeg : F_subset_DFA_Begin N rows rule entry cond = some 0 := by unfold F_subset_DFA_Begin; simp [right_f hN hs hR]
    simp [hlong, right_f hN hs hR, refRight_f hN hs hR, run_not hN hs hR cond (text := text), hnext, hbeg]
  have hlong : F_subset_DFA_Longest N rows rule entry cond text fr most = F_dofferref17_Longest N rows rule entry cond text fr most := by
    by_cases c1 : fr < 0
    · unfold F_subset_DFA_Longest F_dofferref17_Longest; simp [c1]
    by_cases c2 : fr > (text.length : Int)
    · unfold F_subset_DFA_Longest F_dofferref17_Longest; simp [c1, c2]
    rw [longest_spec hN hs hR cond ht hl (by omega) (by omega), refLongest_spec hN hs hR cond ht hl (by omega) (by omega)]
  obtain ⟨⟨q1, q2⟩, hq⟩ : ∃ q, F_dofferref17_Longest N rows rule entry cond text fr most = some q := by
    by_cases c1 : fr < 0
    · exact ⟨(0, -1), by unfold F_dofferref17_Longest; simp [c1]⟩
    by_cases c2 : fr > (text.length : Int)
    · exact ⟨(0, -1), by unfold F_dofferref17_Longest; simp [c1, c2]⟩
    exact ⟨_, refLongest_spec hN hs hR cond ht hl (by omega) (by omega)⟩
  have hbeg : F_subset_DFA_Begin N rows rule entry cond = some (beg entry cond) := by unfold F_subset_DFA_Begin; simp [right_t hN hs hR, begin_spec]
  have hnext : ∀ c : Int, 0 ≤ c ∧ c < 256 → F_subset_DFA_Next N rows rule entry fr c = some (if 0 ≤ fr ∧ fr < (rows.length : Int) then nxt rows fr c else 0) := fun c hc => by
    unfold F_subset_DFA_Next
    simp only [right_t hN hs hR, bind, Option.bind_some, Bool.not_true, Bool.false_eq_true, if_false, codeNext_spec hs hc]
  have htl : ((List.range (text.length + 1)).map (sta rows entry cond text)).length = text.length + 1 := by simp
  have i0 : idx ((List.range (text.length + 1)).map (sta rows entry cond text)) 0 = some (beg entry cond) := by
    have := idx_of (xs := (List.range (text.length + 1)).map (sta rows entry cond text)) (i := 0) (x := beg entry cond) (by rw [List.getElem?_map, List.getElem?_range (by omega)]; simp [sta_zero])
    exact this
  have iL : idx ((List.range (text.length + 1)).map (sta rows entry cond text)) (w64 ((((List.range (text.length + 1)).map (sta rows entry cond text)).length : Int) - 1)) = some (stt rows entry cond text) := by
    rw [htl, show (((text.length + 1 : Nat) : Int) - 1) = (text.length : Int) by omega, w64, wrap64 (by omega) (by omega)]
    exact idx_of (by rw [List.getElem?_map, List.getElem?_range (by omega), ← sta_all cond]; rfl)
  have hru := (rule_get hR (stt_rng hs hR cond ht)).1
  simp only [hlong, hq, right_t hN hs hR, refRight_t hN hs hR, trace_spec hN hs hR cond ht hl, Option.bind_some, bne_self_eq_false, Bool.false_eq_true, if_false, Bool.not_true, i0, iL, hbeg, hru, run_spec hN hs hR cond ht (by omega), BEq.rfl, if_true]
  by_cases hte : 0 < text.length
  · have ht0 : idx text 0 = some text[0] := idx_nat (i := 0) hte
    have hc0 := ht _ (List.getElem_mem hte)
    simp only [ht0, Option.bind_some, hnext _ hc0, show (text.length : Int) > 0 by omega, decide_true, if_true]
    by_cases hf : 0 ≤ fr ∧ fr < (rows.length : Int)
    · obtain ⟨row, g1, _, g3, _⟩ := nxt_get hs hf hc0
      simp [hf.1, hf.2, g1, g3]
    · have e1 : (if decide (fr ≥ 0) = true then if decide (fr < (rows.length : Int)) = true then some true else some false else some false : Option Bool) = some false := by
        by_cases c1 : fr ≥ 0
        · have c2 : ¬ fr < (rows.length : Int) := by omega
          simp [c1, c2]
        · simp [c1]
      rw [e1, if_neg hf]
      simp
  · have e0 : ¬ ((text.length : Int) > 0) := by omega
    have e1 : (if decide (fr ≥ 0) = true then if decide (fr < (rows.length : Int)) = true then some false else some false else some false : Option Bool) = some false := by
      split
      · split <;> rfl
      · rfl
    simp only [e0, decide_false]
    rw [e1]
    simp
end Go.Proofs.YtealkahefalaeaaGreatDoor
