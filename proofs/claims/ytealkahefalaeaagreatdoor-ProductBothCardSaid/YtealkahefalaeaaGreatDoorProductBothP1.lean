/-
  PLAIN LEAN, no program in sight: what the pure functions answer.
-/
import Derived.Test.YtealkahefalaeaaGreatDoorProductBothD1
import Derived.LaidEql
import Derived.RowKitTokens
import Derived.Stop.Asserts
import Derived.Test.YtealkahefalaeaaGreatDoorChecked
import Derived.Test.YtealkahefalaeaaGreatDoorProg
import Derived.WalkKit
namespace Go.Eng
open Go
theorem iterO_for {σ τ : Type} {f : σ → Option (σ ⊕ τ)} {r : τ} (st : Nat → σ) : ∀ (n : Nat) {N k : Nat}, n < N → (∀ i, k ≤ i → i < k + n → f (st i) = some (.inl (st (i + 1)))) → f (st (k + n)) = some (.inr r) → iterO N f (st k) = some r
  | 0, 0, _, h, _, _ => absurd h (Nat.not_lt_zero _)
  | 0, N + 1, k, _, _, he => by simp only [iterO]; rw [show f (st k) = _ from he]
  | n + 1, 0, _, h, _, _ => absurd h (Nat.not_lt_zero _)
  | n + 1, N + 1, k, h, hs, he => by
    simp only [iterO]
    rw [hs k (Nat.le_refl _) (by omega)]
    exact iterO_for st n (by omega) (fun i h1 h2 => hs i (by omega) (by omega)) (by rw [show k + 1 + n = k + (n + 1) by omega]; exact he)
theorem iterO_for0 {σ τ : Type} {f : σ → Option (σ ⊕ τ)} {r : τ} {s : σ} (st : Nat → σ) (n : Nat) {N : Nat} (h0 : st 0 = s) (hN : n < N) (hs : ∀ i, i < n → f (st i) = some (.inl (st (i + 1)))) (he : f (st n) = some (.inr r)) : iterO N f s = some r := by
  subst h0
  exact iterO_for st n hN (fun i _ h => hs i (by omega)) (by rw [Nat.zero_add]; exact he)
theorem iterO_while {σ τ : Type} {f : σ → Option (σ ⊕ τ)} (I : σ → Prop) (μ : σ → Nat) (Q : τ → Prop) (step : ∀ s, I s → (∃ s', f s = some (.inl s') ∧ I s' ∧ μ s' < μ s) ∨ ∃ r, f s = some (.inr r) ∧ Q r) :
    ∀ {N : Nat} {s : σ}, I s → μ s < N → ∃ r, iterO N f s = some r ∧ Q r
  | 0, _, _, h => absurd h (Nat.not_lt_zero _)
  | N + 1, s, hI, h => by
    rcases step s hI with ⟨s', h1, h2, h3⟩ | ⟨r, h1, h2⟩
    · obtain ⟨r, h4, h5⟩ := iterO_while I μ Q step (N := N) h2 (by omega)
      exact ⟨r, by simp only [iterO, h1]; exact h4, h5⟩
    · exact ⟨r, by simp only [iterO, h1], h2⟩
theorem wrap64 {x : Int} (h1 : -9223372036854775808 ≤ x) (h2 : x ≤ 9223372036854775807) : IntKind.wrap .i64 x = x := by
  simp only [IntKind.wrap, IntKind.signed, IntKind.bits]
  simp
  omega
theorem w64_succ {n : Nat} (h : n < 9223372036854775807) : w64 ((n : Int) + 1) = ((n + 1 : Nat) : Int) := by
  rw [w64, wrap64] <;> omega
theorem idx_nat {α : Type} {xs : List α} {i : Nat} (h : i < xs.length) : idx xs (i : Int) = some xs[i] := by simp [idx, h]
theorem idx_int {α : Type} {xs : List α} {i : Int} (h0 : 0 ≤ i) (h : i.toNat < xs.length) : idx xs i = some xs[i.toNat] := by simp [idx, h, h0]
theorem idx_of {α : Type} {xs : List α} {i : Nat} {x : α} (h : xs[i]? = some x) : idx xs (i : Int) = some x := by simp [idx, h]
theorem setI_nat {α : Type} {xs : List α} {i : Nat} {x : α} (h : i < xs.length) : setI xs (i : Int) x = some (xs.set i x) := by simp [setI, h]
theorem app_eq {α : Type} {xs ys : List α} (h : xs.length + ys.length ≤ 4294967296) : app xs ys = some (xs ++ ys) := by simp [app, h]
theorem mk_eq {α : Type} {z : α} {n : Nat} (h : n ≤ 4294967296) : mk z (n : Int) = some (List.replicate n z) := by
  simp [mk]; omega
/-- a loop over xs that leaves with g at the first element that p fits -/
theorem loop_find {α τ : Type} {f : Int → Option (Int ⊕ (Unit ⊕ τ))} (xs : List α) (p : α → Bool) (g : Nat → τ) {N : Nat} (hN : xs.length < N)
    (hb : ∀ (i : Nat) (x : α), xs[i]? = some x → f (i : Int) = if p x then some (.inr (.inr (g i))) else some (.inl ((i + 1 : Nat) : Int))) (he : f (xs.length : Int) = some (.inr (.inl ()))) :
    iterO N f 0 = some (match xs.findIdx? p with | some i => .inr (g i) | none => .inl ()) := by
  cases h : xs.findIdx? p with
  | none =>
    have h' := List.findIdx?_eq_none_iff.1 h
    refine iterO_for0 (fun i => (i : Int)) xs.length rfl hN (fun i hi => ?_) he
    rw [hb i xs[i] (List.getElem?_eq_getElem hi), h' _ (List.getElem_mem hi)]
    simp
  | some k =>
    obtain ⟨hk, hp, hlt⟩ := List.findIdx?_eq_some_iff_getElem.1 h
    refine iterO_for0 (fun i => (i : Int)) k rfl (by omega) (fun i hi => ?_) ?_
    · rw [hb i _ (List.getElem?_eq_getElem (by omega))]
      have := hlt i hi
      simp [this]
    · rw [hb k _ (List.getElem?_eq_getElem hk)]
      simp [hp]
/-- .. that leaves with b -/
theorem loop_any {α τ : Type} {f : Int → Option (Int ⊕ (Unit ⊕ τ))} (xs : List α) (p : α → Bool) (b : τ) {N : Nat} (hN : xs.length < N)
    (hb : ∀ (i : Nat) (x : α), xs[i]? = some x → f (i : Int) = if p x then some (.inr (.inr b)) else some (.inl ((i + 1 : Nat) : Int))) (he : f (xs.length : Int) = some (.inr (.inl ()))) :
    iterO N f 0 = some (if xs.any p then .inr b else .inl ()) := by
  rw [loop_find xs p (fun _ => b) hN hb he]
  cases h : xs.findIdx? p with
  | none =>
    have h' := List.findIdx?_eq_none_iff.1 h
    have : xs.any p = false := by rw [List.any_eq_false]; intro x hx; rw [h' x hx]; simp
    simp [this]
  | some k =>
    obtain ⟨hk, hp, hlt⟩ := List.findIdx?_eq_some_iff_getElem.1 h
    have : xs.any p = true := List.any_eq_true.2 ⟨_, List.getElem_mem hk, hp⟩
    simp [this]
/-- a loop over xs that folds -/
theorem loop_fold {α σ τ : Type} {ι : Type} {f : ι → Option (ι ⊕ τ)} (st : Nat → σ → ι) (out : σ → τ) (xs : List α) (step : σ → α → σ) (I : Nat → σ → Prop) {N : Nat} {s : σ} (hN : xs.length < N)
    (hI : I 0 s) (hb : ∀ (i : Nat) (x : α) (s : σ), xs[i]? = some x → I i s → f (st i s) = some (.inl (st (i + 1) (step s x))) ∧ I (i + 1) (step s x)) (he : ∀ s, I xs.length s → f (st xs.length s) = some (.inr (out s))) :
    iterO N f (st 0 s) = some (out (xs.foldl step s)) := by
  have hI' : ∀ i, i ≤ xs.length → I i ((xs.take i).foldl step s) := by
    intro i
    induction i with
    | zero => intro _; simpa using hI
    | succ i ih =>
      intro hi
      have hx : xs[i]? = some xs[i] := List.getElem?_eq_getElem (by omega)
      rw [List.take_add_one, hx, List.foldl_append]
      exact (hb i _ _ hx (ih (by omega))).2
  refine iterO_for0 (fun i => st i ((xs.take i).foldl step s)) xs.length (by simp) hN (fun i hi => ?_) ?_
  · have hx : xs[i]? = some xs[i] := List.getElem?_eq_getElem hi
    rw [(hb i _ _ hx (hI' i (by omega))).1, List.take_add_one, hx, List.foldl_append]
    rfl
  · have := he _ (hI' _ (Nat.le_refl _))
    rw [List.take_length] at this
    simp only [List.take_length]
    exact this
/-- a loop over xs, by an invariant -/
theorem loop_inv {α σ τ ι : Type} {f : ι → Option (ι ⊕ τ)} (st : Nat → σ → ι) (out : σ → τ) (xs : List α) (I : Nat → σ → Prop) {N : Nat} {s : σ} (hN : xs.length < N)
    (hI : I 0 s) (hb : ∀ (i : Nat) (x : α) (s : σ), xs[i]? = some x → I i s → ∃ s', f (st i s) = some (.inl (st (i + 1) s')) ∧ I (i + 1) s') (he : ∀ s, I xs.length s → f (st xs.length s) = some (.inr (out s))) :
    ∃ s', iterO N f (st 0 s) = some (out s') ∧ I xs.length s' := by
  have key : ∀ (k i : Nat) (s : σ) (M : Nat), i + k = xs.length → k < M → I i s → ∃ s', iterO M f (st i s) = some (out s') ∧ I xs.length s' := by
    intro k
    induction k with
    | zero =>
      intro i s M hi hM h
      obtain ⟨M, rfl⟩ : ∃ m, M = m + 1 := ⟨M - 1, by omega⟩
      obtain rfl : i = xs.length := by omega
      exact ⟨s, by simp only [iterO]; rw [he s h], h⟩
    | succ k ih =>
      intro i s M hi hM h
      obtain ⟨M, rfl⟩ : ∃ m, M = m + 1 := ⟨M - 1, by omega⟩
      obtain ⟨s', h1, h2⟩ := hb i _ s (List.getElem?_eq_getElem (by omega)) h
      obtain ⟨s'', h3, h4⟩ := ih (i + 1) s' M (by omega) (by omega) h2
      exact ⟨s'', by simp only [iterO]; rw [h1]; exact h3, h4⟩
  exact key xs.length 0 s N (by omega) hN hI
end Go.Eng
namespace Go.Proofs.YtealkahefalaeaaGreatDoor
open Go Go.Eng Go.Cr
set_option maxRecDepth 100000
theorem xty3 : Ty Tryz.prog 3 1 8 (.int .i64 0) false := ⟨by kernel_rfl, by kernel_rfl⟩
theorem fnx108 : HasFn Tryz.prog 108 := ⟨_, _, Tryz.func108, by kernel_rfl, rfl⟩
theorem fnx128 : HasFn Tryz.prog 128 := ⟨_, _, Tryz.func128, by kernel_rfl, rfl⟩
theorem c_ix108 {N : Nat} {C : Cx} {w : World} {ρ : View} {hs : List Hl} {b2 oo : Nat} {x1 : Int} {x3 : Int} (H : Hp C w ρ (hs)) (g : cellsAt ρ b2 oo [.int .i64 x3]) {r : Bool} (hF : F_subset_Right_1 N x1 x3 = some r) :
  Calls Tryz.prog 108 [.int .i64 x1, .pointer (some ⟨b2, oo, none⟩)].toArray w (Rets (fun v w' => (∃ (x7 : Bool), x7 = r ∧ .bool x7 = v ∧ Hp C w' ρ (hs)))) := by
 unfold F_subset_Right_1 at hF
 have h0 : Tryz.f108.body = some _ := rfl
 refine fn_calls' Tryz.func108 h0 (n := 11) rfl (by simp) <| C_seq <| R_nd <| nq (Q_assign rfl) rfl rfl <| WL_nil <| x_then ?_
 obtain ⟨o9, ho9, hF⟩ := bnd hF
 refine C_cut (fun a w' => ∃ (x8 : Bool), x8 = o9 ∧ Fr 11 a [(3, .bool x8)] ∧ Hp C w' ρ (hs)) ?_ ?_
 ·refine R_nd <| nq (Q_move rfl) rfl rfl <| nq (Q_lss rfl rfl) rfl rfl <| nq (Q_move rfl) rfl rfl ?_
  rcases Bool.eq_false_or_eq_true (decide (x1 < 0)) with hb | hb
  ·rw [hb]
   replace ho9 := itT hb ho9
   refine gs rfl rfl rfl rfl <| gs rfl rfl rfl rfl <| gs rfl rfl rfl rfl <| nq (Q_pickT rfl rfl) rfl rfl <| nq (Q_assign rfl) rfl rfl <| WL_nil ?_
   obtain rfl := Option.some.inj ho9
   refine x_A fun a hf => ⟨true, rfl, hf.sub ⟨rfl, trivial⟩, H⟩
  ·rw [hb]
   replace ho9 := itF hb ho9
   refine gq (Q_move rfl) rfl rfl rfl <| gq (v := .int .i64 x3) (Q_ld (g.up H.ok.view) xty3 rfl (fun _ => rfl) rfl rfl) rfl rfl rfl <| gq (Q_geq rfl rfl) rfl rfl rfl <| nq (Q_pickF rfl rfl) rfl rfl <| nq (Q_assign rfl) rfl rfl <| WL_nil ?_
   obtain rfl := Option.some.inj ho9
   refine x_A fun a hf => ⟨decide (x1 ≥ x3), rfl, hf.sub ⟨rfl, trivial⟩, H⟩
 ·rintro a wd10 ⟨x8, rfl, hf, H⟩
  try dsimp only at hF
  refine CW.at hf <| C_ret ?_
  obtain rfl := Option.some.inj hF
  exact fn_ret (l := [.tmp 3]) (vs := [.bool x8]) rfl rfl rfl ⟨x8, rfl, rfl, H⟩
theorem c_ix128 {N : Nat} {C : Cx} {w : World} {ρ : View} {hs : List Hl} {v1 : Value} {b4 oo : Nat} {x2 : (List Int)} {x5 : Int} (H : Hp C w ρ (hs)) (g : cellsAt ρ b4 oo [.int .i64 x5]) (r3 : RdSl ρ (eI .i64) v1 x2) {r : Int} (hF : F_slices_IndexFunc_int_int N x2 x5 = some r) :
  Calls Tryz.prog 128 [v1, .func (.func 108) #[] [.pointer (some ⟨b4, oo, none⟩)].toArray].toArray w (Rets (fun v w' => (∃ (x88 : Int), x88 = r ∧ .int .i64 x88 = v ∧ Hp C w' ρ (hs)))) := by
 unfold F_slices_IndexFunc_int_int at hF
 have h0 : Tryz.f128.body = some _ := rfl
 refine fn_calls' Tryz.func128 h0 (n := 19) rfl (by simp) <| C_seq <| R_nd <| nq (Q_assign rfl) rfl rfl <| WL_nil <| x_then <| C_seq <| C_seq <| R_nd <| nq (Q_move rfl) rfl rfl <| nq (Q_len Tryz.underlying23 rfl r3) rfl rfl <| nq (Q_move rfl) rfl rfl <| WL_nil <| x_then ?_
 obtain ⟨o129, ho129, hF⟩ := bnd hF
 refine C_cutQ (fun a w' => .inl () = o129 ∧ Fr 19 a [] ∧ Hp C w' ρ (hs)) ?_ ?_
 ·refine C_block ?_
  refine C_iter (f := fun s => F_slices_IndexFunc_int_int_l0 N x2 x5 s) ho129 (fun s a w' => ∃ (x142 : Int), x142 = s ∧ Fr 19 a [(0, v1), (1, .func (.func 108) #[] [.pointer (some ⟨b4, oo, none⟩)].toArray), (7, .int .i64 (x2.length : Int)), (8, .int .i64 x142)] ∧ Hp C w' ρ (hs)) ?_ ?_
  ·exact fun a hf => ⟨0, rfl, hf.sub ⟨rfl, rfl, rfl, rfl, trivial⟩, H⟩
  ·rintro s o155 a wd158 ⟨x142, rfl, hf, H⟩ hB156 hO157
   replace hB156 : F_slices_IndexFunc_int_int_l0 N x2 x5 x142 = some o155 := hB156
   unfold F_slices_IndexFunc_int_int_l0 at hB156
   refine CW.at hf <| C_seq <| R_nd <| nq (Q_lss rfl rfl) rfl rfl <| WL_nil <| x_then <| C_seq ?_
   refine C_cond rfl (fun hb => ?_) (fun hb => ?_)
   ·replace hB156 := itT hb hB156
    refine C_skip <| x_then <| C_seq <| C_block <| C_seq <| R_nd <| nq (Q_move rfl) rfl rfl <| nq (Q_assign rfl) rfl rfl <| WL_nil <| x_then <| C_seq <| R_nd <| nq (Q_move rfl) rfl rfl <| nq (Q_move rfl) rfl rfl ?_
    refine nq (Q_move rfl) rfl rfl ?_
    obtain ⟨x159, hx159, hB156⟩ := bnd hB156
    obtain ⟨b160, o161, c162, hc163, ha164, hi165⟩ := idxR r3 hx159
    refine nq (Q_idx hi165 Tryz.underlying23 xty3 rfl rfl) rfl rfl <| nq (v := .int .i64 x159) (Q_ld (show cellsAt _ _ _ [.int .i64 x159] from (show _ = [_] from hc163) ▸ (ha164.up H.ok.view)) xty3 rfl (fun _ => rfl) rfl rfl) rfl rfl ?_
    obtain ⟨q166, hq166, hB156⟩ := bnd hB156
    refine ne (E_callV fnx108 rfl rfl (c_ix108 H g   hq166)) rfl rfl ?_
    rintro _ wd169 ⟨x168, rfl, rfl, H⟩
    try dsimp only at hB156
    refine WL_nil <| x_then ?_
    refine C_cond rfl (fun hb => ?_) (fun hb => ?_)
    ·replace hB156 := itT hb hB156
     refine C_seq <| R_nd <| nq (Q_move rfl) rfl rfl <| nq (Q_assign rfl) rfl rfl <| WL_nil <| x_then <| C_ret <| x_block_ret <| x_then_ret <| x_then_ret <| x_block_ret <| x_then_ret <| x_then_ret ?_
     obtain rfl := Option.some.inj hB156
     obtain rfl := hO157 _ rfl
     obtain rfl := Option.some.inj (show some _ = some _ from hF)
     exact fn_ret (l := [.tmp 4]) (vs := [.int .i64 x142]) rfl rfl rfl ⟨x142, rfl, rfl, H⟩
    ·replace hB156 := itF hb hB156
     refine C_skip <| x_block <| x_then <| R_nd <| nq (Q_add rfl rfl) rfl rfl <| nq (Q_move rfl) rfl rfl <| WL_nil ?_
     obtain rfl := Option.some.inj hB156
     refine x_A fun a hf => ⟨_, rfl, w64 (x142 + 1), rfl, hf.sub ⟨rfl, rfl, rfl, rfl, trivial⟩, H⟩
   ·replace hB156 := itF hb hB156
    refine C_exit <| x_then_exit <| x_then_exit <| x_block_exit ?_
    obtain rfl := Option.some.inj hB156
    obtain rfl := hO157 _ rfl
    refine x_A fun a hf => ⟨rfl, hf.sub trivial, H⟩
 ·rintro a wd170 ⟨rfl, hf, H⟩
  try dsimp only at hF
  refine XX.at hf <| x_then <| C_seq <| R_nd <| nq (Q_assign rfl) rfl rfl <| WL_nil <| x_then <| C_ret ?_
  obtain rfl := Option.some.inj hF
  exact fn_ret (l := [.tmp 4]) (vs := [.int .i64 (-1)]) rfl rfl rfl ⟨(-1), rfl, rfl, H⟩
theorem ixPr (N : Nat) (x n : Int) : F_subset_Right_1 N x n = some (ilt x 0 || ile n x) := by
  rw [ilt_eq, ile_eq]
  unfold F_subset_Right_1
  by_cases h : x < 0 <;> simp [h]
theorem firB_eq (n : Int) : ∀ (l : List Int) (i : Nat), firB n l i = match l.findIdx? (fun x => ilt x 0 || ile n x) with | some j => ((i + j : Nat) : Int) | none => -1
  | [], _ => rfl
  | x :: l, i => by
    have e : firB n (x :: l) i = bif ilt x 0 || ile n x then .ofNat i else firB n l (i + 1) := rfl
    rw [e, firB_eq n l (i + 1), List.findIdx?_cons]
    cases ilt x 0 || ile n x with
    | true => rfl
    | false =>
      simp only [cond_false, Bool.false_eq_true, if_false]
      cases l.findIdx? (fun x => ilt x 0 || ile n x) with
      | none => rfl
      | some j =>
        show ((i + 1 + j : Nat) : Int) = ((i + (j + 1) : Nat) : Int)
        rw [Nat.add_assoc, Nat.add_comm 1 j]
theorem ixPure {xs : List Int} {n : Int} (hl : xs.length ≤ 1048576) : F_slices_IndexFunc_int_int 1048577 xs n = some (firB n xs 0) := by
  unfold F_slices_IndexFunc_int_int
  generalize hM : (1048577 : Nat) = N
  rw [loop_find xs (fun x => ilt x 0 || ile n x) (fun i => (i : Int)) (by omega) (fun i x hx => by
    have hi := (List.getElem?_eq_some_iff.1 hx).1
    unfold F_slices_IndexFunc_int_int_l0
    simp only [show ((i : Int) < (xs.length : Int)) by omega, decide_true, if_true, idx_of hx, ixPr, bind, Option.bind_some]
    rw [w64_succ (by omega)]) (by unfold F_slices_IndexFunc_int_int_l0; simp), firB_eq]
  cases h : xs.findIdx? (fun x => ilt x 0 || ile n x) with
  | none => rfl
  | some k => simp
theorem ixC : IxC Tryz.prog ⟨261, 282, 128, 108⟩ := by
  intro w v xs b o n hr hl hc
  refine (c_ix128 (Hp.start w) hc hr (ixPure hl)).mono fun e w' he => ?_
  obtain ⟨u, rfl, x, rfl, rfl, H⟩ := he
  exact ⟨_, rfl, rfl, H.os, H.tape, H.out, H.size, fun b hb => H.old b hb (by simp)⟩
end Go.Proofs.YtealkahefalaeaaGreatDoor
namespace Go.Proofs.YtealkahefalaeaaGreatDoor
open Go Go.Eng Go.Cr
set_option maxRecDepth 100000
theorem runXx : XOk Tryz.prog ⟨261, 282, 128, 108⟩ := ⟨⟨_, Tryz.func261, by kernel_rfl, by kernel_rfl, by kernel_rfl, by kernel_rfl⟩, ⟨_, Tryz.func282, by kernel_rfl, by kernel_rfl, by kernel_rfl, by kernel_rfl⟩, .inr ⟨fnx128, ixC⟩⟩
theorem runMx : Tryz.prog.follows .mixedOrders = true := by kernel_rfl
end Go.Proofs.YtealkahefalaeaaGreatDoor
namespace Go.Proofs.YtealkahefalaeaaGreatDoor
open Go Go.Eng Go.Cr
set_option maxRecDepth 100000
theorem run99_0 : ok256 md0r md0l md0m (run Tryz.prog ⟨261, 282, 128, 108⟩ 1000 (.f 99 []) [.s [111, 110, 32, 109, 97, 105, 110, 32, 47, 97, 47, 32, 115, 107, 105, 112]] (h0T 18 .u8 tab_math_bits_deBruijn64tab)) = true := by kernel_rfl
theorem runD99_0 : RunD Tryz.prog 99 [.string ⟨#[111, 110, 32, 109, 97, 105, 110, 32, 47, 97, 47, 32, 115, 107, 105, 112]⟩] (fun ρ => GTab ρ 18 .u8 tab_math_bits_deBruijn64tab) (R256 md0r md0l md0m) := runDT runXx runMx run99_0 ⟨_, _, Tryz.func99, by kernel_rfl, rfl⟩ (by decide) (by decide)
end Go.Proofs.YtealkahefalaeaaGreatDoor
namespace Go.Proofs.YtealkahefalaeaaGreatDoor
open Go Go.Eng Go.Cr
set_option maxRecDepth 100000
theorem run99_1 : ok256 md1r md1l md1m (run Tryz.prog ⟨261, 282, 128, 108⟩ 1000 (.f 99 []) [.s [111, 110, 32, 109, 97, 105, 110, 32, 47, 98, 47, 32, 115, 107, 105, 112]] (h0T 18 .u8 tab_math_bits_deBruijn64tab)) = true := by kernel_rfl
theorem runD99_1 : RunD Tryz.prog 99 [.string ⟨#[111, 110, 32, 109, 97, 105, 110, 32, 47, 98, 47, 32, 115, 107, 105, 112]⟩] (fun ρ => GTab ρ 18 .u8 tab_math_bits_deBruijn64tab) (R256 md1r md1l md1m) := runDT runXx runMx run99_1 ⟨_, _, Tryz.func99, by kernel_rfl, rfl⟩ (by decide) (by decide)
end Go.Proofs.YtealkahefalaeaaGreatDoor
namespace Go.Proofs.YtealkahefalaeaaGreatDoor
open Go.RowKit Go.Extern.Stop Go.Stop Go.Extern
set_option maxRecDepth 20000
theorem Is.typeOf (v : Value) (w : World) : (Extern.ReflectliteType.typeOf #[.iface 394 v]).run Tryz.prog w = .ok (.iface 274 (.agg #[.pointer (some ⟨22, 394, none⟩)])) w := by kernel_rfl
def Is.cmp : Array Value → Sem Value := Extern.ReflectliteType.method fun t => do Rtype.noPackHeld "Comparable" t; pure (.bool (← typeInfo t).comparable)
theorem Is.comparable (w : World) : (Is.cmp #[.agg #[.pointer (some ⟨22, 394, none⟩)]]).run Tryz.prog w = .ok (.bool true) w := by kernel_rfl
theorem Is.methodComparable (v : Value) (w : World) : (Go.method 529 274 v "Comparable").run Tryz.prog w = .ok (319, v) w := by kernel_rfl
theorem Is.comp : (Tryz.prog.info? 394).map (·.comparable) = some true := by kernel_rfl
theorem Is.size : (Tryz.prog.info? 417).map (·.size) = some 1 := by kernel_rfl
theorem Is.noIs (v : Value) (xT : TypeId) (w : World) : (Instr.typeAssert (.iface 394 v) xT 276 true).run Tryz.prog w = .ok (.tuple #[.nilIface, .bool false]) w := run_typeAssert_lacksB Tryz.underlying276 (by kernel_rfl) (by kernel_rfl) v xT w
theorem Is.noUnwrap (v : Value) (xT : TypeId) (w : World) : (Instr.typeAssert (.iface 394 v) xT 279 true).run Tryz.prog w = .ok (.tuple #[.nilIface, .bool false]) w := run_typeAssert_lacksB Tryz.underlying279 (by kernel_rfl) (by kernel_rfl) v xT w
theorem Is.noUnwraps (v : Value) (xT : TypeId) (w : World) : (Instr.typeAssert (.iface 394 v) xT 281 true).run Tryz.prog w = .ok (.tuple #[.nilIface, .bool false]) w := run_typeAssert_lacksB Tryz.underlying281 (by kernel_rfl) (by kernel_rfl) v xT w
theorem is_same (a : Addr) (w : World) :
    Calls Tryz.prog 113 #[.iface 394 (.pointer (some a)), .iface 394 (.pointer (some a))] w fun e w' => e = .returned (.bool true) ∧ w' = w := by
  obtain ⟨i, hi, hcmp⟩ := Option.map_eq_some_iff.1 Is.comp
  obtain ⟨j, hj, hjs⟩ := Option.map_eq_some_iff.1 Is.size
  have h8 := @run_callFunc_extern Tryz.prog 141 _ Extern.ReflectliteType.typeOf Tryz.func141 (by kernel_rfl) (by kernel_rfl) (by kernel_rfl) (by kernel_rfl)
  have h32 := @run_callFunc_extern Tryz.prog 319 _ Is.cmp Tryz.func319 (by kernel_rfl) (by kernel_rfl) (by kernel_rfl) (by kernel_rfl)
  have tT := Is.typeOf
  have cT := Is.comparable
  have mR := Is.methodComparable
  have heq := run_eql_iface_ptr_same (P := Tryz.prog) w a Tryz.underlying53 Tryz.underlying394 hi hcmp hj
  go_enter Tryz.func113, Tryz.ntmps113
  go_wp2
  refine wp_loop_rounds 1 ?_
  rw [rounds_succ]
  go_wp2
  go_ret
  exact ⟨rfl, rfl⟩
theorem is_nil (b : Addr) (w : World) :
    Calls Tryz.prog 113 #[.nilIface, .iface 394 (.pointer (some b))] w fun e w' => e = .returned (.bool false) ∧ w' = w := by
  have hn := run_eql_iface_nil_left (P := Tryz.prog) w 394 (.pointer (some b)) Tryz.underlying53
  go_enter Tryz.func113, Tryz.ntmps113
  go_wp2
  go_ret
  exact ⟨rfl, rfl⟩
theorem is_other (a b : Addr) (ca cb : Array Value) (ta tb : TypeId) (w : World) (hne : a ≠ b) (ha : w.heap[a.block]? = some (.cells ca ta (0, 0))) (hb : w.heap[b.block]? = some (.cells cb tb (0, 0))) :
    Calls Tryz.prog 113 #[.iface 394 (.pointer (some a)), .iface 394 (.pointer (some b))] w fun e w' => e = .returned (.bool false) ∧ w' = w := by
  obtain ⟨i, hi, hcmp⟩ := Option.map_eq_some_iff.1 Is.comp
  obtain ⟨j, hj, hjs⟩ := Option.map_eq_some_iff.1 Is.size
  have h8 := @run_callFunc_extern Tryz.prog 141 _ Extern.ReflectliteType.typeOf Tryz.func141 (by kernel_rfl) (by kernel_rfl) (by kernel_rfl) (by kernel_rfl)
  have h32 := @run_callFunc_extern Tryz.prog 319 _ Is.cmp Tryz.func319 (by kernel_rfl) (by kernel_rfl) (by kernel_rfl) (by kernel_rfl)
  have tT := Is.typeOf
  have cT := Is.comparable
  have mR := Is.methodComparable
  have nE := Is.noIs
  have uE := Is.noUnwrap
  have vE := Is.noUnwraps
  have heq := run_eql_iface_ptr_other (P := Tryz.prog) w Tryz.underlying53 Tryz.underlying394 hi hcmp hj (by rw [hjs]; decide) hne ha hb
  go_enter Tryz.func113, Tryz.ntmps113
  go_wp2
  refine wp_loop_rounds 1 ?_
  rw [rounds_succ]
  go_wp2
  go_ret
  exact ⟨rfl, rfl⟩
theorem isC : Go.Eng.IsC Tryz.prog 113 394 := ⟨is_same, is_nil, is_other⟩
end Go.Proofs.YtealkahefalaeaaGreatDoor
namespace Go.Proofs.YtealkahefalaeaaGreatDoor
open Go Go.Eng
theorem lt_len {α : Type} {xs : List α} {i : Nat} {x : α} (h : xs[i]? = some x) : i < xs.length := (List.getElem?_eq_some_iff.1 h).1
theorem right1 (N : Nat) (x n : Int) : F_subset_Right_1 N x n = some (decide (x < 0) || decide (x ≥ n)) := by
  unfold F_subset_Right_1
  by_cases h : x < 0 <;> simp [h]
theorem right2 (N : Nat) (x : Int) : F_subset_Right_2 N x = some (decide (x < -1) || decide (x ≥ 48)) := by
  unfold F_subset_Right_2
  by_cases h : x < -1 <;> simp [h]
theorem contains1 {N : Nat} {xs : List Int} {n : Int} (hN : 4294967296 ≤ N) (hl : xs.length < 4294967296) : F_slices_ContainsFunc_int_int N xs n = some (xs.any fun x => decide (x < 0) || decide (x ≥ n)) := by
  unfold F_slices_ContainsFunc_int_int F_slices_IndexFunc_int_int
  rw [loop_find xs (fun x => decide (x < 0) || decide (x ≥ n)) (fun i => (i : Int)) (by omega) (fun i x hx => by
    have hi := lt_len hx
    unfold F_slices_IndexFunc_int_int_l0
    simp only [show ((i : Int) < (xs.length : Int)) by omega, decide_true, if_true, idx_of hx, right1, bind, Option.bind_some]
    rw [w64_succ (by omega)]) (by unfold F_slices_IndexFunc_int_int_l0; simp)]
  cases h : xs.findIdx? _ with
  | none =>
    have : xs.any (fun x => decide (x < 0) || decide (x ≥ n)) = false := List.any_eq_false.2 fun x hx => by rw [List.findIdx?_eq_none_iff.1 h x hx]; simp
    simp [this]
  | some k =>
    obtain ⟨hk, hp, _⟩ := List.findIdx?_eq_some_iff_getElem.1 h
    have : xs.any (fun x => decide (x < 0) || decide (x ≥ n)) = true := List.any_eq_true.2 ⟨_, List.getElem_mem hk, hp⟩
    rw [this]
    simp
theorem contains2 {N : Nat} {xs : List Int} (hN : 4294967296 ≤ N) (hl : xs.length < 4294967296) : F_slices_ContainsFunc_int_int_1 N xs = some (xs.any fun x => decide (x < -1) || decide (x ≥ 48)) := by
  unfold F_slices_ContainsFunc_int_int_1 F_slices_IndexFunc_int_int_1
  rw [loop_find xs (fun x => decide (x < -1) || decide (x ≥ 48)) (fun i => (i : Int)) (by omega) (fun i x hx => by
    have hi := lt_len hx
    unfold F_slices_IndexFunc_int_int_1_l0
    simp only [show ((i : Int) < (xs.length : Int)) by omega, decide_true, if_true, idx_of hx, right2, bind, Option.bind_some]
    rw [w64_succ (by omega)]) (by unfold F_slices_IndexFunc_int_int_1_l0; simp)]
  cases h : xs.findIdx? _ with
  | none =>
    have : xs.any (fun x => decide (x < -1) || decide (x ≥ 48)) = false := List.any_eq_false.2 fun x hx => by rw [List.findIdx?_eq_none_iff.1 h x hx]; simp
    simp [this]
  | some k =>
    obtain ⟨hk, hp, _⟩ := List.findIdx?_eq_some_iff_getElem.1 h
    have : xs.any (fun x => decide (x < -1) || decide (x ≥ 48)) = true := List.any_eq_true.2 ⟨_, List.getElem_mem hk, hp⟩
    rw [this]
    simp
/-- what a DFA must be -/
structure Rt (rows : List (List Int)) (rule entry : List Int) : Prop where
  n1 : 1 ≤ rows.length
  n2 : rows.length ≤ 200
  ru : rule.length = rows.length
  e1 : 1 ≤ entry.length
  e2 : entry.length ≤ 8
  row : ∀ r ∈ rows, ∀ x ∈ r, 0 ≤ x ∧ x < rows.length
  rul : ∀ x ∈ rule, -1 ≤ x ∧ x < 48
  ent : ∀ x ∈ entry, 0 ≤ x ∧ x < rows.length
  r0 : rows[0]? = some (List.replicate 256 0)
  u0 : rule[0]? = some (-1)
/-- rows of 256, lists of a length that memory bears -/
structure Sz (rows : List (List Int)) (rule entry : List Int) : Prop where
  w : ∀ r ∈ rows, r.length = 256
  a : rows.length < 4294967296
  b : rule.length < 4294967296
  c : entry.length < 4294967296
theorem right_spec {N : Nat} {rows : List (List Int)} {rule entry : List Int} (hN : 4294967296 ≤ N) (hs : Sz rows rule entry) : ∃ b, F_subset_Right N rows rule entry = some b ∧ (b = true ↔ Rt rows rule entry) := by
  unfold F_subset_Right
  generalize hz : List.replicate 256 (0 : Int) = z
  by_cases a1 : (rows.length : Int) < 1
  · exact ⟨false, by simp [a1], by simp; intro h; have := h.n1; omega⟩
  by_cases a2 : (rows.length : Int) > 200
  · exact ⟨false, by simp [a1, a2], by simp; intro h; have := h.n2; omega⟩
  by_cases a3 : rule.length = rows.length
  case neg =>
    have e0 : ((rule.length : Int) != (rows.length : Int)) = true := by simp; omega
    exact ⟨false, by simp [a1, a2, e0], by simp; intro h; exact a3 h.ru⟩
  by_cases a4 : (entry.length : Int) < 1
  · exact ⟨false, by simp [a1, a2, a3, a4], by simp; intro h; have := h.e1; omega⟩
  by_cases a5 : (entry.length : Int) > 8
  · exact ⟨false, by simp [a1, a2, a3, a4, a5], by simp; intro h; have := h.e2; omega⟩
  have e0 : ((rule.length : Int) != (rows.length : Int)) = false := by simp [a3]
  simp only [decide_eq_false a1, decide_eq_false a2, e0, decide_eq_false a4, decide_eq_false a5, bind, Option.bind_some, Bool.false_eq_true, if_false]
  rw [loop_any rows (fun r => r.any fun x => decide (x < 0) || decide (x ≥ (rows.length : Int))) false (by have := hs.a; omega) (fun i r hr => by
    have hi := lt_len hr
    have hw := hs.w r (List.mem_of_getElem? hr)
    unfold F_subset_Right_l0
    simp only [show ((i : Int) < (rows.length : Int)) by omega, decide_true, if_true, idx_of hr, contains1 hN (show r.length < 4294967296 by omega), bind, Option.bind_some]
    rw [w64_succ (by have := hs.a; omega)]) (by unfold F_subset_Right_l0; simp)]
  by_cases c1 : (rows.any fun r => r.any fun x => decide (x < 0) || decide (x ≥ (rows.length : Int))) = true
  · refine ⟨false, by simp [c1], ?_⟩
    simp
    intro h
    obtain ⟨r, hr, hx⟩ := List.any_eq_true.1 c1
    obtain ⟨x, hx, hp⟩ := List.any_eq_true.1 hx
    have := h.row r hr x hx
    simp at hp; omega
  rw [if_neg c1]
  simp only [contains2 hN hs.b, contains1 hN hs.c, Option.bind_some]
  by_cases c2 : (rule.any fun x => decide (x < -1) || decide (x ≥ 48)) = true
  · refine ⟨false, by simp [c2], ?_⟩
    simp
    intro h
    obtain ⟨x, hx, hp⟩ := List.any_eq_true.1 c2
    have := h.rul x hx
    simp at hp; omega
  by_cases c3 : (entry.any fun x => decide (x < 0) || decide (x ≥ (rows.length : Int))) = true
  · refine ⟨false, by simp [c2, c3], ?_⟩
    simp
    intro h
    obtain ⟨x, hx, hp⟩ := List.any_eq_true.1 c3
    have := h.ent x hx
    simp at hp; omega
  have hr0 : 0 < rows.length := by omega
  have hu0 : 0 < rule.length := by omega
  simp only [if_neg c2, Option.bind_some, if_neg c3]
  have i0 : idx rows 0 = some rows[0] := idx_nat (i := 0) hr0
  have i1 : idx rule 0 = some rule[0] := idx_nat (i := 0) hu0
  rw [i0, i1]
  have c1' : ∀ r ∈ rows, ∀ x ∈ r, 0 ≤ x ∧ x < (rows.length : Int) := by
    intro r hr x hx
    have h1 : (rows.any fun r => r.any fun x => decide (x < 0) || decide (x ≥ (rows.length : Int))) = false := by simpa using c1
    have h2 := List.any_eq_false.1 h1 r hr
    have h3 := List.any_eq_false.1 (by simpa using h2 : (r.any fun x => decide (x < 0) || decide (x ≥ (rows.length : Int))) = false) x hx
    simp at h3; omega
  have c2' : ∀ x ∈ rule, -1 ≤ x ∧ x < 48 := by
    intro x hx
    have h3 := List.any_eq_false.1 (by simpa using c2 : (rule.any fun x => decide (x < -1) || decide (x ≥ 48)) = false) x hx
    simp at h3; omega
  have c3' : ∀ x ∈ entry, 0 ≤ x ∧ x < (rows.length : Int) := by
    intro x hx
    have h3 := List.any_eq_false.1 (by simpa using c3 : (entry.any fun x => decide (x < 0) || decide (x ≥ (rows.length : Int))) = false) x hx
    simp at h3; omega
  by_cases d1 : rows[0] = z
  · by_cases d2 : rule[0] = -1
    · refine ⟨true, by simp [d1, d2], ?_⟩
      simp
      exact ⟨by omega, by omega, a3, by omega, by omega, c1', c2', c3', by rw [List.getElem?_eq_getElem hr0, d1, hz], by rw [List.getElem?_eq_getElem hu0, d2]⟩
    · refine ⟨false, by simp [d1, d2], ?_⟩
      simp
      intro h
      have := h.u0
      rw [List.getElem?_eq_getElem hu0] at this
      exact d2 (Option.some.inj this)
  · refine ⟨false, by simp [d1], ?_⟩
    simp
    intro h
    have := h.r0
    rw [List.getElem?_eq_getElem hr0, hz] at this
    exact d1 (Option.some.inj this)
end Go.Proofs.YtealkahefalaeaaGreatDoor
namespace Go.Proofs.YtealkahefalaeaaGreatDoor
open Go Go.Eng
theorem range_get {n i x : Nat} (h : (List.range n)[i]? = some x) : i < n ∧ x = i := by
  have hl := lt_len h
  simp at hl
  rw [List.getElem?_range hl] at h
  exact ⟨hl, (Option.some.inj h).symm⟩
/-- what the document asks of row i -/
def badRow (rows : List (List Int)) (rule : List Int) (i : Nat) : Bool :=
  (decide (rule.getD i 0 < -1) || decide (rule.getD i 0 > 47)) || (rows.getD i []).any fun x => decide (x < 0) || decide (x ≥ (rows.length : Int)) || (i == 0 && x != 0)
theorem ref_row {N : Nat} {rows : List (List Int)} {rule : List Int} (hN : 4294967296 ≤ N) (h2 : rows.length ≤ 200) (hw : ∀ r ∈ rows, r.length = 256) (hu : rule.length = rows.length) :
    iterO N (fun s => F_dofferref17_Right_l0 N rows rule s) 0 = some (if (List.range rows.length).any (badRow rows rule) then .inr false else .inl ()) := by
  refine loop_any (List.range rows.length) (badRow rows rule) false (by simp; omega) (fun i x hx => ?_) (by simp [F_dofferref17_Right_l0])
  obtain ⟨hi, rfl⟩ := range_get hx
  have hr : rows[x]? = some rows[x] := List.getElem?_eq_getElem hi
  have hui : x < rule.length := by omega
  have hu : rule[x]? = some rule[x] := List.getElem?_eq_getElem hui
  have hlen := hw rows[x] (List.getElem_mem hi)
  have g1 : rule.getD x 0 = rule[x] := by simp [List.getD, hu]
  have g2 : rows.getD x [] = rows[x] := by simp [List.getD, hr]
  unfold F_dofferref17_Right_l0 badRow
  rw [g1, g2]
  simp only [show ((x : Int) < (rows.length : Int)) by omega, decide_true, if_true, idx_of hr, idx_of hu, bind, Option.bind_some]
  by_cases b1 : rule[x] < -1
  · simp [b1]
  by_cases b2 : rule[x] > 47
  · simp [b1, b2]
  simp only [decide_eq_false b1, decide_eq_false b2, Bool.false_eq_true, if_false, Option.bind_some, Bool.or_false, Bool.false_or]
  rw [loop_any (rows[x]) (fun y => decide (y < 0) || decide (y ≥ (rows.length : Int)) || (x == 0 && y != 0)) (τ := Int ⊕ (Unit ⊕ Bool)) (.inr (.inr false)) (by omega) (fun j y hy => by
    have hj := lt_len hy
    unfold F_dofferref17_Right_l1
    simp only [show ((j : Int) < 256) by omega, decide_true, if_true, idx_of hy, bind, Option.bind_some]
    by_cases c1 : y < 0
    · simp [c1]
    by_cases c2 : y ≥ (rows.length : Int)
    · simp [c1, c2]
    simp only [decide_eq_false c1, decide_eq_false c2, Bool.false_eq_true, if_false, Bool.or_false, Bool.false_or]
    rw [w64_succ (by omega)]
    by_cases c3 : x = 0
    · subst c3; by_cases c4 : y = 0 <;> simp [c4]
    · have : ¬ ((x : Int) = 0) := by omega
      simp [c3]) (by unfold F_dofferref17_Right_l1; simp [hlen])]
  rw [w64_succ (by omega)]
  by_cases d : (rows[x].any fun y => decide (y < 0) || decide (y ≥ (rows.length : Int)) || (x == 0 && y != 0)) = true
  · simp [d]
  · simp [d]
theorem refRight_spec {N : Nat} {rows : List (List Int)} {rule entry : List Int} (hN : 4294967296 ≤ N) (hs : Sz rows rule entry) : ∃ b, F_dofferref17_Right N rows rule entry = some b ∧ (b = true ↔ Rt rows rule entry) := by
  unfold F_dofferref17_Right
  by_cases a1 : (rows.length : Int) < 1
  · exact ⟨false, by simp [a1], by simp; intro h; have := h.n1; omega⟩
  by_cases a2 : (rows.length : Int) > 200
  · exact ⟨false, by simp [a1, a2], by simp; intro h; have := h.n2; omega⟩
  by_cases a3 : rule.length = rows.length
  case neg =>
    have e0 : ((rule.length : Int) != (rows.length : Int)) = true := by simp; omega
    exact ⟨false, by simp [a1, a2, e0], by simp; intro h; exact a3 h.ru⟩
  by_cases a4 : (entry.length : Int) < 1
  · exact ⟨false, by simp [a1, a2, a3, a4], by simp; intro h; have := h.e1; omega⟩
  by_cases a5 : (entry.length : Int) > 8
  · exact ⟨false, by simp [a1, a2, a3, a4, a5], by simp; intro h; have := h.e2; omega⟩
  have e0 : ((rule.length : Int) != (rows.length : Int)) = false := by simp [a3]
  simp only [decide_eq_false a1, decide_eq_false a2, e0, decide_eq_false a4, decide_eq_false a5, bind, Option.bind_some, Bool.false_eq_true, if_false]
  rw [ref_row hN (by omega) hs.w a3]
  have hr0 : 0 < rows.length := by omega
  have hu0 : 0 < rule.length := by omega
  by_cases c1 : ((List.range rows.length).any (badRow rows rule)) = true
  · refine ⟨false, by simp [c1], ?_⟩
    simp only [Bool.false_eq_true, false_iff]
    intro h
    obtain ⟨i, hi, hp⟩ := List.any_eq_true.1 c1
    have hi : i < rows.length := by simpa using hi
    have hui : i < rule.length := by omega
    unfold badRow at hp
    have g1 : rule.getD i 0 = rule[i] := by simp [List.getD, List.getElem?_eq_getElem hui]
    have g2 : rows.getD i [] = rows[i] := by simp [List.getD, List.getElem?_eq_getElem hi]
    rw [g1, g2] at hp
    have h1 := h.rul _ (List.getElem_mem hui)
    rcases Bool.or_eq_true_iff.1 hp with hp | hp
    · simp at hp; omega
    · obtain ⟨x, hx, hp⟩ := List.any_eq_true.1 hp
      have h2 := h.row _ (List.getElem_mem hi) x hx
      simp at hp
      rcases hp with hp | ⟨rfl, h4⟩
      · omega
      · have h3 := h.r0
        rw [List.getElem?_eq_getElem hr0] at h3
        rw [Option.some.inj h3] at hx
        exact h4 (List.eq_of_mem_replicate hx)
  rw [if_neg c1]
  simp only [Option.bind_some]
  rw [loop_any entry (fun x => decide (x < 0) || decide (x ≥ (rows.length : Int))) false (by have := hs.c; omega) (fun i x hx => by
    have hi := lt_len hx
    unfold F_dofferref17_Right_l2
    simp only [show ((i : Int) < (entry.length : Int)) by omega, decide_true, if_true, idx_of hx, bind, Option.bind_some]
    rw [w64_succ (by omega)]
    by_cases c1 : x < 0 <;> simp [c1]) (by unfold F_dofferref17_Right_l2; simp)]
  have c1' : ∀ i, (hi : i < rows.length) → (-1 ≤ rule[i]'(by omega) ∧ rule[i]'(by omega) < 48) ∧ ∀ x ∈ rows[i], 0 ≤ x ∧ x < (rows.length : Int) ∧ (i = 0 → x = 0) := by
    intro i hi
    have hui : i < rule.length := by omega
    have h1 : ((List.range rows.length).any (badRow rows rule)) = false := by simpa using c1
    have hp := List.any_eq_false.1 h1 i (by simpa using hi)
    unfold badRow at hp
    have g1 : rule.getD i 0 = rule[i] := by simp [List.getD, List.getElem?_eq_getElem hui]
    have g2 : rows.getD i [] = rows[i] := by simp [List.getD, List.getElem?_eq_getElem hi]
    rw [g1, g2, Bool.not_eq_true, Bool.or_eq_false_iff] at hp
    obtain ⟨hp1, hp2⟩ := hp
    refine ⟨by simp at hp1; omega, fun x hx => ?_⟩
    have := List.any_eq_false.1 hp2 x hx
    simp at this
    exact ⟨by omega, by omega, this.2⟩
  by_cases c3 : (entry.any fun x => decide (x < 0) || decide (x ≥ (rows.length : Int))) = true
  · refine ⟨false, by simp [c3], ?_⟩
    simp
    intro h
    obtain ⟨x, hx, hp⟩ := List.any_eq_true.1 c3
    have := h.ent x hx
    simp at hp; omega
  have c3' : ∀ x ∈ entry, 0 ≤ x ∧ x < (rows.length : Int) := by
    intro x hx
    have h3 := List.any_eq_false.1 (by simpa using c3 : (entry.any fun x => decide (x < 0) || decide (x ≥ (rows.length : Int))) = false) x hx
    simp at h3; omega
  rw [if_neg c3]
  have i1 : idx rule 0 = some rule[0] := idx_nat (i := 0) hu0
  simp only [i1, Option.bind_some]
  by_cases d2 : rule[0] = -1
  · refine ⟨true, by simp [d2], ?_⟩
    simp only [true_iff]
    refine ⟨by omega, by omega, a3, by omega, by omega, ?_, ?_, c3', ?_, by rw [List.getElem?_eq_getElem hu0, d2]⟩
    · intro r hr x hx
      obtain ⟨i, hi, rfl⟩ := List.mem_iff_getElem.1 hr
      have := (c1' i hi).2 x hx
      exact ⟨this.1, this.2.1⟩
    · intro x hx
      obtain ⟨i, hi, rfl⟩ := List.mem_iff_getElem.1 hx
      exact (c1' i (by omega)).1
    · rw [List.getElem?_eq_getElem hr0]
      congr 1
      exact List.eq_replicate_iff.2 ⟨hs.w _ (List.getElem_mem hr0), fun x hx => ((c1' 0 hr0).2 x hx).2.2 rfl⟩
  · refine ⟨false, by simp [d2], ?_⟩
    simp
    intro h
    have := h.u0
    rw [List.getElem?_eq_getElem hu0] at this
    exact d2 (Option.some.inj this)
/-- the copy -/
theorem of_spec {N : Nat} {rows : List (List Int)} {rule entry : List Int} {m : Int} (hN : 4294967296 ≤ N) (hs : Sz rows rule entry) :
    F_dofferlaw17_Of N rows rule entry m = some (if (rows.length : Int) > m ∨ (rule.length : Int) > m ∨ (entry.length : Int) > 20 then ([], false) else (rows, true)) := by
  unfold F_dofferlaw17_Of
  by_cases a1 : (rows.length : Int) > m
  · simp [a1]
  by_cases a2 : (rule.length : Int) > m
  · simp [a1, a2]
  by_cases a3 : (entry.length : Int) > 20
  · simp [a1, a2, a3]
  simp only [bind, if_false, a1, a2, a3, or_self]
  have := loop_fold (f := fun s => F_dofferlaw17_Of_l0 N rows s.1 s.2) (fun i (s : List (List Int)) => ((i : Int), s)) id rows (fun s x => s ++ [x]) (fun i s => s.length = i) (N := N) (s := []) (by have := hs.a; omega) rfl
    (fun i x s hx hI => ⟨by
      have hi := lt_len hx
      have := hs.a
      unfold F_dofferlaw17_Of_l0
      simp only [show ((i : Int) < (rows.length : Int)) by omega, decide_true, if_true, idx_of hx, bind, Option.bind_some]
      rw [w64_succ (by omega), app_eq (by simp; omega)]
      rfl, by simp [hI]⟩) (fun s _ => by unfold F_dofferlaw17_Of_l0; simp)
  rw [show iterO N (fun s => F_dofferlaw17_Of_l0 N rows s.1 s.2) (0, []) = _ from this]
  have hf : ∀ (l acc : List (List Int)), l.foldl (fun s x => s ++ [x]) acc = acc ++ l := by
    intro l
    induction l with
    | nil => simp
    | cons x l ih => intro acc; rw [List.foldl_cons, ih]; simp
  rw [hf]
  simp
theorem sameInts_spec {N : Nat} {a b : List Int} (hN : 4294967296 ≤ N) (ha : a.length < 4294967296) : F_doffernum_SameInts N a b = some (decide (a = b)) := by
  unfold F_doffernum_SameInts
  by_cases h : a.length = b.length
  case neg =>
    have : ((a.length : Int) != (b.length : Int)) = true := by simp; omega
    have hne : a ≠ b := fun e => h (by rw [e])
    simp [this, hne]
  have e0 : ((a.length : Int) != (b.length : Int)) = false := by simp [h]
  simp only [e0, Bool.false_eq_true, if_false]
  rw [loop_any (List.range a.length) (fun i => a.getD i 0 != b.getD i 0) false (by simp; omega) (fun i x hx => by
    obtain ⟨hi, rfl⟩ := range_get hx
    have hib : x < b.length := by omega
    unfold F_doffernum_SameInts_l0
    have g1 : a.getD x 0 = a[x] := by simp [List.getD, List.getElem?_eq_getElem hi]
    have g2 : b.getD x 0 = b[x] := by simp [List.getD, List.getElem?_eq_getElem hib]
    rw [g1, g2]
    simp only [show ((x : Int) < (a.length : Int)) by omega, decide_true, if_true, idx_nat hi, idx_nat hib, bind, Option.bind_some]
    rw [w64_succ (by omega)]) (by simp [F_doffernum_SameInts_l0])]
  by_cases c : ((List.range a.length).any fun i => a.getD i 0 != b.getD i 0) = true
  · have : a ≠ b := by
      obtain ⟨i, _, hp⟩ := List.any_eq_true.1 c
      intro e
      simp [e] at hp
    rw [if_pos c]
    simp [this]
  · have : a = b := by
      apply List.ext_getElem h
      intro i h1 h2
      have h3 := List.any_eq_false.1 (by simpa using c : ((List.range a.length).any fun i => a.getD i 0 != b.getD i 0) = false) i (by simpa using h1)
      have g1 : a.getD i 0 = a[i] := by simp [List.getD, List.getElem?_eq_getElem h1]
      have g2 : b.getD i 0 = b[i] := by simp [List.getD, List.getElem?_eq_getElem h2]
      rw [g1, g2] at h3
      simpa using h3
    rw [if_neg c]
    simp [this]
theorem same_spec {N : Nat} {rows rows' : List (List Int)} {rule entry rule' entry' : List Int} (hN : 4294967296 ≤ N) (hs : Sz rows rule entry) :
    F_dofferref17_Same N rows rule entry rows' rule' entry' = some (decide (rows = rows' ∧ rule = rule' ∧ entry = entry')) := by
  unfold F_dofferref17_Same
  by_cases h : rows.length = rows'.length
  case neg =>
    have : ((rows.length : Int) != (rows'.length : Int)) = true := by simp; omega
    have hne : rows ≠ rows' := fun e => h (by rw [e])
    simp [this, hne]
  have e0 : ((rows.length : Int) != (rows'.length : Int)) = false := by simp [h]
  simp only [e0, Bool.false_eq_true, if_false, sameInts_spec hN hs.b, sameInts_spec hN hs.c, bind, Option.bind_some]
  by_cases h1 : rule = rule'
  case neg => simp [h1]
  by_cases h2 : entry = entry'
  case neg => simp [h1, h2]
  simp only [h1, h2, decide_true, Bool.not_true, Bool.false_eq_true, if_false, Option.bind_some, and_true]
  have ha := hs.a
  rw [loop_any (List.range rows.length) (fun i => rows.getD i [] != rows'.getD i []) false (by simp; omega) (fun i x hx => by
    obtain ⟨hi, rfl⟩ := range_get hx
    have hib : x < rows'.length := by omega
    unfold F_dofferref17_Same_l0
    have g1 : rows.getD x [] = rows[x] := by simp [List.getD, List.getElem?_eq_getElem hi]
    have g2 : rows'.getD x [] = rows'[x] := by simp [List.getD, List.getElem?_eq_getElem hib]
    rw [g1, g2]
    simp only [show ((x : Int) < (rows.length : Int)) by omega, decide_true, if_true, idx_nat hi, idx_nat hib, bind, Option.bind_some]
    rw [w64_succ (by omega)]) (by simp [F_dofferref17_Same_l0])]
  by_cases c : ((List.range rows.length).any fun i => rows.getD i [] != rows'.getD i []) = true
  · have : rows ≠ rows' := by
      obtain ⟨i, _, hp⟩ := List.any_eq_true.1 c
      intro e
      simp [e] at hp
    rw [if_pos c]
    simp [this]
  · have : rows = rows' := by
      apply List.ext_getElem h
      intro i h1 h2
      have h3 := List.any_eq_false.1 (by simpa using c : ((List.range rows.length).any fun i => rows.getD i [] != rows'.getD i []) = false) i (by simpa using h1)
      have g1 : rows.getD i [] = rows[i] := by simp [List.getD, List.getElem?_eq_getElem h1]
      have g2 : rows'.getD i [] = rows'[i] := by simp [List.getD, List.getElem?_eq_getElem h2]
      rw [g1, g2] at h3
      simpa using h3
    rw [if_neg c]
    simp [this]
end Go.Proofs.YtealkahefalaeaaGreatDoor
namespace Go.Proofs.YtealkahefalaeaaGreatDoor
open Go Go.Eng
set_option maxRecDepth 100000
/-- bytes -/
def Byt (text : List Int) : Prop := ∀ c ∈ text, 0 ≤ c ∧ c < 256
/-- a text as a number: the shorter is less, of the same length the least -/
def key (t : List Int) : Nat := t.foldl (fun a c => a * 257 + (c.toNat + 1)) 0
theorem key_snoc (t : List Int) (c : Int) : key (t ++ [c]) = key t * 257 + (c.toNat + 1) := by simp [key]
theorem snoc_of {t : List Int} (h : t ≠ []) : ∃ u c, t = u ++ [c] := ⟨t.dropLast, t.getLast h, (List.dropLast_concat_getLast h).symm⟩
theorem key_nil : key [] = 0 := rfl
theorem Byt.app {t : List Int} {c : Int} : Byt (t ++ [c]) ↔ Byt t ∧ 0 ≤ c ∧ c < 256 := by
  constructor
  · exact fun h => ⟨fun x hx => h x (by simp [hx]), h c (by simp)⟩
  · rintro ⟨h1, h2⟩ x hx
    rcases List.mem_append.1 hx with hx | hx
    · exact h1 x hx
    · simp at hx; subst hx; exact h2
theorem snoc_ind {P : List Int → Prop} (h0 : P []) (h1 : ∀ t c, P t → P (t ++ [c])) : ∀ (n : Nat) (t : List Int), t.length = n → P t
  | 0, t, h => by
    obtain rfl := List.length_eq_zero_iff.1 h
    exact h0
  | n + 1, t, h => by
    obtain ⟨u, c, rfl⟩ := snoc_of (t := t) (fun e => by subst e; simp at h)
    exact h1 u c (snoc_ind h0 h1 n u (by simpa using h))
theorem key_bound {t : List Int} : Byt t → key t < 257 ^ t.length ∧ (1 ≤ t.length → 257 ^ (t.length - 1) ≤ key t) := by
  refine snoc_ind (P := fun t => Byt t → key t < 257 ^ t.length ∧ (1 ≤ t.length → 257 ^ (t.length - 1) ≤ key t)) (fun _ => ⟨by simp [key], by simp⟩) (fun t c ih hb => ?_) _ t rfl
  obtain ⟨hb1, hc⟩ := Byt.app.1 hb
  obtain ⟨i1, i2⟩ := ih hb1
  have e1 : (257 : Nat) ^ (t.length + 1) = 257 ^ t.length * 257 := Nat.pow_succ ..
  rw [key_snoc, List.length_append, List.length_singleton]
  refine ⟨by omega, fun _ => ?_⟩
  rw [Nat.add_sub_cancel]
  by_cases hl : 1 ≤ t.length
  · have := i2 hl
    have e2 : (257 : Nat) ^ t.length = 257 ^ (t.length - 1) * 257 := by
      rw [← Nat.pow_succ]; congr 1; omega
    omega
  · have : t.length = 0 := by omega
    rw [this, Nat.pow_zero]
    omega
theorem key_inj : ∀ {t u : List Int}, Byt t → Byt u → key t = key u → t = u := by
  intro t
  refine snoc_ind (P := fun t => ∀ {u : List Int}, Byt t → Byt u → key t = key u → t = u) (fun {u} _ hu hk => ?_) (fun t c ih {u} ht hu hk => ?_) _ t rfl
  · by_cases hn : u = []
    · exact hn.symm
    · obtain ⟨v, d, rfl⟩ := snoc_of hn
      rw [key_snoc, key_nil] at hk
      omega
  · by_cases hn : u = []
    · subst hn
      rw [key_snoc, key_nil] at hk
      omega
    · obtain ⟨v, d, rfl⟩ := snoc_of hn
      obtain ⟨ht1, hc⟩ := Byt.app.1 ht
      obtain ⟨hu1, hd⟩ := Byt.app.1 hu
      rw [key_snoc, key_snoc] at hk
      have e1 : key t = key v := by omega
      have e2 : c = d := by omega
      rw [ih ht1 hu1 e1, e2]
theorem least {P : Nat → Prop} : ∀ {n : Nat}, P n → ∃ k, k ≤ n ∧ P k ∧ ∀ j, j < k → ¬ P j := by
  intro n
  induction n using Nat.strongRecOn with
  | ind n ih =>
    intro h
    by_cases hc : ∃ j, j < n ∧ P j
    · obtain ⟨j, h1, h2⟩ := hc
      obtain ⟨k, k1, k2, k3⟩ := ih j h1 h2
      exact ⟨k, by omega, k2, k3⟩
    · exact ⟨n, Nat.le_refl _, h, fun j hj hp => hc ⟨j, hj, hp⟩⟩
section
variable {σ : Type} {nx : σ → Int → σ} {G Triv : σ → Prop} {s0 : σ}
def LG (nx : σ → Int → σ) (G : σ → Prop) (s : σ) (t : List Int) : Prop := Byt t ∧ G (t.foldl nx s)
def BestG (nx : σ → Int → σ) (G : σ → Prop) (s : σ) (g : List Int) : Prop := LG nx G s g ∧ ∀ u, LG nx G s u → key g ≤ key u
theorem BestG.uniq {s : σ} {a b : List Int} (h : BestG nx G s a) (h' : BestG nx G s b) : a = b := key_inj h.1.1 h'.1.1 (Nat.le_antisymm (h.2 _ h'.1) (h'.2 _ h.1))
/-- a trivial state leads to trivial ones, none of which is looked for -/
structure TrivOk (nx : σ → Int → σ) (G Triv : σ → Prop) : Prop where
  step : ∀ s c, Triv s → Triv (nx s c)
  none : ∀ s, Triv s → ¬ G s
def Closed (nx : σ → Int → σ) (G Triv : σ → Prop) (S : List σ) (s : σ) : Prop := ¬ G s ∧ ∀ c : Int, 0 ≤ c → c < 256 → nx s c ∈ S ∨ Triv (nx s c)
structure BInv (nx : σ → Int → σ) (G Triv : σ → Prop) (Dm : σ → Prop) (s0 : σ) (S : List σ) (Q : List (σ × List Int)) : Prop where
  a : s0 ∈ S
  nd : S.Nodup
  rng : ∀ s ∈ S, Dm s
  qs : ∀ p ∈ Q, p.1 ∈ S
  byt : ∀ p ∈ Q, Byt p.2 ∧ p.2.foldl nx s0 = p.1 ∧ ∀ u, Byt u → u.foldl nx s0 = p.1 → key p.2 ≤ key u
  len : ∀ p ∈ Q, p.2.length < S.length
  ql : Q.length ≤ S.length
  cl : ∀ s ∈ S, (∃ t, (s, t) ∈ Q) ∨ Closed nx G Triv S s
  srt : (Q.map (fun p => key p.2)).Pairwise (· < ·)
  bnd : ∀ p, Q.head? = some p → ∀ q ∈ Q, key q.2 ≤ key p.2 * 257
/-- amid the children of (s, t) -/
structure BMid (nx : σ → Int → σ) (G Triv : σ → Prop) (Dm : σ → Prop) (s0 s : σ) (t : List Int) (c : Nat) (S : List σ) (Q : List (σ × List Int)) : Prop where
  a : s0 ∈ S
  nd : S.Nodup
  rng : ∀ s ∈ S, Dm s
  qs : ∀ p ∈ Q, p.1 ∈ S
  byt : ∀ p ∈ Q, Byt p.2 ∧ p.2.foldl nx s0 = p.1 ∧ ∀ u, Byt u → u.foldl nx s0 = p.1 → key p.2 ≤ key u
  len : ∀ p ∈ Q, p.2.length < S.length
  ql : Q.length + 1 ≤ S.length
  cl : ∀ z ∈ S, z = s ∨ (∃ t, (z, t) ∈ Q) ∨ Closed nx G Triv S z
  srt : (Q.map (fun p => key p.2)).Pairwise (· < ·)
  bnd : ∀ q ∈ Q, key t < key q.2 ∧ key q.2 ≤ key t * 257 + c
  tb : Byt t ∧ t.foldl nx s0 = s ∧ t.length < S.length ∧ s ∈ S
  ch : ∀ d : Nat, d < c → nx s d ∈ S ∨ Triv (nx s d)
  sm : ∀ v, Byt v → key v < key t → Closed nx G Triv S (v.foldl nx s0) ∨ Triv (v.foldl nx s0)
theorem Closed.mono {S S' : List σ} {s : σ} (h : Closed nx G Triv S s) (hS : ∀ x ∈ S, x ∈ S') : Closed nx G Triv S' s := ⟨h.1, fun c h0 h1 => (h.2 c h0 h1).imp (hS _) id⟩
/-- what is less than all that waits is done -/
theorem BInv.sm {Dm : σ → Prop} {S : List σ} {Q : List (σ × List Int)} (hT : TrivOk nx G Triv) (h : BInv nx G Triv Dm s0 S Q) :
    ∀ v, Byt v → (∀ p ∈ Q, key v < key p.2) → Closed nx G Triv S (v.foldl nx s0) ∨ Triv (v.foldl nx s0) := by
  intro v
  refine snoc_ind (P := fun v => Byt v → (∀ p ∈ Q, key v < key p.2) → Closed nx G Triv S (v.foldl nx s0) ∨ Triv (v.foldl nx s0)) (fun _ hk => ?_) (fun w d ih hb hk => ?_) _ v rfl
  · rcases h.cl s0 h.a with ⟨t, ht⟩ | hc
    · have := hk _ ht
      have h2 := (h.byt _ ht).2.2 [] (fun x hx => by simp at hx) rfl
      omega
    · exact .inl hc
  · obtain ⟨hb1, hd⟩ := Byt.app.1 hb
    rw [key_snoc] at hk
    have e : (w ++ [d]).foldl nx s0 = nx (w.foldl nx s0) d := by rw [List.foldl_append]; rfl
    rcases ih hb1 (fun p hp => by have := hk p hp; omega) with hc | ht
    · rw [e]
      rcases hc.2 d hd.1 hd.2 with hm | ht
      · rcases h.cl _ hm with ⟨t, ht⟩ | hc'
        · have h1 := hk _ ht
          have h2 := (h.byt _ ht).2.2 (w ++ [d]) hb e
          rw [key_snoc] at h2
          omega
        · exact .inl hc'
      · exact .inr ht
    · rw [e]
      exact .inr (hT.step _ _ ht)
theorem BInv.least {Dm : σ → Prop} {S : List σ} {p : σ × List Int} {Q : List (σ × List Int)} (h : BInv nx G Triv Dm s0 S (p :: Q)) : ∀ q ∈ p :: Q, key p.2 ≤ key q.2 := by
  intro q hq
  rcases List.mem_cons.1 hq with rfl | hq
  · exact Nat.le_refl _
  · have := List.rel_of_pairwise_cons h.srt (List.mem_map_of_mem (f := fun p : σ × List Int => key p.2) hq)
    exact Nat.le_of_lt this
theorem BInv.best {Dm : σ → Prop} {S : List σ} {s : σ} {t : List Int} {Q : List (σ × List Int)} (hT : TrivOk nx G Triv) (h : BInv nx G Triv Dm s0 S ((s, t) :: Q)) (hG : G s) : BestG nx G s0 t := by
  obtain ⟨b1, b2, b3⟩ := h.byt (s, t) (by simp)
  simp only at b1 b2 b3
  refine ⟨⟨b1, b2 ▸ hG⟩, fun u hu => ?_⟩
  refine Classical.byContradiction fun hlt => ?_
  rcases h.sm hT u hu.1 (fun p hp => by have := h.least p hp; simp only at this; omega) with hc | ht
  · exact hc.1 hu.2
  · exact hT.none _ ht hu.2
theorem BInv.none {Dm : σ → Prop} {S : List σ} (hT : TrivOk nx G Triv) (h : BInv nx G Triv Dm s0 S []) : ∀ u, ¬ LG nx G s0 u := by
  intro u hu
  rcases h.sm hT u hu.1 (fun p hp => by simp at hp) with hc | ht
  · exact hc.1 hu.2
  · exact hT.none _ ht hu.2
theorem BInv.start {Dm : σ → Prop} (hd : Dm s0) : BInv nx G Triv Dm s0 [s0] [(s0, [])] where
  a := by simp
  nd := by simp
  rng := fun s hs => by simp at hs; subst hs; exact hd
  qs := fun p hp => by simp at hp; subst hp; simp
  byt := fun p hp => by simp at hp; subst hp; exact ⟨fun x hx => by simp at hx, rfl, fun u _ _ => by simp [key]⟩
  len := fun p hp => by simp at hp; subst hp; simp
  ql := by simp
  cl := fun s hs => by simp at hs; subst hs; exact .inl ⟨[], by simp⟩
  srt := by simp
  bnd := fun p hp q hq => by simp at hp hq; subst hp; subst hq; simp [key]
theorem BInv.mid {Dm : σ → Prop} {S : List σ} {s : σ} {t : List Int} {Q : List (σ × List Int)} (hT : TrivOk nx G Triv) (h : BInv nx G Triv Dm s0 S ((s, t) :: Q)) (_hG : ¬ G s) : BMid nx G Triv Dm s0 s t 0 S Q where
  a := h.a
  nd := h.nd
  rng := h.rng
  qs := fun p hp => h.qs p (by simp [hp])
  byt := fun p hp => h.byt p (by simp [hp])
  len := fun p hp => h.len p (by simp [hp])
  ql := by have := h.ql; simp at this; exact this
  cl := fun z hz => by
    rcases h.cl z hz with ⟨u, hu⟩ | hc
    · rcases List.mem_cons.1 hu with he | hu
      · exact .inl (Prod.mk.inj he).1
      · exact .inr (.inl ⟨u, hu⟩)
    · exact .inr (.inr hc)
  srt := (List.pairwise_cons.1 h.srt).2
  bnd := fun q hq => by
    have h1 := List.rel_of_pairwise_cons h.srt (List.mem_map_of_mem (f := fun p : σ × List Int => key p.2) hq)
    have h2 := h.bnd (s, t) rfl q (by simp [hq])
    exact ⟨h1, by simpa using h2⟩
  tb := by
    obtain ⟨b1, b2, _⟩ := h.byt (s, t) (by simp)
    exact ⟨b1, b2, h.len (s, t) (by simp), h.qs (s, t) (by simp)⟩
  ch := fun d hd => by omega
  sm := fun v hv hk => h.sm hT v hv fun p hp => by have := h.least p hp; simp only at this; omega
/-- a child that is known, or trivial -/
theorem BMid.skip {Dm : σ → Prop} {S : List σ} {s : σ} {t : List Int} {c : Nat} {Q : List (σ × List Int)} (h : BMid nx G Triv Dm s0 s t c S Q) (hk : nx s (c : Int) ∈ S ∨ Triv (nx s (c : Int))) : BMid nx G Triv Dm s0 s t (c + 1) S Q :=
  { h with
    bnd := fun q hq => by have := h.bnd q hq; omega
    ch := fun d hd => by
      by_cases hdc : d = c
      · subst hdc; exact hk
      · exact h.ch d (by omega) }
/-- a fresh child -/
theorem BMid.push {Dm : σ → Prop} {S : List σ} {s : σ} {t : List Int} {c : Nat} {Q : List (σ × List Int)} (hT : TrivOk nx G Triv) (h : BMid nx G Triv Dm s0 s t c S Q) (hc : c < 256) (hn : nx s (c : Int) ∉ S) (ht : ¬ Triv (nx s (c : Int))) (hd : Dm (nx s (c : Int))) :
    BMid nx G Triv Dm s0 s t (c + 1) (S ++ [nx s (c : Int)]) (Q ++ [(nx s (c : Int), t ++ [(c : Int)])]) := by
  obtain ⟨t1, t2, t3, t4⟩ := h.tb
  have hkey : key (t ++ [(c : Int)]) = key t * 257 + (c + 1) := by rw [key_snoc]; simp
  have hsub : ∀ x ∈ S, x ∈ S ++ [nx s (c : Int)] := fun x hx => by simp [hx]
  refine ⟨by simp [h.a], ?_, ?_, ?_, ?_, ?_, ?_, ?_, ?_, ?_, ?_, ?_, ?_⟩
  · rw [List.nodup_append]
    exact ⟨h.nd, by simp, fun x hx y hy => by simp at hy; subst hy; intro he; subst he; exact hn hx⟩
  · intro x hx
    rcases List.mem_append.1 hx with hx | hx
    · exact h.rng x hx
    · simp at hx; subst hx; exact hd
  · intro p hp
    rcases List.mem_append.1 hp with hp | hp
    · exact hsub _ (h.qs p hp)
    · simp at hp; subst hp; simp
  · intro p hp
    rcases List.mem_append.1 hp with hp | hp
    · exact h.byt p hp
    · simp at hp; subst hp
      refine ⟨Byt.app.2 ⟨t1, by omega, by omega⟩, by rw [List.foldl_append, t2]; rfl, fun u hu he => ?_⟩
      refine Classical.byContradiction fun hlt => ?_
      simp only at he hlt
      rw [hkey] at hlt
      by_cases hu0 : u = []
      · subst hu0
        exact hn (he ▸ h.a)
      · obtain ⟨v, d, rfl⟩ := snoc_of hu0
        obtain ⟨hv, hdr⟩ := Byt.app.1 hu
        rw [key_snoc] at hlt
        have he' : nx (v.foldl nx s0) d = nx s (c : Int) := by rw [← he, List.foldl_append]; rfl
        have hkv : key v ≤ key t := by omega
        by_cases hkt : key v = key t
        · have hvt := key_inj hv t1 hkt
          rw [hvt, t2] at he'
          rw [hkt] at hlt
          have hdc : d.toNat < c := by omega
          rcases h.ch d.toNat hdc with hm | hm
          · rw [show ((d.toNat : Nat) : Int) = d by omega, he'] at hm
            exact hn hm
          · rw [show ((d.toNat : Nat) : Int) = d by omega, he'] at hm
            exact ht hm
        · rcases h.sm v hv (by omega) with hcl | htr
          · rcases hcl.2 d hdr.1 hdr.2 with hm | hm
            · rw [he'] at hm; exact hn hm
            · rw [he'] at hm; exact ht hm
          · have := hT.step _ d htr
            rw [he'] at this
            exact ht this
  · intro p hp
    rw [List.length_append, List.length_singleton]
    rcases List.mem_append.1 hp with hp | hp
    · have := h.len p hp; omega
    · simp at hp; subst hp; simp; omega
  · have := h.ql
    simp only [List.length_append, List.length_singleton]
    omega
  · intro z hz
    rcases List.mem_append.1 hz with hz | hz
    · rcases h.cl z hz with h1 | ⟨u, h1⟩ | h1
      · exact .inl h1
      · exact .inr (.inl ⟨u, by simp [h1]⟩)
      · exact .inr (.inr (h1.mono hsub))
    · simp at hz; subst hz
      exact .inr (.inl ⟨t ++ [(c : Int)], by simp⟩)
  · rw [List.map_append, List.pairwise_append]
    refine ⟨h.srt, by simp, fun x hx y hy => ?_⟩
    obtain ⟨p, hp, rfl⟩ := List.mem_map.1 hx
    simp at hy; subst hy
    have := (h.bnd p hp).2
    rw [hkey]
    omega
  · intro q hq
    rcases List.mem_append.1 hq with hq | hq
    · have := h.bnd q hq; omega
    · simp at hq; subst hq
      simp only [hkey]
      omega
  · exact ⟨t1, t2, by simp; omega, hsub _ t4⟩
  · intro d hd
    by_cases hdc : d = c
    · subst hdc; exact .inl (by simp)
    · exact (h.ch d (by omega)).imp (hsub _) id
  · exact fun v hv hk => (h.sm v hv hk).imp (fun hc => hc.mono hsub) id
theorem BMid.done {Dm : σ → Prop} {S : List σ} {s : σ} {t : List Int} {Q : List (σ × List Int)} (h : BMid nx G Triv Dm s0 s t 256 S Q) (hG : ¬ G s) : BInv nx G Triv Dm s0 S Q where
  a := h.a
  nd := h.nd
  rng := h.rng
  qs := h.qs
  byt := h.byt
  len := h.len
  ql := by have := h.ql; omega
  cl := fun z hz => by
    rcases h.cl z hz with rfl | h1
    · refine .inr ⟨hG, fun c h0 h1 => ?_⟩
      have := h.ch c.toNat (by omega)
      rwa [show ((c.toNat : Nat) : Int) = c by omega] at this
    · exact h1
  srt := h.srt
  bnd := fun p hp q hq => by
    have h1 := (h.bnd p (List.mem_of_mem_head? (by simp [hp]))).1
    have h2 := (h.bnd q hq).2
    omega
end
end Go.Proofs.YtealkahefalaeaaGreatDoor
namespace Go.Proofs.YtealkahefalaeaaGreatDoor
open Go Go.Eng
set_option maxRecDepth 100000
section
variable {σ : Type} {nx : σ → Int → σ} {G Dm : σ → Prop}
def InG (nx : σ → Int → σ) (G : σ → Prop) (k : Nat) (s : σ) : Prop := ∃ t, LG nx G s t ∧ t.length = k
def DistG (nx : σ → Int → σ) (G : σ → Prop) (s : σ) (k : Nat) : Prop := InG nx G k s ∧ ∀ j, j < k → ¬ InG nx G j s
theorem lg_cons {s : σ} {c : Int} {t : List Int} : LG nx G s (c :: t) ↔ (0 ≤ c ∧ c < 256) ∧ LG nx G (nx s c) t := by
  constructor
  · rintro ⟨h1, h2⟩
    exact ⟨h1 c (by simp), fun y hy => h1 y (by simp [hy]), h2⟩
  · rintro ⟨h1, h2, h3⟩
    refine ⟨fun y hy => ?_, h3⟩
    rcases List.mem_cons.1 hy with rfl | hy
    · exact h1
    · exact h2 y hy
theorem inG_zero {s : σ} : InG nx G 0 s ↔ G s := by
  constructor
  · rintro ⟨t, h, hl⟩
    obtain rfl := List.length_eq_zero_iff.1 hl
    exact h.2
  · exact fun h => ⟨[], ⟨fun y hy => by simp at hy, h⟩, rfl⟩
theorem inG_succ {s : σ} {k : Nat} : InG nx G (k + 1) s ↔ ∃ c : Int, (0 ≤ c ∧ c < 256) ∧ InG nx G k (nx s c) := by
  constructor
  · rintro ⟨t, h, hl⟩
    cases t with
    | nil => simp at hl
    | cons c t =>
      obtain ⟨h1, h2⟩ := lg_cons.1 h
      exact ⟨c, h1, t, h2, by simpa using hl⟩
  · rintro ⟨c, hc, t, h, hl⟩
    exact ⟨c :: t, lg_cons.2 ⟨hc, h⟩, by simp [hl]⟩
theorem DistG.uniq {s : σ} {a b : Nat} (h : DistG nx G s a) (h' : DistG nx G s b) : a = b := by
  rcases Nat.lt_trichotomy a b with hl | he | hl
  · exact absurd h.1 (h'.2 a hl)
  · exact he
  · exact absurd h'.1 (h.2 b hl)
theorem distG_step {s : σ} {d : Nat} (h : DistG nx G s (d + 1)) : ∃ c : Int, (0 ≤ c ∧ c < 256) ∧ DistG nx G (nx s c) d := by
  obtain ⟨c, hc, hl⟩ := inG_succ.1 h.1
  exact ⟨c, hc, hl, fun j hj hlj => h.2 (j + 1) (by omega) (inG_succ.2 ⟨c, hc, hlj⟩)⟩
theorem distG_chain (hD : ∀ s c, Dm s → 0 ≤ c ∧ c < 256 → Dm (nx s c)) : ∀ {d : Nat} {s : σ}, Dm s → DistG nx G s d → ∃ l : List σ, l.length = d + 1 ∧ l.Nodup ∧ ∀ y ∈ l, Dm y ∧ ∃ j, j ≤ d ∧ DistG nx G y j
  | 0, s, hr, hd => ⟨[s], rfl, by simp, fun y hy => by simp at hy; subst hy; exact ⟨hr, 0, Nat.le_refl _, hd⟩⟩
  | d + 1, s, hr, hd => by
    obtain ⟨c, hc, hd'⟩ := distG_step hd
    obtain ⟨l, l1, l2, l3⟩ := distG_chain hD (hD s c hr hc) hd'
    refine ⟨s :: l, by simp [l1], List.nodup_cons.2 ⟨fun hm => ?_, l2⟩, fun y hy => ?_⟩
    · obtain ⟨_, j, hj, hdj⟩ := l3 s hm
      have := hd.uniq hdj
      omega
    · rcases List.mem_cons.1 hy with rfl | hy
      · exact ⟨hr, d + 1, Nat.le_refl _, hd⟩
      · obtain ⟨a, j, hj, hdj⟩ := l3 y hy
        exact ⟨a, j, by omega, hdj⟩
/-- the greatest distance is behind all others -/
theorem distG_below (hD : ∀ s c, Dm s → 0 ≤ c ∧ c < 256 → Dm (nx s c)) : ∀ {d k : Nat} {s : σ}, Dm s → DistG nx G s d → k ≤ d → ∃ y, Dm y ∧ DistG nx G y k
  | 0, k, s, hr, hd, hk => by
    obtain rfl : k = 0 := by omega
    exact ⟨s, hr, hd⟩
  | d + 1, k, s, hr, hd, hk => by
    by_cases e : k = d + 1
    · subst e; exact ⟨s, hr, hd⟩
    · obtain ⟨c, hc, hd'⟩ := distG_step hd
      exact distG_below hD (hD s c hr hc) hd' (by omega)
theorem inG_dist {s : σ} {k : Nat} (h : InG nx G k s) : ∃ d, d ≤ k ∧ DistG nx G s d := by
  obtain ⟨d, h1, h2, h3⟩ := least (P := fun k => InG nx G k s) h
  exact ⟨d, h1, h2, h3⟩
/-- going down by the least byte finds the best text -/
structure DescG (nx : σ → Int → σ) (G : σ → Prop) (s0 : σ) (D : Nat) (s : σ) (o : List Int) : Prop where
  b : Byt o
  f : o.foldl nx s0 = s
  l : o.length ≤ D
  d : DistG nx G s (D - o.length)
  k : ∀ u, LG nx G s0 u → u.length = D → key o ≤ key (u.take o.length)
theorem DescG.start {s0 : σ} {D : Nat} (h : DistG nx G s0 D) : DescG nx G s0 D s0 [] := ⟨fun z hz => by simp at hz, rfl, by simp, by simpa using h, fun u _ _ => by simp⟩
theorem DescG.next {s0 s : σ} {D : Nat} {o : List Int} (h : DescG nx G s0 D s o) (hl : o.length < D) {c : Nat} (hc : c < 256) (hd : DistG nx G (nx s (c : Int)) (D - (o.length + 1))) (hn : ∀ d : Nat, d < c → ¬ DistG nx G (nx s (d : Int)) (D - (o.length + 1))) :
    DescG nx G s0 D (nx s (c : Int)) (o ++ [(c : Int)]) := by
  obtain ⟨i1, i2, i3, i5, i6⟩ := h
  refine ⟨Byt.app.2 ⟨i1, by omega, by omega⟩, by rw [List.foldl_append, ← i2]; rfl, by simp; omega, by rw [List.length_append, List.length_singleton]; exact hd, fun u hu hul => ?_⟩
  have hol : o.length < u.length := by omega
  rw [List.length_append, List.length_singleton, List.take_add_one, List.getElem?_eq_getElem hol]
  show _ ≤ key (u.take o.length ++ [u[o.length]])
  have hub := hu.1 _ (List.getElem_mem hol)
  rw [key_snoc, key_snoc]
  have h6 := i6 u hu hul
  by_cases hk : key o = key (u.take o.length)
  · have hou := key_inj i1 (fun z hz => hu.1 z (List.mem_of_mem_take hz)) hk
    have hcu : c ≤ u[o.length].toNat := by
      refine Classical.byContradiction fun hlt => hn u[o.length].toNat (by omega) ?_
      rw [show ((u[o.length].toNat : Nat) : Int) = u[o.length] by omega]
      have hl1 : InG nx G (D - (o.length + 1)) (nx s u[o.length]) := by
        refine ⟨u.drop (o.length + 1), ⟨fun z hz => hu.1 z (List.mem_of_mem_drop hz), ?_⟩, by rw [List.length_drop]; omega⟩
        have h2 := hu.2
        rw [← List.take_append_drop (o.length + 1) u, List.foldl_append, List.take_add_one, List.getElem?_eq_getElem hol, List.foldl_append, ← hou, i2] at h2
        exact h2
      refine ⟨hl1, fun j hj hlj => i5.2 (j + 1) (by omega) (inG_succ.2 ⟨_, hub, hlj⟩)⟩
    omega
  · omega
theorem DescG.done {s0 s : σ} {D : Nat} {o : List Int} (h0 : DistG nx G s0 D) (h : DescG nx G s0 D s o) (hl : o.length = D) : BestG nx G s0 o ∧ G s := by
  obtain ⟨i1, i2, i3, i5, i6⟩ := h
  rw [hl, Nat.sub_self] at i5
  have hg : G s := inG_zero.1 i5.1
  refine ⟨⟨⟨i1, i2 ▸ hg⟩, fun u hu => ?_⟩, hg⟩
  have hlu : D ≤ u.length := Nat.le_of_not_lt fun hlt => h0.2 _ hlt ⟨u, hu, rfl⟩
  by_cases he : u.length = D
  · have := i6 u hu he
    rw [hl, ← he, List.take_length] at this
    exact this
  · have b1 := (key_bound i1).1
    have b2 := (key_bound hu.1).2 (by omega)
    have b3 : (257 : Nat) ^ o.length ≤ 257 ^ (u.length - 1) := Nat.pow_le_pow_right (by omega) (by omega)
    omega
end
theorem nodup_lenG {α : Type} [BEq α] [LawfulBEq α] : ∀ {l m : List α}, l.Nodup → (∀ x ∈ l, x ∈ m) → l.length ≤ m.length
  | [], _, _, _ => by simp
  | x :: l, m, hn, hs => by
    obtain ⟨h1, h2⟩ := List.nodup_cons.1 hn
    have hx := hs x (by simp)
    have := nodup_lenG (l := l) (m := m.erase x) h2 (fun y hy => (List.mem_erase_of_ne (show y ≠ x from fun e => h1 (e ▸ hy))).2 (hs y (by simp [hy])))
    rw [List.length_erase_of_mem hx] at this
    have : 0 < m.length := List.length_pos_of_mem hx
    simp; omega
def nxt (rows : List (List Int)) (s c : Int) : Int := (rows.getD s.toNat []).getD c.toNat 0
def beg (entry : List Int) (cond : Int) : Int := if 0 ≤ cond ∧ cond < (entry.length : Int) then entry.getD cond.toNat 0 else 0
section
variable {N : Nat} {rows : List (List Int)} {rule entry : List Int}
theorem nxt_get (hs : Sz rows rule entry) {s c : Int} (hr : 0 ≤ s ∧ s < rows.length) (hc : 0 ≤ c ∧ c < 256) : ∃ row, idx rows s = some row ∧ row ∈ rows ∧ idx row c = some (nxt rows s c) ∧ nxt rows s c ∈ row := by
  have hl : s.toNat < rows.length := by omega
  have hw := hs.w _ (List.getElem_mem hl)
  have e1 : rows.getD s.toNat [] = rows[s.toNat] := by rw [List.getD, List.getElem?_eq_getElem hl]; rfl
  have hcl : c.toNat < rows[s.toNat].length := by omega
  have e2 : nxt rows s c = rows[s.toNat][c.toNat] := by unfold nxt; rw [e1, List.getD, List.getElem?_eq_getElem hcl]; rfl
  exact ⟨rows[s.toNat], idx_int hr.1 hl, List.getElem_mem hl, by rw [e2]; exact idx_int hc.1 hcl, e2 ▸ List.getElem_mem hcl⟩
theorem nxt_rng (hs : Sz rows rule entry) (h : Rt rows rule entry) {s c : Int} (hr : 0 ≤ s ∧ s < rows.length) (hc : 0 ≤ c ∧ c < 256) : 0 ≤ nxt rows s c ∧ nxt rows s c < rows.length := by
  obtain ⟨row, _, h2, _, h4⟩ := nxt_get hs hr hc
  exact h.row row h2 _ h4
theorem beg_rng (h : Rt rows rule entry) (cond : Int) : 0 ≤ beg entry cond ∧ beg entry cond < rows.length := by
  unfold beg
  split
  · rename_i hc
    have hl : cond.toNat < entry.length := by omega
    rw [List.getD, List.getElem?_eq_getElem hl]
    exact h.ent _ (List.getElem_mem hl)
  · have := h.n1; omega
theorem rule_at (h : Rt rows rule entry) {s : Int} (hr : 0 ≤ s ∧ s < rows.length) : idx rule s = some (rule.getD s.toNat 0) ∧ -1 ≤ rule.getD s.toNat 0 ∧ rule.getD s.toNat 0 < 48 := by
  have hru := h.ru
  have hl : s.toNat < rule.length := by omega
  rw [List.getD, List.getElem?_eq_getElem hl]
  exact ⟨idx_int hr.1 hl, h.rul _ (List.getElem_mem hl)⟩
theorem right_t (hN : 4294967296 ≤ N) (hs : Sz rows rule entry) (h : Rt rows rule entry) : F_subset_Right N rows rule entry = some true := by
  obtain ⟨b, hb, hbt⟩ := right_spec hN hs
  rw [hbt.2 h] at hb; exact hb
theorem right_f (hN : 4294967296 ≤ N) (hs : Sz rows rule entry) (h : ¬ Rt rows rule entry) : F_subset_Right N rows rule entry = some false := by
  obtain ⟨b, hb, hbt⟩ := right_spec hN hs
  cases b with
  | false => exact hb
  | true => exact absurd (hbt.1 rfl) h
theorem refRight_t (hN : 4294967296 ≤ N) (hs : Sz rows rule entry) (h : Rt rows rule entry) : F_dofferref17_Right N rows rule entry = some true := by
  obtain ⟨b, hb, hbt⟩ := refRight_spec hN hs
  rw [hbt.2 h] at hb; exact hb
theorem refRight_f (hN : 4294967296 ≤ N) (hs : Sz rows rule entry) (h : ¬ Rt rows rule entry) : F_dofferref17_Right N rows rule entry = some false := by
  obtain ⟨b, hb, hbt⟩ := refRight_spec hN hs
  cases b with
  | false => exact hb
  | true => exact absurd (hbt.1 rfl) h
end
/-- two DFAs -/
structure Two where
  ra : List (List Int)
  ua : List Int
  ea : List Int
  rb : List (List Int)
  ub : List Int
  eb : List Int
/-- .. that are right -/
structure Two.Ok (T : Two) : Prop where
  sa : Sz T.ra T.ua T.ea
  ha : Rt T.ra T.ua T.ea
  sb : Sz T.rb T.ub T.eb
  hb : Rt T.rb T.ub T.eb
def Two.nx (T : Two) (p : Int × Int) (c : Int) : Int × Int := (nxt T.ra p.1 c, nxt T.rb p.2 c)
def Two.dm (T : Two) (p : Int × Int) : Prop := (0 ≤ p.1 ∧ p.1 < T.ra.length) ∧ (0 ≤ p.2 ∧ p.2 < T.rb.length)
def Two.ru (T : Two) (p : Int × Int) : Int × Int := (T.ua.getD p.1.toNat 0, T.ub.getD p.2.toNat 0)
def Two.bg (T : Two) (cond : Int) : Int × Int := (beg T.ea cond, beg T.eb cond)
variable {T : Two}
theorem Two.Ok.nx (h : T.Ok) : ∀ (p : Int × Int) (c : Int), T.dm p → 0 ≤ c ∧ c < 256 → T.dm (T.nx p c) := fun _ _ hp hc => ⟨nxt_rng h.sa h.ha hp.1 hc, nxt_rng h.sb h.hb hp.2 hc⟩
theorem Two.Ok.bg (h : T.Ok) (cond : Int) : T.dm (T.bg cond) := ⟨beg_rng h.ha cond, beg_rng h.hb cond⟩
theorem Two.Ok.len (h : T.Ok) {l : List (Int × Int)} (hn : l.Nodup) (hr : ∀ p ∈ l, T.dm p) : l.length ≤ 40000 := by
  have h1 := h.ha.n2
  have h2 := h.hb.n2
  have hn' : (l.map fun p : Int × Int => p.1.toNat * 200 + p.2.toNat).Nodup := by
    clear h1 h2
    induction l with
    | nil => simp
    | cons x l ih =>
      obtain ⟨hx, hn⟩ := List.nodup_cons.1 hn
      rw [List.map_cons, List.nodup_cons]
      refine ⟨fun hm => ?_, ih hn (fun p hp => hr p (by simp [hp]))⟩
      obtain ⟨y, hy, he⟩ := List.mem_map.1 hm
      have a := hr x (by simp)
      have b := hr y (by simp [hy])
      have h1 := h.ha.n2
      have h2 := h.hb.n2
      unfold Two.dm at a b
      obtain ⟨x1, x2⟩ := x
      obtain ⟨y1, y2⟩ := y
      simp only at he a b
      have e1 : y1 = x1 := by omega
      have e2 : y2 = x2 := by omega
      subst e1 e2
      exact hx hy
  have := nodup_lenG (m := List.range 40000) hn' (fun n hn => by
    obtain ⟨p, hp, rfl⟩ := List.mem_map.1 hn
    have a := hr p hp
    unfold Two.dm at a
    rw [List.mem_range]
    omega)
  simpa using this
end Go.Proofs.YtealkahefalaeaaGreatDoor
namespace Go.Proofs.YtealkahefalaeaaGreatDoor
open Go Go.Eng
set_option maxRecDepth 100000
def sn (S : List (Int × Int)) : List ((Int × Int) × Int) := S.map fun p => (p, 1)
theorem sn_find (S : List (Int × Int)) (p : Int × Int) : ((sn S).find? fun e => e.1 == p) = if p ∈ S then some (p, 1) else none := by
  unfold sn
  induction S with
  | nil => rfl
  | cons q S ih =>
    rw [List.map_cons, List.find?_cons]
    by_cases h : q = p
    · subst h; simp
    · have e : (q == p) = false := by simpa using h
      have e2 : ¬ p = q := fun e => h e.symm
      simp only [e, ih, List.mem_cons, e2, false_or]
theorem sn_get (S : List (Int × Int)) (p : Int × Int) : (mget (sn S) p).getD 0 = if p ∈ S then 1 else 0 := by
  unfold mget
  rw [sn_find]
  split <;> rfl
theorem sn_fi {S : List (Int × Int)} {p : Int × Int} (h : p ∉ S) : ((sn S).findIdx? fun e => e.1 == p) = none := by
  rw [List.findIdx?_eq_none_iff]
  intro x hx
  obtain ⟨q, hq, rfl⟩ := List.mem_map.1 hx
  have : ¬ q = p := fun e => h (e ▸ hq)
  simpa using this
theorem modify_len {α : Type} (f : α → α) (x : α) : ∀ (l : List α), (l ++ [x]).modify l.length f = l ++ [f x]
  | [] => rfl
  | y :: l => by simp only [List.cons_append, List.length_cons, List.modify_succ_cons, modify_len f x l]
theorem sn_set {S : List (Int × Int)} {p : Int × Int} (h : p ∉ S) : mset (mset (sn S) p 0) p 1 = sn (S ++ [p]) := by
  have e1 : mset (sn S) p (0 : Int) = sn S ++ [(p, 0)] := by unfold mset; rw [sn_fi h]
  rw [e1]
  unfold mset
  have e2 : ((sn S ++ [(p, (0 : Int))]).findIdx? fun e => e.1 == p) = some (sn S).length := by
    rw [List.findIdx?_append, sn_fi h]; simp
  rw [e2]
  simp only
  rw [modify_len]
  simp [sn]
theorem slc_tail {α : Type} (x : α) (l : List α) : slc (x :: l) 1 (((x :: l).length : Nat) : Int) = some l := by
  unfold slc
  rw [if_pos ⟨by omega, by simp; omega, by omega⟩]
  simp
theorem wrap8 {c : Nat} (h : c < 256) : IntKind.wrap .u8 (c : Int) = (c : Int) := by
  simp [IntKind.wrap, IntKind.signed, IntKind.bits]
  omega
section
variable {N : Nat} {T : Two}
theorem next2_spec (hT : T.Ok) {p : Int × Int} {c : Int} (hp : T.dm p) (hc : 0 ≤ c ∧ c < 256) : F_product_two_next N T.ra T.ua T.ea T.rb T.ub T.eb p.1 p.2 c = some (T.nx p c) := by
  obtain ⟨r1, a1, _, a3, _⟩ := nxt_get hT.sa hp.1 hc
  obtain ⟨r2, b1, _, b3, _⟩ := nxt_get hT.sb hp.2 hc
  unfold F_product_two_next
  simp only [a1, a3, b1, b3, bind, Option.bind_some]
  rfl
theorem entry_spec {rows : List (List Int)} {rule entry : List Int} (cond : Int) : F_product_entry N rows rule entry cond = some (beg entry cond) := by
  unfold F_product_entry beg
  by_cases h1 : cond < 0
  · have : ¬ (0 ≤ cond ∧ cond < (entry.length : Int)) := by omega
    simp [h1, this]
  by_cases h2 : cond ≥ (entry.length : Int)
  · have : ¬ (0 ≤ cond ∧ cond < (entry.length : Int)) := by omega
    simp [h1, h2, this]
  · have h3 : 0 ≤ cond ∧ cond < (entry.length : Int) := by omega
    have hl : cond.toNat < entry.length := by omega
    rw [if_pos h3, List.getD, List.getElem?_eq_getElem hl]
    simp only [h1, h2, decide_false, Bool.false_eq_true, if_false, bind, Option.bind_some, idx_int h3.1 hl]
    rfl
theorem begin2_spec (cond : Int) : F_product_two_begin N T.ra T.ua T.ea T.rb T.ub T.eb cond = some (T.bg cond) := by
  unfold F_product_two_begin
  simp only [entry_spec, bind, Option.bind_some]
  rfl
theorem rules2_spec (hT : T.Ok) {p : Int × Int} (hp : T.dm p) : F_product_two_rules N T.ra T.ua T.ea T.rb T.ub T.eb p.1 p.2 = some (T.ru p) := by
  unfold F_product_two_rules
  simp only [(rule_at hT.ha hp.1).1, (rule_at hT.hb hp.2).1, bind, Option.bind_some]
  rfl
def noT : Int × Int → Prop := fun _ => False
theorem noT_ok (G : Int × Int → Prop) : TrivOk T.nx G noT := ⟨fun _ _ h => h, fun _ h => h.elim⟩
/-- the children of a pair -/
theorem kids (hN : 4294967296 ≤ N) (hT : T.Ok) {G : Int × Int → Prop} {s0 s : Int × Int} {t : List Int} {S : List (Int × Int)} {Q : List ((Int × Int) × List Int)} (hm : BMid T.nx G noT T.dm s0 s t 0 S Q) :
    ∃ S' Q', iterO N (fun q => F_product_two_find_l1 N T.ra T.ua T.ea T.rb T.ub T.eb (s, t) q.1 q.2.1 q.2.2) ((s, t) :: Q, 0, sn S) = some ((s, t) :: Q', sn S') ∧ BMid T.nx G noT T.dm s0 s t 256 S' Q' ∧ Q'.length + S.length = Q.length + S'.length ∧ S.length ≤ S'.length := by
  obtain ⟨r, h1, S', Q', h2, h3, h4⟩ := loop_inv (f := fun q => F_product_two_find_l1 N T.ra T.ua T.ea T.rb T.ub T.eb (s, t) q.1 q.2.1 q.2.2) (fun i (q : List ((Int × Int) × List Int) × List ((Int × Int) × Int)) => (q.1, (i : Int), q.2)) id (List.range 256)
    (fun i q => ∃ S' Q', q = ((s, t) :: Q', sn S') ∧ BMid T.nx G noT T.dm s0 s t i S' Q' ∧ Q'.length + S.length = Q.length + S'.length ∧ S.length ≤ S'.length) (N := N) (s := ((s, t) :: Q, sn S)) (by simp; omega)
    ⟨S, Q, rfl, hm, rfl, Nat.le_refl _⟩
    (fun i x q hx hI => by
      obtain ⟨hi, rfl⟩ := range_get hx
      obtain ⟨S1, Q1, rfl, hm1, e1, e2⟩ := hI
      have hds : T.dm s := hm1.rng s hm1.tb.2.2.2
      have hn := next2_spec (N := N) hT hds (c := (x : Int)) ⟨by omega, by omega⟩
      have hdn := hT.nx s x hds ⟨by omega, by omega⟩
      unfold F_product_two_find_l1
      simp only [show ((x : Int) < 256) by omega, decide_true, if_true, hn, bind, Option.bind_some]
      rw [w64_succ (n := x) (by omega)]
      by_cases hin : T.nx s x ∈ S1
      · refine ⟨((s, t) :: Q1, sn S1), ?_, S1, Q1, rfl, hm1.skip (.inl hin), e1, e2⟩
        have : ((mget (sn S1) (T.nx s x)).getD 0 == 0) = false := by rw [sn_get, if_pos hin]; rfl
        simp only [this, Bool.false_eq_true, if_false, Option.bind_some]
      · have hm2 := hm1.push (noT_ok G) hi hin (fun h => h) hdn
        refine ⟨((s, t) :: (Q1 ++ [(T.nx s x, t ++ [(x : Int)])]), sn (S1 ++ [T.nx s x])), ?_, _, _, rfl, hm2, by simp; omega, by simp; omega⟩
        have : ((mget (sn S1) (T.nx s x)).getD 0 == 0) = true := by rw [sn_get, if_neg hin]; rfl
        have h0 : (mget (sn S1) (T.nx s x)).getD 0 = 0 := by rw [sn_get, if_neg hin]
        have hS := hT.len hm2.nd hm2.rng
        have hq := hm2.ql
        have ht := hm1.tb.2.2.1
        simp only [List.length_append, List.length_singleton] at hS hq
        unfold F_clone_139
        simp only [h0]
        rw [app_eq (by simp; omega)]
        simp only [Option.bind_some, List.nil_append]
        rw [app_eq (by simp; omega)]
        simp only [Option.bind_some]
        rw [app_eq (by simp; omega)]
        simp only [Option.bind_some, show w64 (0 + 1) = 1 from rfl, sn_set hin, wrap8 hi]
        rfl)
    (fun q _ => by unfold F_product_two_find_l1; simp)
  subst h2
  simp only [List.length_range] at h3
  exact ⟨S', Q', h1, h3, h4⟩
/-- what a search answers -/
def Found (T : Two) (G : Int × Int → Prop) (s0 : Int × Int) : (Int × Int × List Int) ⊕ Unit → Prop
  | .inl (p, q, t) => BestG T.nx G s0 t ∧ (p, q) = t.foldl T.nx s0 ∧ T.dm (p, q)
  | .inr () => ∀ u, ¬ LG T.nx G s0 u
theorem search (hN : 4294967296 ≤ N) (hT : T.Ok) {g : Int → Int → Bool} {f : List ((Int × Int) × List Int) × List ((Int × Int) × Int) → Option ((List ((Int × Int) × List Int) × List ((Int × Int) × Int)) ⊕ (Unit ⊕ ((Int × Int × List Int) ⊕ Unit)))}
    (f0 : ∀ m, f ([], m) = some (.inr (.inl ())))
    (f1 : ∀ (p : Int × Int) (t : List Int) Q m, T.dm p → f ((p, t) :: Q, m) = if g (T.ru p).1 (T.ru p).2 = true then some (.inr (.inr (.inl (p.1, p.2, t)))) else (iterO N (fun q => F_product_two_find_l1 N T.ra T.ua T.ea T.rb T.ub T.eb (p, t) q.1 q.2.1 q.2.2) ((p, t) :: Q, 0, m)) >>= fun x => slc x.1 1 (x.1.length : Int) >>= fun y => some (.inl (y, x.2)))
    {s0 : Int × Int} (h0 : T.dm s0) : ∃ z, ((iterO N f ([(s0, [])], mset ([] : List ((Int × Int) × Int)) s0 1)) >>= fun z => match z with | .inr z => some z | .inl _ => some (.inr ())) = some z ∧ Found T (fun p => g (T.ru p).1 (T.ru p).2 = true) s0 z := by
  have hm0 : mset ([] : List ((Int × Int) × Int)) s0 1 = sn [s0] := rfl
  rw [hm0]
  obtain ⟨r, h1, h2⟩ := iterO_while (f := f) (fun q => ∃ S Q, q = (Q, sn S) ∧ BInv T.nx (fun p => g (T.ru p).1 (T.ru p).2 = true) noT T.dm s0 S Q) (fun q => q.1.length + 2 * (40001 - q.2.length))
    (fun r => (r = .inl () ∧ ∀ u, ¬ LG T.nx (fun p => g (T.ru p).1 (T.ru p).2 = true) s0 u) ∨ ∃ p t, r = .inr (.inl (p, t)) ∧ BestG T.nx (fun p => g (T.ru p).1 (T.ru p).2 = true) s0 t.2 ∧ (p, t.1) = t.2.foldl T.nx s0 ∧ T.dm (p, t.1))
    (fun q hI => by
      obtain ⟨S, Q, rfl, hB⟩ := hI
      cases Q with
      | nil => exact .inr ⟨_, f0 _, .inl ⟨rfl, hB.none (noT_ok _)⟩⟩
      | cons w Q =>
        obtain ⟨p, t⟩ := w
        have hp : T.dm p := hB.rng p (hB.qs (p, t) (by simp))
        rw [f1 p t Q _ hp]
        by_cases hg : g (T.ru p).1 (T.ru p).2 = true
        · rw [if_pos hg]
          refine .inr ⟨_, rfl, .inr ⟨p.1, (p.2, t), rfl, hB.best (noT_ok _) hg, ?_, hp⟩⟩
          exact ((hB.byt (p, t) (by simp)).2.1).symm
        · rw [if_neg hg]
          obtain ⟨S', Q', k1, k2, k3, k4⟩ := kids hN hT (hB.mid (noT_ok _) hg)
          have hS := hT.len k2.nd k2.rng
          refine .inl ⟨(Q', sn S'), ?_, ⟨S', Q', rfl, k2.done hg⟩, ?_⟩
          · rw [k1]
            simp only [bind, Option.bind_some]
            rw [slc_tail]
            rfl
          · simp only [sn, List.length_map, List.length_cons]
            omega) (N := N) (s := ([(s0, [])], sn [s0])) ⟨[s0], [(s0, [])], rfl, BInv.start h0⟩ (by simp [sn]; omega)
  rw [h1]
  simp only [bind, Option.bind_some]
  rcases h2 with ⟨rfl, h2⟩ | ⟨p, t, rfl, h2⟩
  · exact ⟨.inr (), rfl, h2⟩
  · exact ⟨.inl (p, t), rfl, h2⟩
theorem differ_find (hN : 4294967296 ≤ N) (hT : T.Ok) (cond : Int) : ∃ z, F_product_two_find N T.ra T.ua T.ea T.rb T.ub T.eb cond = some z ∧ Found T (fun p => ((T.ru p).1 != (T.ru p).2) = true) (T.bg cond) z := by
  obtain ⟨z, h1, h2⟩ := search hN hT (g := fun x y => x != y) (f := fun s => F_product_two_find_l0 N T.ra T.ua T.ea T.rb T.ub T.eb s.1 s.2) (fun m => by unfold F_product_two_find_l0; simp) (fun p t Q m hp => by
    unfold F_product_two_find_l0 F_product_Differ_1
    have i0 : idx ((p, t) :: Q) 0 = some (p, t) := rfl
    simp only [List.length_cons, show (((Q.length + 1 : Nat) : Int) > 0) by omega, decide_true, if_true, i0, rules2_spec hT hp, bind, Option.bind_some]) (hT.bg cond)
  refine ⟨z, ?_, h2⟩
  unfold F_product_two_find
  rw [begin2_spec]
  simp only [bind, Option.bind_some] at h1 ⊢
  exact h1
end
end Go.Proofs.YtealkahefalaeaaGreatDoor
namespace Go.Proofs.YtealkahefalaeaaGreatDoor
open Go Go.Eng
set_option maxRecDepth 100000
def cell (out : List (List Int)) (p : Int × Int) : Int := (out.getD p.1.toNat []).getD p.2.toNat 0
def gk (asked : Int) (x y : Int) : Bool := if asked = 0 then x != y else decide (x ≥ 0) && decide (y ≥ 0)
structure Shp (a b : Nat) (out : List (List Int)) : Prop where
  l : out.length = a
  r : ∀ r ∈ out, r.length = b
theorem Shp.at {a b : Nat} {out : List (List Int)} (h : Shp a b out) {p : Int × Int} (h1 : 0 ≤ p.1 ∧ p.1 < a) (h2 : 0 ≤ p.2 ∧ p.2 < b) :
    ∃ row, idx out p.1 = some row ∧ idx row p.2 = some (cell out p) ∧ row ∈ out ∧ row = out.getD p.1.toNat [] := by
  have hl : p.1.toNat < out.length := by have := h.l; omega
  have hw := h.r _ (List.getElem_mem hl)
  have e1 : out.getD p.1.toNat [] = out[p.1.toNat] := by rw [List.getD, List.getElem?_eq_getElem hl]; rfl
  have hcl : p.2.toNat < out[p.1.toNat].length := by omega
  have e2 : cell out p = out[p.1.toNat][p.2.toNat] := by unfold cell; rw [e1, List.getD, List.getElem?_eq_getElem hcl]; rfl
  exact ⟨out[p.1.toNat], idx_int h1.1 hl, by rw [e2]; exact idx_int h2.1 hcl, List.getElem_mem hl, e1.symm⟩
def put (out : List (List Int)) (p : Int × Int) (v : Int) : List (List Int) := out.set p.1.toNat ((out.getD p.1.toNat []).set p.2.toNat v)
theorem Shp.pu {a b : Nat} {out : List (List Int)} (h : Shp a b out) {p : Int × Int} (h1 : 0 ≤ p.1 ∧ p.1 < a) (v : Int) : Shp a b (put out p v) := by
  refine ⟨by unfold put; rw [List.length_set]; exact h.l, fun r hr => ?_⟩
  unfold put at hr
  rcases List.mem_or_eq_of_mem_set hr with hr | rfl
  · exact h.r r hr
  · have hl : p.1.toNat < out.length := by have := h.l; omega
    rw [List.length_set, List.getD, List.getElem?_eq_getElem hl]
    exact h.r _ (List.getElem_mem hl)
theorem Shp.pc {a b : Nat} {out : List (List Int)} (h : Shp a b out) {p q : Int × Int} (h1 : 0 ≤ p.1 ∧ p.1 < a) (h2 : 0 ≤ p.2 ∧ p.2 < b) (q1 : 0 ≤ q.1) (q2 : 0 ≤ q.2) (v : Int) : cell (put out p v) q = if q = p then v else cell out q := by
  have hl : p.1.toNat < out.length := by have := h.l; omega
  have e1 : out.getD p.1.toNat [] = out[p.1.toNat] := by rw [List.getD, List.getElem?_eq_getElem hl]; rfl
  have hw := h.r _ (List.getElem_mem hl)
  unfold cell put
  by_cases a1 : q.1 = p.1
  · rw [a1]
    rw [show (out.set p.1.toNat ((out.getD p.1.toNat []).set p.2.toNat v)).getD p.1.toNat [] = (out.getD p.1.toNat []).set p.2.toNat v by rw [List.getD, List.getElem?_set_self hl]; rfl]
    by_cases a2 : q.2 = p.2
    · rw [a2, if_pos (Prod.ext a1 a2), e1, List.getD, List.getElem?_set_self (by omega)]; rfl
    · rw [if_neg (fun e => a2 (by rw [e])), List.getD, List.getElem?_set_ne (by omega)]; rfl
  · rw [if_neg (fun e => a1 (by rw [e]))]
    rw [show (out.set p.1.toNat ((out.getD p.1.toNat []).set p.2.toNat v)).getD q.1.toNat [] = out.getD q.1.toNat [] by rw [List.getD, List.getElem?_set_ne (by omega)]; rfl]
section
variable {N : Nat} {T : Two}
/-- what is known after k rounds -/
structure FarIs (T : Two) (G : Int × Int → Prop) (k : Nat) (out : List (List Int)) : Prop where
  s : Shp T.ra.length T.rb.length out
  c : ∀ p, T.dm p → (∃ d : Nat, d ≤ k ∧ cell out p = (d : Int) ∧ DistG T.nx G p d) ∨ (cell out p = -1 ∧ ∀ d, d ≤ k → ¬ InG T.nx G d p)
structure FarAll (T : Two) (G : Int × Int → Prop) (out : List (List Int)) : Prop where
  s : Shp T.ra.length T.rb.length out
  c : ∀ p, T.dm p → (∃ d : Nat, cell out p = (d : Int) ∧ DistG T.nx G p d) ∨ (cell out p = -1 ∧ ∀ d, ¬ InG T.nx G d p)
def gP (T : Two) (asked : Int) (p : Int × Int) : Prop := gk asked (T.ru p).1 (T.ru p).2 = true
instance (T : Two) (asked : Int) (p : Int × Int) : Decidable (gP T asked p) := inferInstanceAs (Decidable (_ = true))
theorem far_row (hN : 4294967296 ≤ N) (hT : T.Ok) {asked : Int} (ha : asked = 0 ∨ asked = 1) {i : Nat} (hi : i < T.ra.length) :
    ∃ row, iterO N (fun s => F_dofferref21_Far_l1 N T.ua T.ub asked (i : Int) (List.replicate T.rb.length 0) s.1 s.2) (0, List.replicate T.rb.length 0) = some row ∧ row.length = T.rb.length ∧ ∀ j : Nat, j < T.rb.length → row[j]? = some (if gP T asked ((i : Int), (j : Int)) then 0 else -1) := by
  have hb2 := hT.hb.n2
  obtain ⟨r, h1, h2, h3⟩ := loop_inv (f := fun s => F_dofferref21_Far_l1 N T.ua T.ub asked (i : Int) (List.replicate T.rb.length 0) s.1 s.2) (fun j (s : List Int) => ((j : Int), s)) id (List.range T.rb.length)
    (fun j s => s.length = T.rb.length ∧ ∀ m : Nat, m < j → s[m]? = some (if gP T asked ((i : Int), (m : Int)) then 0 else -1)) (N := N) (s := List.replicate T.rb.length 0) (by simp; omega)
    ⟨by simp, fun m hm => by omega⟩
    (fun j x s hx hI => by
      obtain ⟨hj, rfl⟩ := range_get hx
      obtain ⟨k1, k2⟩ := hI
      have a1 : idx T.ua (i : Int) = some (T.ua.getD i 0) := (rule_at hT.ha (s := (i : Int)) (by omega)).1
      have a2 : idx T.ub (x : Int) = some (T.ub.getD x 0) := (rule_at hT.hb (s := (x : Int)) (by omega)).1
      have i1 : idx s (x : Int) = some (s[x]'(by omega)) := idx_nat (by omega)
      have s1 : setI s (x : Int) (-1) = some (s.set x (-1)) := setI_nat (by omega)
      have i2 : idx (s.set x (-1)) (x : Int) = some (-1) := idx_of (by rw [List.getElem?_set_self (by omega)])
      have s2 : setI (s.set x (-1)) (x : Int) 0 = some (s.set x 0) := by rw [setI_nat (by simp; omega), List.set_set]
      have hgk : (if gP T asked ((i : Int), (x : Int)) then (0 : Int) else -1) = if gk asked (T.ua.getD i 0) (T.ub.getD x 0) = true then 0 else -1 := rfl
      refine ⟨s.set x (if gP T asked ((i : Int), (x : Int)) then 0 else -1), ?_, by rw [List.length_set]; exact k1, fun m hm => ?_⟩
      · unfold F_dofferref21_Far_l1
        simp only [List.length_replicate, show ((x : Int) < (T.rb.length : Int)) by omega, decide_true, if_true, i1, s1, a1, a2, bind, Option.bind_some]
        rw [w64_succ (n := x) (by omega), hgk]
        generalize T.ua.getD i 0 = u
        generalize T.ub.getD x 0 = v
        unfold gk
        rcases ha with rfl | rfl
        · cases hb : u != v with
          | true => simp only [beq_self_eq_true, if_true, Option.bind_some, i2, s2]
          | false => simp
        · by_cases c1 : u ≥ 0
          · by_cases c2 : v ≥ 0 <;> simp [c1, c2, i2, s2]
          · simp [c1]
      · by_cases e : m = x
        · subst e; rw [List.getElem?_set_self (by omega)]
        · rw [List.getElem?_set_ne (by omega)]; exact k2 m (by omega))
    (fun s _ => by unfold F_dofferref21_Far_l1; simp)
  exact ⟨r, h1, h2, fun j hj => h3 j (by simpa using hj)⟩
theorem far_zero (hN : 4294967296 ≤ N) (hT : T.Ok) {asked : Int} (ha : asked = 0 ∨ asked = 1) :
    ∃ out, iterO N (fun s => F_dofferref21_Far_l0 N T.ra T.ua T.rb T.ub asked s.1 s.2) (0, []) = some out ∧ FarIs T (gP T asked) 0 out := by
  have ha2 := hT.ha.n2
  have hb2 := hT.hb.n2
  obtain ⟨out, h1, h2, h3, h4⟩ := loop_inv (f := fun s => F_dofferref21_Far_l0 N T.ra T.ua T.rb T.ub asked s.1 s.2) (fun i (s : List (List Int)) => ((i : Int), s)) id (List.range T.ra.length)
    (fun i s => s.length = i ∧ (∀ r ∈ s, r.length = T.rb.length) ∧ ∀ m j : Nat, m < i → j < T.rb.length → (s.getD m []).getD j 0 = (if gP T asked ((m : Int), (j : Int)) then 0 else -1)) (N := N) (s := []) (by simp; omega)
    ⟨rfl, fun r hr => by simp at hr, fun m j hm => by omega⟩
    (fun i x s hx hI => by
      obtain ⟨hi, rfl⟩ := range_get hx
      obtain ⟨k1, k2, k3⟩ := hI
      obtain ⟨row, r1, r2, r3⟩ := far_row hN hT ha hi
      refine ⟨s ++ [row], ?_, by simp [k1], fun r hr => ?_, fun m j hm hj => ?_⟩
      · unfold F_dofferref21_Far_l0
        simp only [show ((x : Int) < (T.ra.length : Int)) by omega, decide_true, if_true, bind]
        rw [mk_eq (by omega)]
        simp only [Option.bind_some]
        rw [r1]
        simp only [Option.bind_some]
        rw [app_eq (by simp; omega), w64_succ (n := x) (by omega)]
        rfl
      · rcases List.mem_append.1 hr with hr | hr
        · exact k2 r hr
        · simp at hr; subst hr; exact r2
      · by_cases e : m = x
        · subst e
          have : (s ++ [row]).getD m [] = row := by rw [List.getD, List.getElem?_append_right (by omega), k1, Nat.sub_self]; rfl
          rw [this, List.getD, r3 j hj]; rfl
        · have : (s ++ [row]).getD m [] = s.getD m [] := by rw [List.getD, List.getElem?_append_left (by omega)]; rfl
          rw [this]
          exact k3 m j (by omega) hj)
    (fun s _ => by unfold F_dofferref21_Far_l0; simp)
  simp only [List.length_range] at h2 h4
  refine ⟨out, h1, ⟨h2, h3⟩, fun p hp => ?_⟩
  have h5 := h4 p.1.toNat p.2.toNat (by have := hp.1; omega) (by have := hp.2; omega)
  rw [show ((p.1.toNat : Nat) : Int) = p.1 by have := hp.1; omega, show ((p.2.toNat : Nat) : Int) = p.2 by have := hp.2; omega] at h5
  by_cases hg : gP T asked p
  · left
    refine ⟨0, Nat.le_refl _, ?_, inG_zero.2 hg, fun j hj => by omega⟩
    show (out.getD p.1.toNat []).getD p.2.toNat 0 = _
    rw [h5, if_pos hg]; rfl
  · right
    refine ⟨?_, fun d hd h => ?_⟩
    · show (out.getD p.1.toNat []).getD p.2.toNat 0 = _
      rw [h5, if_neg hg]
    · obtain rfl : d = 0 := by omega
      exact hg (inG_zero.1 h)
end
end Go.Proofs.YtealkahefalaeaaGreatDoor
namespace Go.Proofs.YtealkahefalaeaaGreatDoor
open Go Go.Eng
set_option maxRecDepth 100000
section
variable {N : Nat} {T : Two} {G : Int × Int → Prop}
/-- a cell that this round gives its distance -/
def hit (T : Two) (was : List (List Int)) (k : Nat) (p : Int × Int) : Prop := cell was p < 0 ∧ ∃ c : Nat, c < 256 ∧ cell was (T.nx p (c : Int)) = (k : Int)
/-- amid a round: what has been gone through (D) is as it shall be, the rest as it was -/
structure Mid (T : Two) (was : List (List Int)) (k : Nat) (D : Int × Int → Prop) (fresh : Bool) (out : List (List Int)) : Prop where
  s : Shp T.ra.length T.rb.length out
  a : ∀ p, T.dm p → (D p ∧ hit T was k p ∧ cell out p = ((k + 1 : Nat) : Int)) ∨ (¬ (D p ∧ hit T was k p) ∧ cell out p = cell was p)
  f : fresh = true ↔ ∃ p, T.dm p ∧ D p ∧ hit T was k p
theorem Mid.low {was out : List (List Int)} {k : Nat} {D : Int × Int → Prop} {fresh : Bool} (h : Mid T was k D fresh out) {p : Int × Int} (hp : T.dm p) : cell out p = (k : Int) ↔ cell was p = (k : Int) := by
  rcases h.a p hp with ⟨_, h2, h3⟩ | ⟨_, h2⟩
  · have := h2.1
    rw [h3]
    constructor <;> intro e <;> omega
  · rw [h2]
theorem Mid.cg {was out : List (List Int)} {k : Nat} {D D' : Int × Int → Prop} {fresh : Bool} (h : Mid T was k D fresh out) (he : ∀ p, T.dm p → (D p ↔ D' p)) : Mid T was k D' fresh out := by
  refine ⟨h.s, fun p hp => ?_, ?_⟩
  · rw [← he p hp]; exact h.a p hp
  · rw [h.f]
    exact ⟨fun ⟨p, h1, h2, h3⟩ => ⟨p, h1, (he p h1).1 h2, h3⟩, fun ⟨p, h1, h2, h3⟩ => ⟨p, h1, (he p h1).2 h2, h3⟩⟩
/-- one cell -/
theorem far_cell (hN : 4294967296 ≤ N) (hT : T.Ok) {was out : List (List Int)} {k : Nat} (hk : k ≤ 100000) {D : Int × Int → Prop} {fresh : Bool} {i j : Nat} (hp : T.dm ((i : Int), (j : Int))) (hD : ¬ D ((i : Int), (j : Int))) (hm : Mid T was k D fresh out) :
    ∃ fresh' out', iterO N (fun s => F_dofferref21_Far_l5 N T.ra T.rb (((k + 1 : Nat) : Int)) (i : Int) (j : Int) s.1 s.2.1 s.2.2) (fresh, 0, out) = some (fresh', out') ∧ Mid T was k (fun p => D p ∨ p = ((i : Int), (j : Int))) fresh' out' := by
  generalize hpe : (((i : Int), (j : Int)) : Int × Int) = p at *
  have e1 : p.1 = (i : Int) := by rw [← hpe]
  have e2 : p.2 = (j : Int) := by rw [← hpe]
  obtain ⟨row, r1, r2, r3, r4⟩ := hm.s.at hp.1 hp.2
  rw [e1] at r1
  rw [e2] at r2
  have hco : cell out p = cell was p := by
    rcases hm.a p hp with ⟨h1, _⟩ | ⟨_, h2⟩
    · exact absurd h1 hD
    · exact h2
  have hw : w64 (((k + 1 : Nat) : Int) - 1) = (k : Int) := by rw [w64, wrap64] <;> omega
  have stp : ∀ c : Nat, c < 256 → cell out p < 0 → F_dofferref21_Far_l5 N T.ra T.rb (((k + 1 : Nat) : Int)) (i : Int) (j : Int) fresh (c : Int) out = some (.inl (if cell was (T.nx p (c : Int)) = (k : Int) then (true, ((c + 1 : Nat) : Int), put out p ((k + 1 : Nat) : Int)) else (fresh, ((c + 1 : Nat) : Int), out))) := by
    intro c hc hneg
    obtain ⟨x1, a1, _, a3, _⟩ := nxt_get hT.sa hp.1 (c := (c : Int)) ⟨by omega, by omega⟩
    obtain ⟨x2, b1, _, b3, _⟩ := nxt_get hT.sb hp.2 (c := (c : Int)) ⟨by omega, by omega⟩
    have hdn := hT.nx p (c : Int) hp ⟨by omega, by omega⟩
    obtain ⟨row2, q1, q2, _, _⟩ := hm.s.at hdn.1 hdn.2
    rw [e1] at a1
    rw [e2] at b1
    have hl := hm.low hdn
    have w1 : w64 ((c : Int) + 1) = ((c + 1 : Nat) : Int) := w64_succ (by omega)
    have hrl : j < row.length := by have := hm.s.r _ r3; have := hp.2; rw [e2] at this; omega
    have hol : i < out.length := by have := hm.s.l; have := hp.1; rw [e1] at this; omega
    unfold F_dofferref21_Far_l5
    simp only [show ((c : Int) < 256) by omega, decide_true, if_true, r1, r2, hneg, bind, Option.bind_some, a1, a3, b1, b3]
    have q1' : idx out (nxt T.ra p.1 (c : Int)) = some row2 := q1
    have q2' : idx row2 (nxt T.rb p.2 (c : Int)) = some (cell out (T.nx p (c : Int))) := q2
    simp only [q1', q2', Option.bind_some, hw, w1]
    by_cases hh : cell was (T.nx p (c : Int)) = (k : Int)
    · have : (cell out (T.nx p (c : Int)) == (k : Int)) = true := by rw [beq_iff_eq]; exact hl.2 hh
      simp only [this, if_true, setI_nat hrl, setI_nat hol, Option.bind_some, if_pos hh]
      have : put out p ((k + 1 : Nat) : Int) = out.set i (row.set j ((k + 1 : Nat) : Int)) := by
        unfold put; rw [← r4, e1, e2, Int.toNat_natCast, Int.toNat_natCast]
      rw [this]
    · have : (cell out (T.nx p (c : Int)) == (k : Int)) = false := by rw [beq_eq_false_iff_ne]; exact fun e => hh (hl.1 e)
      simp only [this, Bool.false_eq_true, if_false, Option.bind_some, if_neg hh]
  have nohit : ¬ hit T was k p → Mid T was k (fun q => D q ∨ q = p) fresh out := fun hn => by
    refine ⟨hm.s, fun q hq => ?_, ?_⟩
    · rcases hm.a q hq with ⟨h1, h2, h3⟩ | ⟨h1, h2⟩
      · exact .inl ⟨.inl h1, h2, h3⟩
      · refine .inr ⟨fun ⟨h3, h4⟩ => ?_, h2⟩
        rcases h3 with h3 | rfl
        · exact h1 ⟨h3, h4⟩
        · exact hn h4
    · rw [hm.f]
      refine ⟨fun ⟨q, h1, h2, h3⟩ => ⟨q, h1, .inl h2, h3⟩, fun ⟨q, h1, h2, h3⟩ => ?_⟩
      rcases h2 with h2 | rfl
      · exact ⟨q, h1, h2, h3⟩
      · exact absurd h3 hn
  have stop : ∀ (fr : Bool) (c : Int) (o : List (List Int)), (¬ (c < 256) ∨ (∃ row, idx o (i : Int) = some row ∧ ∃ x, idx row (j : Int) = some x ∧ ¬ x < 0)) → F_dofferref21_Far_l5 N T.ra T.rb (((k + 1 : Nat) : Int)) (i : Int) (j : Int) fr c o = some (.inr (fr, o)) := by
    intro fr c o h
    unfold F_dofferref21_Far_l5
    by_cases hc : c < 256
    · rcases h with h | ⟨row, h1, x, h2, h3⟩
      · exact absurd hc h
      · simp only [hc, decide_true, if_true, h1, h2, h3, decide_false, bind, Option.bind_some, Bool.false_eq_true, if_false]
    · simp only [hc, decide_false, Bool.false_eq_true, if_false, bind, Option.bind_some]
  by_cases hneg : cell out p < 0
  case neg =>
    refine ⟨fresh, out, ?_, nohit fun h => hneg (hco ▸ h.1)⟩
    exact iterO_for0 (fun _ => (fresh, (0 : Int), out)) 0 rfl (by omega) (fun i hi => by omega) (stop fresh 0 out (.inr ⟨row, r1, _, r2, hneg⟩))
  by_cases hex : ∃ c : Nat, c < 256 ∧ cell was (T.nx p (c : Int)) = (k : Int)
  case neg =>
    refine ⟨fresh, out, ?_, nohit fun h => hex h.2⟩
    refine iterO_for0 (fun c => (fresh, (c : Int), out)) 256 rfl (by omega) (fun c hc => ?_) (stop fresh _ out (.inl (by show ¬ ((256 : Nat) : Int) < 256; omega)))
    have := stp c hc hneg
    rw [if_neg (fun h => hex ⟨c, hc, h⟩)] at this
    exact this
  obtain ⟨c0, hc0, hh0⟩ := hex
  obtain ⟨c, hcle, ⟨hc, hh⟩, hmin⟩ := least (P := fun c => c < 256 ∧ cell was (T.nx p (c : Int)) = (k : Int)) ⟨hc0, hh0⟩
  have hpc : ∀ q : Int × Int, T.dm q → cell (put out p ((k + 1 : Nat) : Int)) q = if q = p then ((k + 1 : Nat) : Int) else cell out q := fun q hq => hm.s.pc hp.1 hp.2 hq.1.1 hq.2.1 _
  have hsp := hm.s.pu hp.1 ((k + 1 : Nat) : Int)
  obtain ⟨row', s1, s2, _, _⟩ := hsp.at hp.1 hp.2
  rw [hpc p hp, if_pos rfl] at s2
  rw [e1] at s1
  rw [e2] at s2
  refine ⟨true, put out p ((k + 1 : Nat) : Int), ?_, hsp, fun q hq => ?_, ?_⟩
  · refine iterO_for0 (fun m => if m ≤ c then (fresh, (m : Int), out) else (true, (m : Int), put out p ((k + 1 : Nat) : Int))) (c + 1) (by simp) (by omega) (fun m hm2 => ?_) ?_
    · rw [if_pos (by omega)]
      have := stp m (by omega) hneg
      by_cases hmc : m = c
      · subst hmc
        rw [if_pos hh] at this
        rw [if_neg (by omega)]
        exact this
      · rw [if_neg (fun h => hmin m (by omega) ⟨by omega, h⟩)] at this
        rw [if_pos (by omega)]
        exact this
    · rw [if_neg (by omega)]
      exact stop true _ _ (.inr ⟨row', s1, _, s2, by omega⟩)
  · have hit0 : hit T was k p := ⟨hco ▸ hneg, c, hc, hh⟩
    by_cases e : q = p
    · subst e
      exact .inl ⟨.inr rfl, hit0, by rw [hpc q hq, if_pos rfl]⟩
    · rw [hpc q hq, if_neg e]
      rcases hm.a q hq with ⟨h1, h2, h3⟩ | ⟨h1, h2⟩
      · exact .inl ⟨.inl h1, h2, h3⟩
      · refine .inr ⟨fun ⟨h3, h4⟩ => ?_, h2⟩
        rcases h3 with h3 | h3
        · exact h1 ⟨h3, h4⟩
        · exact e h3
  · simp only [true_iff]
    exact ⟨p, hp, .inr rfl, hco ▸ hneg, c, hc, hh⟩
/-- a round -/
theorem far_round (hN : 4294967296 ≤ N) (hT : T.Ok) {was : List (List Int)} {k : Nat} (hk : k ≤ 100000) (hs : Shp T.ra.length T.rb.length was) :
    ∃ fresh out, iterO N (fun s => F_dofferref21_Far_l3 N T.ra T.rb (((k + 1 : Nat) : Int)) s.1 s.2.1 s.2.2) (false, was, 0) = some (fresh, out) ∧ Mid T was k (fun _ => True) fresh out := by
  have ha2 := hT.ha.n2
  have hb2 := hT.hb.n2
  obtain ⟨r, h1, h2⟩ := loop_inv (f := fun s => F_dofferref21_Far_l3 N T.ra T.rb (((k + 1 : Nat) : Int)) s.1 s.2.1 s.2.2) (fun i (s : Bool × List (List Int)) => (s.1, s.2, (i : Int))) id (List.range T.ra.length)
    (fun i s => Mid T was k (fun p => p.1 < (i : Int)) s.1 s.2) (N := N) (s := (false, was)) (by simp; omega)
    ⟨hs, fun p hp => .inr ⟨fun h => by have h1 : p.1 < ((0 : Nat) : Int) := h.1; have := hp.1; omega, rfl⟩, by simp only [Bool.false_eq_true, false_iff]; rintro ⟨p, hp, h, _⟩; have h1 : p.1 < ((0 : Nat) : Int) := h; have := hp.1; omega⟩
    (fun i x s hx hI => by
      obtain ⟨hi, rfl⟩ := range_get hx
      obtain ⟨r, g1, g2⟩ := loop_inv (f := fun s => F_dofferref21_Far_l4 N T.ra T.rb (((k + 1 : Nat) : Int)) (x : Int) s.1 s.2.1 s.2.2) (fun j (s : Bool × List (List Int)) => (s.1, s.2, (j : Int))) id (List.range T.rb.length)
        (fun j s => Mid T was k (fun p => p.1 < (x : Int) ∨ p.1 = (x : Int) ∧ p.2 < (j : Int)) s.1 s.2) (N := N) (s := s) (by simp; omega)
        (hI.cg fun p hp => by have := hp.2; constructor <;> intro h <;> omega)
        (fun j y s hy hJ => by
          obtain ⟨hj, rfl⟩ := range_get hy
          obtain ⟨fr, out, q1, q2⟩ := far_cell hN hT hk (i := x) (j := y) ⟨⟨by simp only; omega, by simp only; omega⟩, ⟨by simp only; omega, by simp only; omega⟩⟩ (by simp only; omega) hJ
          refine ⟨(fr, out), ?_, q2.cg fun p hp => ?_⟩
          · unfold F_dofferref21_Far_l4
            simp only [show ((y : Int) < (T.rb.length : Int)) by omega, decide_true, if_true, bind]
            rw [q1]
            simp only [Option.bind_some]
            rw [w64_succ (n := y) (by omega)]
          · constructor
            · rintro (h | h)
              · omega
              · have a1 : p.1 = (x : Int) := by rw [h]
                have a2 : p.2 = (y : Int) := by rw [h]
                omega
            · intro h
              by_cases e : p.1 = (x : Int) ∧ p.2 = (y : Int)
              · exact .inr (Prod.ext e.1 e.2)
              · exact .inl (by omega))
        (fun s _ => by unfold F_dofferref21_Far_l4; simp)
      refine ⟨r, ?_, g2.cg fun p hp => ?_⟩
      · unfold F_dofferref21_Far_l3
        simp only [show ((x : Int) < (T.ra.length : Int)) by omega, decide_true, if_true, bind]
        rw [show iterO N (fun s => F_dofferref21_Far_l4 N T.ra T.rb (((k + 1 : Nat) : Int)) (x : Int) s.1 s.2.1 s.2.2) (s.1, s.2, 0) = _ from g1]
        simp only [Option.bind_some, id]
        rw [w64_succ (n := x) (by omega)]
      · have := hp.2
        simp only [List.length_range]
        constructor <;> intro h <;> omega)
    (fun s _ => by unfold F_dofferref21_Far_l3; simp)
  refine ⟨r.1, r.2, h1, h2.cg fun p hp => ?_⟩
  have := hp.1
  simp only [List.length_range, iff_true]
  omega
theorem far_next (hT : T.Ok) {was out : List (List Int)} {k : Nat} {fresh : Bool} (hF : FarIs T G k was) (hm : Mid T was k (fun _ => True) fresh out) :
    FarIs T G (k + 1) out ∧ (fresh = true → ∃ p, T.dm p ∧ DistG T.nx G p (k + 1)) ∧ (fresh = false → FarAll T G out) := by
  have hitD : ∀ p, T.dm p → hit T was k p → DistG T.nx G p (k + 1) := fun p hp h => by
    obtain ⟨hn, c, hc, hh⟩ := h
    rcases hF.c p hp with ⟨d, _, h2, _⟩ | ⟨_, h2⟩
    · omega
    · refine ⟨inG_succ.2 ⟨(c : Int), ⟨by omega, by omega⟩, ?_⟩, fun j hj => h2 j (by omega)⟩
      rcases hF.c _ (hT.nx p c hp ⟨by omega, by omega⟩) with ⟨d, e1, e2, e3⟩ | ⟨e1, e2⟩
      · obtain rfl : d = k := by omega
        exact e3.1
      · omega
  have noH : ∀ p, T.dm p → cell was p = -1 → ¬ hit T was k p → ¬ InG T.nx G (k + 1) p := fun p hp hw hn hi => by
    obtain ⟨c, hc, hi⟩ := inG_succ.1 hi
    have hdn := hT.nx p c hp hc
    rcases hF.c p hp with ⟨d, _, h2, _⟩ | ⟨_, h2⟩
    · omega
    rcases hF.c _ hdn with ⟨d, e1, e2, e3⟩ | ⟨e1, e2⟩
    · by_cases hd : d = k
      · subst hd
        exact hn ⟨by omega, c.toNat, by omega, by rw [show ((c.toNat : Nat) : Int) = c by omega]; exact e2⟩
      · exact h2 (d + 1) (by omega) (inG_succ.2 ⟨c, hc, e3.1⟩)
    · exact e2 k (Nat.le_refl _) hi
  refine ⟨⟨hm.s, fun p hp => ?_⟩, fun hf => ?_, fun hf => ⟨hm.s, fun p hp => ?_⟩⟩
  · rcases hm.a p hp with ⟨_, h2, h3⟩ | ⟨h1, h2⟩
    · exact .inl ⟨k + 1, Nat.le_refl _, h3, hitD p hp h2⟩
    · rw [h2]
      rcases hF.c p hp with ⟨d, e1, e2, e3⟩ | ⟨e1, e2⟩
      · exact .inl ⟨d, by omega, e2, e3⟩
      · refine .inr ⟨e1, fun d hd hi => ?_⟩
        by_cases hdk : d = k + 1
        · subst hdk; exact noH p hp e1 (fun h => h1 ⟨trivial, h⟩) hi
        · exact e2 d (by omega) hi
  · obtain ⟨p, hp, _, h⟩ := hm.f.1 hf
    exact ⟨p, hp, hitD p hp h⟩
  · have hno : ∀ q, T.dm q → ¬ hit T was k q := fun q hq h => by
      have := hm.f.2 ⟨q, hq, trivial, h⟩
      rw [hf] at this; cases this
    rcases hm.a p hp with ⟨_, h2, _⟩ | ⟨_, h2⟩
    · exact absurd h2 (hno p hp)
    · rw [h2]
      rcases hF.c p hp with ⟨d, e1, e2, e3⟩ | ⟨e1, e2⟩
      · exact .inl ⟨d, e2, e3⟩
      · refine .inr ⟨e1, fun d hi => ?_⟩
        obtain ⟨d0, hd0, hD⟩ := inG_dist hi
        by_cases hle : d0 ≤ k
        · exact e2 d0 hle hD.1
        · obtain ⟨y, hy, hyd⟩ := distG_below hT.nx hp hD (k := k + 1) (by omega)
          rcases hF.c y hy with ⟨d, f1, f2, f3⟩ | ⟨f1, f2⟩
          · have := f3.uniq hyd; omega
          · exact noH y hy f1 (hno y hy) hyd.1
theorem far_spec (hN : 4294967296 ≤ N) (hT : T.Ok) {asked : Int} (ha : asked = 0 ∨ asked = 1) : ∃ out, F_dofferref21_Far N T.ra T.ua T.ea T.rb T.ub T.eb asked = some out ∧ FarAll T (gP T asked) out := by
  obtain ⟨o0, h1, h2⟩ := far_zero hN hT ha
  obtain ⟨r, h3, h4⟩ := iterO_while (f := fun s => F_dofferref21_Far_l2 N T.ra T.rb s.1 s.2) (fun s => ∃ k : Nat, s.1 = ((k + 1 : Nat) : Int) ∧ k ≤ 40000 ∧ FarIs T (gP T asked) k s.2) (fun s => 40003 - s.1.toNat) (fun r => FarAll T (gP T asked) r)
    (fun s hI => by
      obtain ⟨l, was⟩ := s
      obtain ⟨k, e1, hk, hF⟩ := hI
      simp only at e1 hF
      subst e1
      obtain ⟨fresh, out, q1, q2⟩ := far_round hN hT (was := was) (k := k) (by omega) hF.s
      obtain ⟨g1, g2, g3⟩ := far_next hT hF q2
      unfold F_dofferref21_Far_l2
      simp only [bind]
      rw [q1]
      simp only [Option.bind_some]
      cases fresh with
      | false => exact .inr ⟨out, by simp, g3 rfl⟩
      | true =>
        obtain ⟨p, hp, hpd⟩ := g2 rfl
        obtain ⟨l, l1, l2, l3⟩ := distG_chain hT.nx hp hpd
        have := hT.len l2 (fun y hy => (l3 y hy).1)
        refine .inl ⟨(((k + 1 + 1 : Nat) : Int), out), ?_, ⟨k + 1, rfl, by omega, g1⟩, by simp only; omega⟩
        simp only [Bool.not_true, Bool.false_eq_true, if_false]
        rw [w64_succ (n := k + 1) (by omega)]) (N := N) (s := (1, o0)) ⟨0, rfl, by omega, h2⟩ (by simp; omega)
  refine ⟨r, ?_, h4⟩
  unfold F_dofferref21_Far
  rw [h1]
  exact h3
end
end Go.Proofs.YtealkahefalaeaaGreatDoor
namespace Go.Proofs.YtealkahefalaeaaGreatDoor
open Go Go.Eng
set_option maxRecDepth 100000
section
variable {N : Nat} {T : Two} {G : Int × Int → Prop}
theorem refEntry_spec {rows : List (List Int)} {rule entry : List Int} (cond : Int) : F_dofferref21_entry N rows rule entry cond = some (beg entry cond) := by
  unfold F_dofferref21_entry beg
  by_cases h1 : cond < 0
  · have : ¬ (0 ≤ cond ∧ cond < (entry.length : Int)) := by omega
    simp [h1, this]
  by_cases h2 : cond ≥ (entry.length : Int)
  · have : ¬ (0 ≤ cond ∧ cond < (entry.length : Int)) := by omega
    simp [h1, h2, this]
  · have h3 : 0 ≤ cond ∧ cond < (entry.length : Int) := by omega
    have hl : cond.toNat < entry.length := by omega
    rw [if_pos h3, List.getD, List.getElem?_eq_getElem hl]
    simp only [h1, h2, decide_false, Bool.false_eq_true, if_false, bind, Option.bind_some, idx_int h3.1 hl]
    rfl
/-- a step down -/
theorem way_step (hN : 4294967296 ≤ N) (hT : T.Ok) {out : List (List Int)} (hF : FarAll T G out) {p : Int × Int} (hp : T.dm p) {o : List Int} (ho : o.length ≤ 100000) {m : Nat} (hd : DistG T.nx G p (m + 1)) :
    ∃ c : Nat, c < 256 ∧ DistG T.nx G (T.nx p (c : Int)) m ∧ (∀ d : Nat, d < c → ¬ DistG T.nx G (T.nx p (d : Int)) m) ∧ iterO N (fun s => F_dofferref21_Way_l1 N T.ra T.rb out p.1 p.2 o s) 0 = some ((T.nx p (c : Int)).1, (T.nx p (c : Int)).2, o ++ [(c : Int)]) := by
  have at_ : ∀ q, T.dm q → ∀ d : Nat, DistG T.nx G q d → cell out q = (d : Int) := fun q hq d h => by
    rcases hF.c q hq with ⟨e, e1, e2⟩ | ⟨e1, e2⟩
    · rw [e1, e2.uniq h]
    · exact absurd h.1 (e2 d)
  have of_ : ∀ q, T.dm q → ∀ d : Nat, cell out q = (d : Int) → DistG T.nx G q d := fun q hq d h => by
    rcases hF.c q hq with ⟨e, e1, e2⟩ | ⟨e1, e2⟩
    · obtain rfl : e = d := by omega
      exact e2
    · omega
  have hml : m + 1 ≤ 40000 := by
    obtain ⟨l, l1, l2, l3⟩ := distG_chain hT.nx hp hd
    have := hT.len l2 (fun y hy => (l3 y hy).1)
    omega
  obtain ⟨c0, hc0, hd0⟩ := distG_step hd
  obtain ⟨c, hcle, ⟨hc, hh⟩, hmin⟩ := least (P := fun c => c < 256 ∧ DistG T.nx G (T.nx p (c : Int)) m) (n := c0.toNat) ⟨by omega, by rw [show ((c0.toNat : Nat) : Int) = c0 by omega]; exact hd0⟩
  refine ⟨c, hc, hh, fun d hdc h => hmin d hdc ⟨by omega, h⟩, ?_⟩
  obtain ⟨row, r1, r2, _, _⟩ := hF.s.at hp.1 hp.2
  rw [at_ p hp _ hd] at r2
  have hw : w64 (((m + 1 : Nat) : Int) - 1) = (m : Int) := by rw [w64, wrap64] <;> omega
  have stp : ∀ i : Nat, i < 256 → F_dofferref21_Way_l1 N T.ra T.rb out p.1 p.2 o (i : Int) = if cell out (T.nx p (i : Int)) = (m : Int) then some (.inr ((T.nx p (i : Int)).1, (T.nx p (i : Int)).2, o ++ [(i : Int)])) else some (.inl ((i + 1 : Nat) : Int)) := by
    intro i hi
    obtain ⟨x1, a1, _, a3, _⟩ := nxt_get hT.sa hp.1 (c := (i : Int)) ⟨by omega, by omega⟩
    obtain ⟨x2, b1, _, b3, _⟩ := nxt_get hT.sb hp.2 (c := (i : Int)) ⟨by omega, by omega⟩
    have hdn := hT.nx p (i : Int) hp ⟨by omega, by omega⟩
    obtain ⟨row2, q1, q2, _, _⟩ := hF.s.at hdn.1 hdn.2
    have q1' : idx out (nxt T.ra p.1 (i : Int)) = some row2 := q1
    have q2' : idx row2 (nxt T.rb p.2 (i : Int)) = some (cell out (T.nx p (i : Int))) := q2
    unfold F_dofferref21_Way_l1
    simp only [show ((i : Int) < 256) by omega, decide_true, if_true, a1, a3, b1, b3, q1', q2', r1, r2, hw, bind, Option.bind_some]
    rw [w64_succ (n := i) (by omega), wrap8 hi, app_eq (by simp; omega)]
    by_cases he : cell out (T.nx p (i : Int)) = (m : Int)
    · have : (cell out (T.nx p (i : Int)) == (m : Int)) = true := by rw [beq_iff_eq]; exact he
      rw [if_pos he]
      simp only [this, if_true, Option.bind_some]
      rfl
    · have : (cell out (T.nx p (i : Int)) == (m : Int)) = false := by rw [beq_eq_false_iff_ne]; exact he
      rw [if_neg he]
      simp only [this, Bool.false_eq_true, if_false]
  refine iterO_for0 (fun i => (i : Int)) c rfl (by omega) (fun i hi => ?_) ?_
  · rw [stp i (by omega), if_neg]
    exact fun e => hmin i hi ⟨by omega, of_ _ (hT.nx p i hp ⟨by omega, by omega⟩) m e⟩
  · rw [stp c hc, if_pos (at_ _ (hT.nx p c hp ⟨by omega, by omega⟩) m hh)]
/-- what the document says of a condition -/
def WayIs (T : Two) (G : Int × Int → Prop) (s0 : Int × Int) (r : List Int × Int × Int × Bool) : Prop :=
  (r = ([], 0, 0, false) ∧ ∀ u, ¬ LG T.nx G s0 u) ∨ ∃ t, r = (t, (T.ru (t.foldl T.nx s0)).1, (T.ru (t.foldl T.nx s0)).2, true) ∧ BestG T.nx G s0 t
theorem way_spec (hN : 4294967296 ≤ N) (hT : T.Ok) {asked : Int} (ha : asked = 0 ∨ asked = 1) (cond : Int) : ∃ r, F_dofferref21_Way N T.ra T.ua T.ea T.rb T.ub T.eb cond asked = some r ∧ WayIs T (gP T asked) (T.bg cond) r := by
  obtain ⟨out, h1, hF⟩ := far_spec hN hT ha
  have hb := hT.bg cond
  obtain ⟨row, r1, r2, _, _⟩ := hF.s.at hb.1 hb.2
  have r1' : idx out (beg T.ea cond) = some row := r1
  have r2' : idx row (beg T.eb cond) = some (cell out (T.bg cond)) := r2
  unfold F_dofferref21_Way
  simp only [h1, refEntry_spec, r1', r2', bind, Option.bind_some]
  rcases hF.c _ hb with ⟨D, e1, hD⟩ | ⟨e1, e2⟩
  · have : ¬ cell out (T.bg cond) < 0 := by omega
    simp only [this, decide_false, Bool.false_eq_true, if_false]
    have hDl : D ≤ 40000 := by
      obtain ⟨l, l1, l2, l3⟩ := distG_chain hT.nx hb hD
      have := hT.len l2 (fun y hy => (l3 y hy).1)
      omega
    obtain ⟨r, h3, h4⟩ := iterO_while (f := fun s : Int × Int × List Int => F_dofferref21_Way_l0 N T.ra T.rb out s.1 s.2.1 s.2.2) (fun s => T.dm (s.1, s.2.1) ∧ DescG T.nx (gP T asked) (T.bg cond) D (s.1, s.2.1) s.2.2) (fun s => D - s.2.2.length)
      (fun r => T.dm (r.1, r.2.1) ∧ (r.1, r.2.1) = r.2.2.foldl T.nx (T.bg cond) ∧ BestG T.nx (gP T asked) (T.bg cond) r.2.2)
      (fun s hI => by
        obtain ⟨x, y, o⟩ := s
        obtain ⟨hp, hd⟩ := hI
        simp only at hp hd
        obtain ⟨row, g1, g2, _, _⟩ := hF.s.at hp.1 hp.2
        have hc : cell out (x, y) = ((D - o.length : Nat) : Int) := by
          rcases hF.c _ hp with ⟨e, f1, f2⟩ | ⟨f1, f2⟩
          · rw [f1, f2.uniq hd.d]
          · exact absurd hd.d.1 (f2 _)
        rw [hc] at g2
        unfold F_dofferref21_Way_l0
        simp only [g1, g2, bind, Option.bind_some]
        by_cases hl : o.length < D
        · have hd2 := hd.d
          rw [show D - o.length = (D - (o.length + 1)) + 1 by omega] at hd2
          obtain ⟨c, c1, c2, c3, c4⟩ := way_step hN hT hF hp (o := o) (by omega) hd2
          have hgt : ((D - o.length : Nat) : Int) > 0 := by omega
          simp only [hgt, decide_true, if_true]
          refine .inl ⟨((T.nx (x, y) (c : Int)).1, (T.nx (x, y) (c : Int)).2, o ++ [(c : Int)]), ?_, ⟨hT.nx _ _ hp ⟨by omega, by omega⟩, hd.next hl c1 c2 c3⟩, by simp; omega⟩
          rw [show iterO N (fun s => F_dofferref21_Way_l1 N T.ra T.rb out x y o s) 0 = _ from c4]
          rfl
        · have hgt : ¬ ((D - o.length : Nat) : Int) > 0 := by omega
          have hle := hd.l
          simp only [hgt, decide_false, Bool.false_eq_true, if_false]
          exact .inr ⟨(x, y, o), rfl, hp, hd.f.symm, (hd.done hD (by omega)).1⟩) (N := N) (s := (beg T.ea cond, beg T.eb cond, [])) ⟨hb, DescG.start hD⟩ (by simp; omega)
    obtain ⟨x, y, o⟩ := r
    obtain ⟨k1, k2, k3⟩ := h4
    simp only at k1 k2 k3
    rw [h3]
    simp only [Option.bind_some, (rule_at hT.ha k1.1).1, (rule_at hT.hb k1.2).1]
    exact ⟨_, rfl, .inr ⟨o, by rw [← k2]; rfl, k3⟩⟩
  · have : cell out (T.bg cond) < 0 := by omega
    simp only [this, decide_true, if_true]
    exact ⟨_, rfl, .inl ⟨rfl, fun u hu => e2 u.length ⟨u, hu, rfl⟩⟩⟩
theorem WayIs.of_best {s0 : Int × Int} {r : List Int × Int × Int × Bool} {t : List Int} (h : WayIs T G s0 r) (hb : BestG T.nx G s0 t) : r = (t, (T.ru (t.foldl T.nx s0)).1, (T.ru (t.foldl T.nx s0)).2, true) := by
  rcases h with ⟨_, h2⟩ | ⟨t', h1, h2⟩
  · exact absurd hb.1 (h2 t)
  · rw [h1, h2.uniq hb]
theorem WayIs.of_none {s0 : Int × Int} {r : List Int × Int × Int × Bool} (h : WayIs T G s0 r) (hb : ∀ u, ¬ LG T.nx G s0 u) : r = ([], 0, 0, false) := by
  rcases h with ⟨h1, _⟩ | ⟨t', _, h2⟩
  · exact h1
  · exact absurd h2.1 (hb _)
/-- the first condition where two DFAs differ, and how -/
inductive First (T : Two) (n : Nat) : Option (Nat × List Int) → Prop
  | none : (∀ c : Nat, c < n → ∀ u, ¬ LG T.nx (gP T 0) (T.bg (c : Int)) u) → First T n none
  | some (c : Nat) (t : List Int) : c < n → (∀ d : Nat, d < c → ∀ u, ¬ LG T.nx (gP T 0) (T.bg (d : Int)) u) → BestG T.nx (gP T 0) (T.bg (c : Int)) t → First T n (some (c, t))
theorem First.uniq {n : Nat} {a b : Option (Nat × List Int)} (h : First T n a) (h' : First T n b) : a = b := by
  cases h with
  | none h1 =>
    cases h' with
    | none _ => rfl
    | some c t h2 h3 h4 => exact absurd h4.1 (h1 c h2 t)
  | some c t h2 h3 h4 =>
    cases h' with
    | none h1 => exact absurd h4.1 (h1 c h2 t)
    | some d u k2 k3 k4 =>
      rcases Nat.lt_trichotomy c d with hl | he | hl
      · exact absurd h4.1 (k3 c hl t)
      · subst he; rw [h4.uniq k4]
      · exact absurd k4.1 (h3 d hl u)
/-- what Differ answers -/
def dif (T : Two) : Option (Nat × List Int) → Unit ⊕ (Int × List Int × Int × Int)
  | none => .inl ()
  | some (c, t) => .inr ((c : Int), t, (T.ru (t.foldl T.nx (T.bg (c : Int)))).1, (T.ru (t.foldl T.nx (T.bg (c : Int)))).2)
theorem imax_nat (a b : Nat) : imax (a : Int) (b : Int) = ((max a b : Nat) : Int) := by
  unfold imax
  split <;> omega
theorem right2_spec (hN : 4294967296 ≤ N) (sa : Sz T.ra T.ua T.ea) (sb : Sz T.rb T.ub T.eb) : ∃ b, F_product_two_right N T.ra T.ua T.ea T.rb T.ub T.eb = some b ∧ (b = true ↔ T.Ok) := by
  unfold F_product_two_right
  by_cases h1 : Rt T.ra T.ua T.ea
  · by_cases h2 : Rt T.rb T.ub T.eb
    · exact ⟨true, by simp [right_t hN sa h1, right_t hN sb h2], by simp; exact ⟨sa, h1, sb, h2⟩⟩
    · exact ⟨false, by simp [right_t hN sa h1, right_f hN sb h2], by simp; exact fun h => h2 h.hb⟩
  · exact ⟨false, by simp [right_f hN sa h1], by simp; exact fun h => h1 h.ha⟩
theorem right2_t (hN : 4294967296 ≤ N) (hT : T.Ok) : F_product_two_right N T.ra T.ua T.ea T.rb T.ub T.eb = some true := by
  obtain ⟨b, h1, h2⟩ := right2_spec hN hT.sa hT.sb
  rw [h2.2 hT] at h1; exact h1
theorem right2_f (hN : 4294967296 ≤ N) (sa : Sz T.ra T.ua T.ea) (sb : Sz T.rb T.ub T.eb) (h : ¬ T.Ok) : F_product_two_right N T.ra T.ua T.ea T.rb T.ub T.eb = some false := by
  obtain ⟨b, h1, h2⟩ := right2_spec hN sa sb
  cases b with
  | false => exact h1
  | true => exact absurd (h2.1 rfl) h
theorem differ_spec (hN : 4294967296 ≤ N) (hT : T.Ok) : ∃ z, First T (max T.ea.length T.eb.length) z ∧ F_product_Differ N T.ra T.ua T.ea T.rb T.ub T.eb = some (dif T z) := by
  have hea := hT.ha.e2
  have heb := hT.hb.e2
  unfold F_product_Differ
  simp only [right2_t hN hT, bind, Option.bind_some, Bool.not_true, Bool.false_eq_true, if_false]
  obtain ⟨r, h1, h2⟩ := iterO_while (f := fun s => F_product_Differ_l0 N T.ra T.ua T.ea T.rb T.ub T.eb s) (fun s => ∃ c : Nat, s = (c : Int) ∧ c ≤ max T.ea.length T.eb.length ∧ ∀ d : Nat, d < c → ∀ u, ¬ LG T.nx (gP T 0) (T.bg (d : Int)) u) (fun s => 10 - s.toNat)
    (fun r => (r = .inl () ∧ First T (max T.ea.length T.eb.length) none) ∨ ∃ (c : Nat) (t : List Int), r = .inr (.inr ((c : Int), t, (T.ru (t.foldl T.nx (T.bg (c : Int)))).1, (T.ru (t.foldl T.nx (T.bg (c : Int)))).2)) ∧ First T (max T.ea.length T.eb.length) (some (c, t)))
    (fun s hI => by
      obtain ⟨c, rfl, hc, hno⟩ := hI
      unfold F_product_Differ_l0
      rw [imax_nat]
      by_cases hl : c < max T.ea.length T.eb.length
      · obtain ⟨z, z1, z2⟩ := differ_find (N := N) hN hT (c : Int)
        simp only [show ((c : Int) < ((max T.ea.length T.eb.length : Nat) : Int)) by omega, decide_true, if_true, z1, bind, Option.bind_some]
        cases z with
        | inl z =>
          obtain ⟨p, q, t⟩ := z
          obtain ⟨k1, k2, k3⟩ := z2
          have k4 := rules2_spec (N := N) hT k3
          simp only at k4
          simp only [k4, Option.bind_some]
          exact .inr ⟨_, rfl, .inr ⟨c, t, by rw [← k2], .some c t hl hno k1⟩⟩
        | inr z =>
          simp only
          rw [w64_succ (n := c) (by omega)]
          refine .inl ⟨((c + 1 : Nat) : Int), rfl, ⟨c + 1, rfl, by omega, fun d hd => ?_⟩, by omega⟩
          by_cases e : d = c
          · subst e; exact z2
          · exact hno d (by omega)
      · simp only [show ¬ ((c : Int) < ((max T.ea.length T.eb.length : Nat) : Int)) by omega, decide_false, Bool.false_eq_true, if_false]
        exact .inr ⟨_, rfl, .inl ⟨rfl, .none fun d hd => hno d (by omega)⟩⟩) (N := N) (s := 0) ⟨0, rfl, by omega, fun d hd => by omega⟩ (by simp; omega)
  rw [h1]
  rcases h2 with ⟨rfl, h2⟩ | ⟨c, t, rfl, h2⟩
  · exact ⟨none, h2, rfl⟩
  · exact ⟨some (c, t), h2, rfl⟩
end
end Go.Proofs.YtealkahefalaeaaGreatDoor
namespace Go.Proofs.YtealkahefalaeaaGreatDoor
open Go Go.Eng
set_option maxRecDepth 100000
/-- the chapter's example -/
def exT : Two := ⟨md0r, md0l, md0m, md1r, md1l, md1m⟩
theorem ex_a : Sz md0r md0l md0m ∧ Rt md0r md0l md0m :=
  ⟨⟨of_decide_eq_true (by kernel_rfl), by decide, by decide, by decide⟩, ⟨by decide, by decide, by decide, by decide, by decide, of_decide_eq_true (by kernel_rfl), by decide, by decide, by kernel_rfl, by decide⟩⟩
theorem ex_b : Sz md1r md1l md1m ∧ Rt md1r md1l md1m :=
  ⟨⟨of_decide_eq_true (by kernel_rfl), by decide, by decide, by decide⟩, ⟨by decide, by decide, by decide, by decide, by decide, of_decide_eq_true (by kernel_rfl), by decide, by decide, by kernel_rfl, by decide⟩⟩
theorem ex_ok : exT.Ok := ⟨ex_a.1, ex_a.2, ex_b.1, ex_b.2⟩
theorem ex_best : BestG exT.nx (gP exT 0) (exT.bg ((0 : Nat) : Int)) [97] := by
  refine ⟨⟨fun c hc => by simp at hc; omega, of_decide_eq_true (by kernel_rfl)⟩, fun u hu => ?_⟩
  have k97 : key [97] = 98 := by decide
  rw [k97]
  match u, hu with
  | [], hu => exact absurd hu.2 (of_decide_eq_true (by kernel_rfl : decide (¬ gP exT 0 (exT.bg ((0 : Nat) : Int))) = true))
  | [c], hu =>
    have hc := hu.1 c (by simp)
    have e : key [c] = c.toNat + 1 := by simp [key]
    rw [e]
    refine Nat.succ_le_succ (Nat.le_of_not_lt fun hlt => ?_)
    have hall : ∀ d ∈ List.range 97, ¬ gP exT 0 (exT.nx (exT.bg ((0 : Nat) : Int)) (d : Int)) := of_decide_eq_true (by kernel_rfl)
    have := hall c.toNat (by simpa using hlt)
    rw [show ((c.toNat : Nat) : Int) = c by omega] at this
    exact this hu.2
  | a :: b :: v, hu =>
    have h2 := (key_bound hu.1).2 (by simp)
    have h3 : (257 : Nat) ^ 1 ≤ 257 ^ ((a :: b :: v).length - 1) := Nat.pow_le_pow_right (by omega) (by simp)
    omega
theorem ex_differ {N : Nat} (hN : 4294967296 ≤ N) : F_product_Differ N md0r md0l md0m md1r md1l md1m = some (.inr (0, [97], 0, -1)) := by
  obtain ⟨z, h1, h2⟩ := differ_spec hN ex_ok
  have : z = some (0, [97]) := h1.uniq (.some 0 [97] (by decide) (fun d hd => by omega) ex_best)
  subst this
  rw [show F_product_Differ N md0r md0l md0m md1r md1l md1m = _ from h2]
  congr 1
theorem alive21 {N : Nat} (hN : 4294967296 ≤ N) : F_dofferlaw21_alive N = some true := by
  unfold F_dofferlaw21_alive
  simp only [ex_differ hN, bind, Option.bind_some, beq_self_eq_true, if_true]
  rw [show bstr [97] = (⟨#[97]⟩ : ByteArray) from rfl]
  simp
theorem ofAny {N : Nat} {rows : List (List Int)} {rule entry : List Int} {m : Int} (hN : 4294967296 ≤ N) (hm : m < 4294967296) (hw : ∀ r ∈ rows, r.length = 256) :
    F_dofferlaw17_Of N rows rule entry m = some (if (rows.length : Int) > m ∨ (rule.length : Int) > m ∨ (entry.length : Int) > 20 then ([], false) else (rows, true)) := by
  by_cases h : (rows.length : Int) > m ∨ (rule.length : Int) > m ∨ (entry.length : Int) > 20
  · rw [if_pos h]
    unfold F_dofferlaw17_Of
    by_cases a1 : (rows.length : Int) > m
    · simp [a1]
    by_cases a2 : (rule.length : Int) > m
    · simp [a1, a2]
    by_cases a3 : (entry.length : Int) > 20
    · simp [a1, a2, a3]
    · exact absurd h (by simp [a1, a2, a3])
  · exact of_spec hN ⟨hw, by omega, by omega, by omega⟩
end Go.Proofs.YtealkahefalaeaaGreatDoor
namespace Go.Proofs.YtealkahefalaeaaGreatDoor
open Go Go.Eng
set_option maxRecDepth 100000
abbrev Pr := Int × Int
def zp (p : Pr) : Pr := if p.1 = 0 ∨ p.2 = 0 then (0, 0) else p
def addp (L : List Pr) (p : Pr) : List Pr := if zp p ∈ L then L else L ++ [zp p]
def pos (L : List Pr) (p : Pr) : Int := (L.idxOf (zp p) : Int)
def nmb (L : List Pr) : List (Pr × Int) := L.zipIdx.map fun x => (x.1, (x.2 : Int))
theorem zp_zp (p : Pr) : zp (zp p) = zp p := by
  unfold zp
  by_cases h : p.1 = 0 ∨ p.2 = 0
  · simp [h]
  · simp only [if_neg h]
theorem addp_mem (L : List Pr) (p : Pr) : zp p ∈ addp L p := by
  unfold addp
  split
  · assumption
  · simp
theorem addp_pre (L : List Pr) (p : Pr) : L <+: addp L p := by
  unfold addp
  split
  · exact List.prefix_refl _
  · exact List.prefix_append _ _
theorem idxOf_pre {L M : List Pr} (h : L <+: M) {p : Pr} (hp : p ∈ L) : M.idxOf p = L.idxOf p := by
  obtain ⟨t, rfl⟩ := h
  rw [List.idxOf_append, if_pos hp]
theorem pos_pre {L M : List Pr} (h : L <+: M) {p : Pr} (hp : zp p ∈ L) : pos M p = pos L p := by
  unfold pos; rw [idxOf_pre h hp]
theorem nmb_go (q : Pr) : ∀ (L : List Pr) (k : Nat), ((L.zipIdx k).map fun x => (x.1, (x.2 : Int))).find? (fun e => e.1 == q) = if q ∈ L then some (q, ((k + L.idxOf q : Nat) : Int)) else none
  | [], k => rfl
  | p :: L, k => by
    rw [List.zipIdx_cons, List.map_cons, List.find?_cons]
    by_cases h : p = q
    · subst h; simp
    · have e : (p == q) = false := by simpa using h
      have e2 : ¬ q = p := fun e => h e.symm
      simp only [e, nmb_go q L (k + 1), List.mem_cons, e2, false_or, List.idxOf_cons, cond_false]
      split
      · congr 2; omega
      · rfl
theorem nmb_get (L : List Pr) (q : Pr) : mget (nmb L) q = if q ∈ L then some (L.idxOf q : Int) else none := by
  unfold mget nmb
  rw [nmb_go q L 0]
  split
  · simp
  · rfl
theorem nmb_set {L : List Pr} {q : Pr} (h : q ∉ L) : mset (nmb L) q (L.length : Int) = nmb (L ++ [q]) := by
  have e : ((nmb L).findIdx? fun e => e.1 == q) = none := by
    rw [List.findIdx?_eq_none_iff]
    intro x hx
    obtain ⟨⟨p, i⟩, hp, rfl⟩ := List.mem_map.1 hx
    have hm := List.fst_mem_of_mem_zipIdx hp
    have : ¬ p = q := fun e => h (e ▸ hm)
    simpa using this
  unfold mset
  rw [e]
  unfold nmb
  rw [List.zipIdx_append]
  simp
section
variable {N : Nat} {T : Two}
def rl (T : Two) (p : Pr) : Int := if (T.ru p).2 = -1 then -1 else (T.ru p).1
theorem zp_dm (hT : T.Ok) {p : Pr} (h : T.dm p) : T.dm (zp p) := by
  unfold zp
  split
  · have h1 := hT.ha.n1
    have h2 := hT.hb.n1
    exact ⟨⟨by simp, by simp; omega⟩, ⟨by simp, by simp; omega⟩⟩
  · exact h
/-- the number of a pair; a new one, if it has none -/
theorem state_spec (hT : T.Ok) {p : Pr} (hp : T.dm p) {L : List Pr} (hl : L.length ≤ 100000) (rows : List (List Int)) (entry : List Int) :
    F_product_joiner_state N T.ra T.ua T.ea T.rb T.ub T.eb rows (L.map (rl T)) entry (nmb L) L p.1 p.2 = some ((addp L p).map (rl T), nmb (addp L p), addp L p, pos (addp L p) p) := by
  have hz : ((if (p.1 == 0) = true then some true else some (p.2 == 0) : Option Bool) >>= fun x => (if x = true then some ((0 : Int), (0 : Int)) else some (p.1, p.2) : Option (Int × Int))) = some (zp p) := by
    unfold zp
    by_cases h1 : p.1 = 0
    · simp [h1]
    · by_cases h2 : p.2 = 0
      · simp [h1, h2]
      · simp [h1, h2]
  have hzd := zp_dm hT hp
  unfold F_product_joiner_state
  simp only [bind] at hz ⊢
  have hz2 : (if (p.1 == 0) = true then some true else some (p.2 == 0) : Option Bool) = some (decide (p.1 = 0 ∨ p.2 = 0)) := by
    by_cases h1 : p.1 = 0
    · simp [h1]
    · by_cases h2 : p.2 = 0 <;> simp [h1, h2]
  rw [hz2] at hz ⊢
  simp only [Option.bind_some] at hz ⊢
  rw [hz]
  simp only [Option.bind_some, nmb_get]
  have hr := rules2_spec (N := N) hT hzd
  by_cases hin : zp p ∈ L
  · have ha : addp L p = L := by unfold addp; rw [if_pos hin]
    rw [ha]
    simp only [if_pos hin, Option.isSome_some, if_true, Option.getD_some]
    rfl
  · have ha : addp L p = L ++ [zp p] := by unfold addp; rw [if_neg hin]
    rw [ha]
    simp only [if_neg hin, Option.isSome_none, Bool.false_eq_true, if_false]
    rw [app_eq (by simp; omega)]
    simp only [Option.bind_some, hr]
    have hrl : (if ((T.ru (zp p)).2 == -1) = true then some (-1) else some (T.ru (zp p)).1 : Option Int) = some (rl T (zp p)) := by
      unfold rl
      by_cases h : (T.ru (zp p)).2 = -1 <;> simp [h]
    rw [hrl]
    simp only [Option.bind_some]
    rw [app_eq (by simp; omega)]
    simp only [Option.bind_some, nmb_set hin]
    have hp : pos (L ++ [zp p]) p = (L.length : Int) := by
      unfold pos
      rw [List.idxOf_append, if_neg hin]; simp
    rw [hp]
    simp
/-- the list behind k bytes of a row -/
def rowGo (T : Two) (s : Pr) : Nat → List Pr → List Pr
  | 0, L => L
  | k + 1, L => addp (rowGo T s k L) (T.nx s (k : Int))
theorem rowGo_pre (s : Pr) : ∀ (k : Nat) (L : List Pr), L <+: rowGo T s k L
  | 0, _ => List.prefix_refl _
  | k + 1, L => (rowGo_pre s k L).trans (addp_pre _ _)
theorem addp_len (L : List Pr) (p : Pr) : (addp L p).length ≤ L.length + 1 := by
  unfold addp; split <;> simp
theorem rowGo_len (s : Pr) : ∀ (k : Nat) (L : List Pr), (rowGo T s k L).length ≤ L.length + k
  | 0, L => Nat.le_refl _
  | k + 1, L => by
    have := rowGo_len s k L
    have := addp_len (rowGo T s k L) (T.nx s (k : Int))
    show (addp _ _).length ≤ _
    omega
theorem rowGo_mono (s : Pr) {j : Nat} (L : List Pr) : ∀ k, j ≤ k → rowGo T s j L <+: rowGo T s k L
  | 0, h => by obtain rfl : j = 0 := by omega
               exact List.prefix_refl _
  | k + 1, h => by
    by_cases e : j = k + 1
    · subst e; exact List.prefix_refl _
    · exact (rowGo_mono s L k (by omega)).trans (addp_pre _ _)
theorem rowGo_mem (s : Pr) (L : List Pr) {c k : Nat} (h : c < k) : zp (T.nx s (c : Int)) ∈ rowGo T s k L :=
  (rowGo_mono s L k h).subset (addp_mem _ _)
def rowOf (T : Two) (L : List Pr) (s : Pr) : List Int := (List.range 256).map fun c => pos L (T.nx s ((c : Nat) : Int))
/-- a row -/
theorem row_spec (hN : 4294967296 ≤ N) (hT : T.Ok) {s : Pr} (hs : T.dm s) {L : List Pr} {i : Nat} (hi : L[i]? = some s) (hl : L.length ≤ 200) (_hd : ∀ p ∈ L, T.dm p) (rows : List (List Int)) (entry : List Int) :
    iterO N (fun q => F_product_Both_l2 N T.ra T.ua T.ea T.rb T.ub T.eb entry rows (i : Int) q.1 q.2.1 q.2.2.1 q.2.2.2.1 q.2.2.2.2) (L.map (rl T), nmb L, L, 0, List.replicate 256 0) = some ((rowGo T s 256 L).map (rl T), nmb (rowGo T s 256 L), rowGo T s 256 L, rowOf T (rowGo T s 256 L) s) := by
  obtain ⟨r, h1, h2, h3, h4⟩ := loop_inv (f := fun q => F_product_Both_l2 N T.ra T.ua T.ea T.rb T.ub T.eb entry rows (i : Int) q.1 q.2.1 q.2.2.1 q.2.2.2.1 q.2.2.2.2) (fun k (q : List Pr × List Int) => (q.1.map (rl T), nmb q.1, q.1, (k : Int), q.2)) (fun q => (q.1.map (rl T), nmb q.1, q.1, q.2)) (List.range 256)
    (fun k q => q.1 = rowGo T s k L ∧ q.2.length = 256 ∧ ∀ c : Nat, c < k → q.2[c]? = some (pos (rowGo T s k L) (T.nx s (c : Int)))) (N := N) (s := (L, List.replicate 256 0)) (by simp; omega)
    ⟨rfl, by simp, fun c hc => by omega⟩
    (fun k x q hx hI => by
      obtain ⟨hk, rfl⟩ := range_get hx
      obtain ⟨M, row⟩ := q
      obtain ⟨k1, k2, k3⟩ := hI
      simp only at k1 k2 k3
      subst k1
      have hil : (rowGo T s x L)[i]? = some s := by
        obtain ⟨t, ht⟩ := rowGo_pre (T := T) s x L
        rw [← ht, List.getElem?_append_left (lt_len hi)]; exact hi
      have hlen := rowGo_len (T := T) s x L
      have hnd := hT.nx s (x : Int) hs ⟨by omega, by omega⟩
      refine ⟨(addp (rowGo T s x L) (T.nx s (x : Int)), row.set x (pos (addp (rowGo T s x L) (T.nx s (x : Int))) (T.nx s (x : Int)))), ?_, rfl, by simp [k2], fun c hc => ?_⟩
      · unfold F_product_Both_l2
        simp only [show ((x : Int) < 256) by omega, decide_true, if_true, idx_of hil, next2_spec hT hs (c := (x : Int)) ⟨by omega, by omega⟩, state_spec (N := N) hT hnd (L := rowGo T s x L) (by omega), bind, Option.bind_some]
        rw [idx_nat (show x < row.length by omega), setI_nat (show x < row.length by omega), w64_succ (n := x) (by omega)]
        rfl
      · show (row.set x _)[c]? = some (pos (addp (rowGo T s x L) (T.nx s (x : Int))) (T.nx s (c : Int)))
        by_cases e : c = x
        · subst e; rw [List.getElem?_set_self (by omega)]
        · rw [List.getElem?_set_ne (by omega), k3 c (by omega), pos_pre (addp_pre _ _) (rowGo_mem s L (by omega))])
    (fun q _ => by unfold F_product_Both_l2; simp)
  rw [show iterO N (fun q => F_product_Both_l2 N T.ra T.ua T.ea T.rb T.ub T.eb entry rows (i : Int) q.1 q.2.1 q.2.2.1 q.2.2.2.1 q.2.2.2.2) (L.map (rl T), nmb L, L, 0, List.replicate 256 0) = _ from h1]
  simp only [List.length_range] at h2 h4
  have hrow : r.2 = rowOf T (rowGo T s 256 L) s := by
    apply List.ext_getElem?
    intro c
    by_cases hc : c < 256
    · rw [h4 c hc]
      unfold rowOf
      rw [List.getElem?_map, List.getElem?_range hc]; rfl
    · rw [List.getElem?_eq_none (by omega), List.getElem?_eq_none (by unfold rowOf; simp; omega)]
  rw [h2, hrow]
/-- all rows from the i-th on: none, if there are too many pairs -/
def allRows (T : Two) : Nat → List Pr → Nat → List (List Int) → Option (List Pr × List (List Int))
  | 0, L, _, rows => some (L, rows)
  | f + 1, L, i, rows => match L[i]? with
    | none => some (L, rows)
    | some s => if (rowGo T s 256 L).length > 200 then none else allRows T f (rowGo T s 256 L) (i + 1) (rows ++ [rowOf T (rowGo T s 256 L) s])
theorem addp_dm (hT : T.Ok) {L : List Pr} (hd : ∀ p ∈ L, T.dm p) {p : Pr} (hp : T.dm p) : ∀ q ∈ addp L p, T.dm q := by
  intro q hq
  unfold addp at hq
  split at hq
  · exact hd q hq
  · rcases List.mem_append.1 hq with hq | hq
    · exact hd q hq
    · simp at hq; subst hq; exact zp_dm hT hp
theorem rowGo_dm (hT : T.Ok) {s : Pr} (hs : T.dm s) {L : List Pr} (hd : ∀ p ∈ L, T.dm p) : ∀ k, k ≤ 256 → ∀ q ∈ rowGo T s k L, T.dm q
  | 0, _ => hd
  | k + 1, hk => addp_dm hT (rowGo_dm hT hs hd k (by omega)) (hT.nx s (k : Int) hs ⟨by omega, by omega⟩)
theorem rows_spec (hN : 4294967296 ≤ N) (hT : T.Ok) (entry : List Int) : ∀ (f M : Nat) (L : List Pr) (i : Nat) (rows : List (List Int)), f < M → L.length ≤ 200 → i ≤ L.length → rows.length = i → 201 ≤ f + i → (∀ p ∈ L, T.dm p) →
    iterO M (fun s => F_product_Both_l1 N T.ra T.ua T.ea T.rb T.ub T.eb entry s.1 s.2.1 s.2.2.1 s.2.2.2.1 s.2.2.2.2) (rows, L.map (rl T), nmb L, L, (i : Int)) = some (match allRows T f L i rows with | none => .inr ([], [], [], 9) | some (L', rows') => .inl (rows', L'.map (rl T), nmb L', L')) := by
  intro f
  induction f with
  | zero => intro M L i rows _ h1 h2 _ h3 _; omega
  | succ f ih =>
    intro M L i rows hM h1 h2 h2r h3 hd
    obtain ⟨M, rfl⟩ : ∃ m, M = m + 1 := ⟨M - 1, by omega⟩
    simp only [iterO]
    unfold F_product_Both_l1
    by_cases hl : i < L.length
    · have hi : L[i]? = some L[i] := List.getElem?_eq_getElem hl
      have hs := hd _ (List.getElem_mem hl)
      simp only [show ((i : Int) < (L.length : Int)) by omega, decide_true, if_true, row_spec hN hT hs hi h1 hd rows entry, bind, Option.bind_some]
      simp only [allRows, hi]
      by_cases hg : (rowGo T L[i] 256 L).length > 200
      · have : ((rowGo T L[i] 256 L).length : Int) > 200 := by omega
        simp only [this, decide_true, if_true, if_pos hg]
      · have : ¬ ((rowGo T L[i] 256 L).length : Int) > 200 := by omega
        simp only [this, decide_false, Bool.false_eq_true, if_false, if_neg hg]
        rw [app_eq (by simp; omega)]
        simp only [Option.bind_some]
        rw [w64_succ (n := i) (by omega)]
        have hle := (rowGo_pre (T := T) L[i] 256 L).length_le
        exact ih M (rowGo T L[i] 256 L) (i + 1) (rows ++ [rowOf T (rowGo T L[i] 256 L) L[i]]) (by omega) (by omega) (by omega) (by simp [h2r]) (by omega) (rowGo_dm hT hs hd 256 (Nat.le_refl _))
    · have hi : L[i]? = none := List.getElem?_eq_none (by omega)
      simp only [show ¬ ((i : Int) < (L.length : Int)) by omega, decide_false, Bool.false_eq_true, if_false, allRows, hi]
/-- the pairs of the conditions -/
def entGo (T : Two) : Nat → List Pr
  | 0 => [(0, 0)]
  | k + 1 => addp (entGo T k) (T.bg (k : Int))
theorem entGo_len : ∀ k, (entGo T k).length ≤ k + 1
  | 0 => Nat.le_refl _
  | k + 1 => by
    have := entGo_len k
    have := addp_len (entGo T k) (T.bg (k : Int))
    show (addp _ _).length ≤ _
    omega
theorem entGo_mono {j : Nat} : ∀ k, j ≤ k → entGo T j <+: entGo T k
  | 0, h => by obtain rfl : j = 0 := by omega
               exact List.prefix_refl _
  | k + 1, h => by
    by_cases e : j = k + 1
    · subst e; exact List.prefix_refl _
    · exact (entGo_mono k (by omega)).trans (addp_pre _ _)
theorem entGo_mem {c k : Nat} (h : c < k) : zp (T.bg (c : Int)) ∈ entGo T k := (entGo_mono k h).subset (addp_mem _ _)
theorem entGo_dm (hT : T.Ok) : ∀ k, ∀ q ∈ entGo T k, T.dm q
  | 0 => fun q hq => by
    have h1 := hT.ha.n1
    have h2 := hT.hb.n1
    simp [entGo] at hq; subst hq
    exact ⟨⟨by simp, by simp; omega⟩, ⟨by simp, by simp; omega⟩⟩
  | k + 1 => addp_dm hT (entGo_dm hT k) (hT.bg _)
def entOf (T : Two) (L : List Pr) (n : Nat) : List Int := (List.range n).map fun c => pos L (T.bg ((c : Nat) : Int))
theorem ents_spec (hN : 4294967296 ≤ N) (hT : T.Ok) :
    iterO N (fun s => F_product_Both_l0 N T.ra T.ua T.ea T.rb T.ub T.eb s.1 s.2.1 s.2.2.1 s.2.2.2.1 s.2.2.2.2) (0, (entGo T 0).map (rl T), [], nmb (entGo T 0), entGo T 0) = some ((entGo T T.ea.length).map (rl T), entOf T (entGo T T.ea.length) T.ea.length, nmb (entGo T T.ea.length), entGo T T.ea.length) := by
  have he := hT.ha.e2
  obtain ⟨r, h1, h2⟩ := loop_inv (f := fun s => F_product_Both_l0 N T.ra T.ua T.ea T.rb T.ub T.eb s.1 s.2.1 s.2.2.1 s.2.2.2.1 s.2.2.2.2) (fun k (q : List Pr × List Int) => ((k : Int), q.1.map (rl T), q.2, nmb q.1, q.1)) (fun q => (q.1.map (rl T), q.2, nmb q.1, q.1)) (List.range T.ea.length)
    (fun k q => q = (entGo T k, entOf T (entGo T k) k)) (N := N) (s := (entGo T 0, [])) (by simp; omega) rfl
    (fun k x q hx hI => by
      obtain ⟨hk, rfl⟩ := range_get hx
      subst hI
      have hlen := entGo_len (T := T) x
      refine ⟨(entGo T (x + 1), entOf T (entGo T (x + 1)) (x + 1)), ?_, rfl⟩
      unfold F_product_Both_l0
      simp only [show ((x : Int) < (T.ea.length : Int)) by omega, decide_true, if_true, begin2_spec, state_spec (N := N) hT (hT.bg (x : Int)) (L := entGo T x) (by omega), bind, Option.bind_some]
      rw [app_eq (by unfold entOf; simp; omega), w64_succ (n := x) (by omega)]
      simp only [Option.bind_some]
      have e1 : entOf T (entGo T x) x = entOf T (addp (entGo T x) (T.bg (x : Int))) x := by
        unfold entOf
        refine List.map_congr_left fun c hc => ?_
        rw [pos_pre (addp_pre _ _) (entGo_mem (by simpa using hc))]
      have e2 : entOf T (entGo T (x + 1)) (x + 1) = entOf T (addp (entGo T x) (T.bg (x : Int))) x ++ [pos (addp (entGo T x) (T.bg (x : Int))) (T.bg (x : Int))] := by
        show entOf T (addp (entGo T x) (T.bg (x : Int))) (x + 1) = _
        unfold entOf
        rw [List.range_succ, List.map_append]; rfl
      rw [e1, e2]
      rfl)
    (fun q _ => by unfold F_product_Both_l0; simp)
  subst h2
  rw [show iterO N (fun s => F_product_Both_l0 N T.ra T.ua T.ea T.rb T.ub T.eb s.1 s.2.1 s.2.2.1 s.2.2.2.1 s.2.2.2.2) (0, (entGo T 0).map (rl T), [], nmb (entGo T 0), entGo T 0) = _ from h1]
  simp
/-- the whole: nothing, if there are too many pairs -/
def bothF (T : Two) : List (List Int) × List Int × List Int × Int :=
  match allRows T 202 (entGo T T.ea.length) 0 [] with
  | none => ([], [], [], 9)
  | some (L, rows) => (rows, L.map (rl T), entOf T (entGo T T.ea.length) T.ea.length, 0)
theorem both_spec (hN : 4294967296 ≤ N) (hT : T.Ok) (he : T.ea.length = T.eb.length) : F_product_Both N T.ra T.ua T.ea T.rb T.ub T.eb = some (bothF T) := by
  have hel := hT.ha.e2
  have hd0 : T.dm (0, 0) := entGo_dm hT 0 _ (by simp [entGo])
  have hn : ((T.ea.length : Int) != (T.eb.length : Int)) = false := by rw [he]; simp
  have s0 := state_spec (N := N) hT hd0 (L := []) (by simp) [] []
  have ha : addp [] (0, 0) = entGo T 0 := by simp [addp, zp, entGo]
  rw [ha] at s0
  have hm : nmb [] = ([] : List (Pr × Int)) := rfl
  rw [hm] at s0
  simp only [List.map_nil] at s0
  have hlen := entGo_len (T := T) T.ea.length
  have hr := rows_spec hN hT (entOf T (entGo T T.ea.length) T.ea.length) 202 N (entGo T T.ea.length) 0 [] (by omega) (by omega) (by omega) rfl (by omega) (entGo_dm hT _)
  unfold F_product_Both
  simp only [right2_t hN hT, hn, bind, Option.bind_some, Bool.not_true, Bool.false_eq_true, if_false]
  rw [s0]
  simp only [Option.bind_some]
  rw [ents_spec hN hT]
  simp only [Option.bind_some]
  rw [show iterO N (fun s => F_product_Both_l1 N T.ra T.ua T.ea T.rb T.ub T.eb (entOf T (entGo T T.ea.length) T.ea.length) s.1 s.2.1 s.2.2.1 s.2.2.2.1 s.2.2.2.2) ([], (entGo T T.ea.length).map (rl T), nmb (entGo T T.ea.length), entGo T T.ea.length, 0) = _ from hr]
  unfold bothF
  cases allRows T 202 (entGo T T.ea.length) 0 [] with
  | none => rfl
  | some z => rfl
theorem both_not (hN : 4294967296 ≤ N) (sa : Sz T.ra T.ua T.ea) (sb : Sz T.rb T.ub T.eb) (h : ¬ T.Ok ∨ T.ea.length ≠ T.eb.length) : F_product_Both N T.ra T.ua T.ea T.rb T.ub T.eb = some ([], [], [], 2) := by
  unfold F_product_Both
  by_cases hT : T.Ok
  · have he : T.ea.length ≠ T.eb.length := h.resolve_left (fun q => q hT)
    have hn : ((T.ea.length : Int) != (T.eb.length : Int)) = true := by simp; omega
    simp [right2_t hN hT, hn]
  · simp [right2_f hN sa sb hT]
end
end Go.Proofs.YtealkahefalaeaaGreatDoor
namespace Go.Proofs.YtealkahefalaeaaGreatDoor
open Go Go.Eng
set_option maxRecDepth 100000
section
variable {N : Nat} {T : Two}
theorem zero_nxt {rows : List (List Int)} {rule entry : List Int} (h : Rt rows rule entry) (c : Int) : nxt rows 0 c = 0 := by
  have h0 := h.r0
  unfold nxt
  have e : rows.getD (0 : Int).toNat [] = List.replicate 256 0 := by rw [show (0 : Int).toNat = 0 from rfl, List.getD, h0]; rfl
  rw [e, List.getD, List.getElem?_replicate]
  split <;> rfl
theorem rule_zero {rows : List (List Int)} {rule entry : List Int} (h : Rt rows rule entry) : rule.getD 0 0 = -1 := by rw [List.getD, h.u0]; rfl
theorem rowOf_pre {L M : List Pr} (h : L <+: M) {s : Pr} (hs : ∀ c : Nat, c < 256 → zp (T.nx s (c : Int)) ∈ L) : rowOf T M s = rowOf T L s := by
  unfold rowOf
  refine List.map_congr_left fun c hc => ?_
  rw [pos_pre h (hs c (by simpa using hc))]
/-- all rows up to i stand -/
structure Rws (T : Two) (L : List Pr) (i : Nat) (rows : List (List Int)) : Prop where
  l : L.length ≤ 200
  n : rows.length = i
  le : i ≤ L.length
  d : ∀ p ∈ L, T.dm p
  z : ∀ p ∈ L, zp p = p
  r : ∀ (j : Nat) (s : Pr), j < i → L[j]? = some s → (∀ c : Nat, c < 256 → zp (T.nx s (c : Int)) ∈ L) ∧ rows[j]? = some (rowOf T L s)
theorem addp_z {L : List Pr} (hz : ∀ p ∈ L, zp p = p) (p : Pr) : ∀ q ∈ addp L p, zp q = q := by
  intro q hq
  unfold addp at hq
  split at hq
  · exact hz q hq
  · rcases List.mem_append.1 hq with hq | hq
    · exact hz q hq
    · simp at hq; subst hq; exact zp_zp p
theorem rowGo_z {L : List Pr} (hz : ∀ p ∈ L, zp p = p) (s : Pr) : ∀ k, ∀ q ∈ rowGo T s k L, zp q = q
  | 0 => hz
  | k + 1 => addp_z (rowGo_z hz s k) _
theorem allRows_ok (hT : T.Ok) : ∀ (f : Nat) (L : List Pr) (i : Nat) (rows : List (List Int)) (L' : List Pr) (rows' : List (List Int)), Rws T L i rows → 201 ≤ f + i → allRows T f L i rows = some (L', rows') → L <+: L' ∧ Rws T L' L'.length rows' := by
  intro f
  induction f with
  | zero => intro L i rows L' rows' h h3 _; have := h.l; have := h.le; omega
  | succ f ih =>
    intro L i rows L' rows' h h3 he
    by_cases hl : i < L.length
    · have hi : L[i]? = some L[i] := List.getElem?_eq_getElem hl
      have hs := h.d _ (List.getElem_mem hl)
      simp only [allRows, hi] at he
      split at he
      · cases he
      · rename_i hg
        have hpre := rowGo_pre (T := T) L[i] 256 L
        have hle := hpre.length_le
        obtain ⟨k1, k2⟩ := ih (rowGo T L[i] 256 L) (i + 1) _ L' rows' ⟨by omega, by simp [h.n], by omega, rowGo_dm hT hs h.d 256 (Nat.le_refl _), rowGo_z h.z _ 256, fun j s hj hjs => by
          have hmem : ∀ c : Nat, c < 256 → zp (T.nx L[i] (c : Int)) ∈ rowGo T L[i] 256 L := fun c hc => rowGo_mem _ _ hc
          by_cases e : j = i
          · subst e
            have hs2 : L[j] = s := by
              obtain ⟨t, ht⟩ := hpre
              rw [← ht, List.getElem?_append_left hl, hi] at hjs
              exact Option.some.inj hjs
            subst hs2
            exact ⟨hmem, by rw [List.getElem?_append_right (by rw [h.n]; exact Nat.le_refl _), h.n, Nat.sub_self]; rfl⟩
          · have hjs' : L[j]? = some s := by
              obtain ⟨t, ht⟩ := hpre
              rw [← ht, List.getElem?_append_left (by omega)] at hjs
              exact hjs
            obtain ⟨q1, q2⟩ := h.r j s (by omega) hjs'
            refine ⟨fun c hc => hpre.subset (q1 c hc), ?_⟩
            rw [List.getElem?_append_left (by rw [h.n]; omega), q2, rowOf_pre hpre q1]⟩ (by omega) he
        exact ⟨hpre.trans k1, k2⟩
    · have hi : L[i]? = none := List.getElem?_eq_none (by omega)
      simp only [allRows, hi, Option.some.injEq, Prod.mk.injEq] at he
      obtain ⟨rfl, rfl⟩ := he
      have : i = L.length := by have := h.le; omega
      exact ⟨List.prefix_refl _, this ▸ h⟩
theorem entGo_z : ∀ k, ∀ q ∈ entGo T k, zp q = q
  | 0 => fun q hq => by simp [entGo] at hq; subst hq; simp [zp]
  | k + 1 => addp_z (entGo_z k) _
theorem entGo_head (k : Nat) : [(0, 0)] <+: entGo T k := entGo_mono (T := T) (j := 0) k (Nat.zero_le _)
theorem idxOf_rng {L : List Pr} {p : Pr} (h : p ∈ L) : 0 ≤ (L.idxOf p : Int) ∧ (L.idxOf p : Int) < L.length := by
  have := List.idxOf_lt_length_of_mem h
  omega
/-- the DFA is right -/
theorem both_right (hT : T.Ok) {L : List Pr} {rows : List (List Int)} (h : allRows T 202 (entGo T T.ea.length) 0 [] = some (L, rows)) :
    Rws T L L.length rows ∧ entGo T T.ea.length <+: L ∧ L[0]? = some (0, 0) ∧ Rt rows (L.map (rl T)) (entOf T (entGo T T.ea.length) T.ea.length) ∧ Sz rows (L.map (rl T)) (entOf T (entGo T T.ea.length) T.ea.length) := by
  have hel := hT.ha.e2
  have he1 := hT.ha.e1
  have hlen := entGo_len (T := T) T.ea.length
  obtain ⟨hpre, hR⟩ := allRows_ok hT 202 _ 0 [] L rows ⟨by omega, rfl, by omega, entGo_dm hT _, entGo_z _, fun j s hj => by omega⟩ (by omega) h
  have h0 : L[0]? = some (0, 0) := by
    obtain ⟨t, ht⟩ := (entGo_head (T := T) T.ea.length).trans hpre
    rw [← ht]; rfl
  have hL1 : 1 ≤ L.length := by have := lt_len h0; omega
  have hll := hR.l
  have hrow : ∀ r ∈ rows, ∃ s ∈ L, (∀ c : Nat, c < 256 → zp (T.nx s (c : Int)) ∈ L) ∧ r = rowOf T L s := fun r hr => by
    obtain ⟨j, hj, rfl⟩ := List.mem_iff_getElem.1 hr
    have hjl : j < L.length := by have := hR.n; omega
    obtain ⟨q1, q2⟩ := hR.r j _ hjl (List.getElem?_eq_getElem hjl)
    rw [List.getElem?_eq_getElem hj] at q2
    exact ⟨_, List.getElem_mem hjl, q1, Option.some.inj q2⟩
  have hent : ∀ x ∈ entOf T (entGo T T.ea.length) T.ea.length, 0 ≤ x ∧ x < (L.length : Int) := fun x hx => by
    obtain ⟨c, hc, rfl⟩ := List.mem_map.1 hx
    have hm := entGo_mem (T := T) (c := c) (k := T.ea.length) (by simpa using hc)
    have h1 := idxOf_rng hm
    have h2 := hpre.length_le
    unfold pos
    omega
  have hzz : T.nx (0, 0) = fun _ => (0, 0) := by funext c; unfold Two.nx; rw [zero_nxt hT.ha, zero_nxt hT.hb]
  refine ⟨hR, hpre, h0, ⟨by rw [hR.n]; exact hL1, by rw [hR.n]; exact hll, by simp [hR.n], by unfold entOf; simp; omega, by unfold entOf; simp; omega, fun r hr x hx => ?_, fun x hx => ?_, fun x hx => by rw [hR.n]; exact hent x hx, ?_, ?_⟩, ⟨fun r hr => ?_, by rw [hR.n]; omega, by simp; omega, by unfold entOf; simp; omega⟩⟩
  · obtain ⟨s, hs, hm, rfl⟩ := hrow r hr
    obtain ⟨c, hc, rfl⟩ := List.mem_map.1 hx
    rw [hR.n]
    exact idxOf_rng (hm c (by simpa using hc))
  · obtain ⟨p, hp, rfl⟩ := List.mem_map.1 hx
    have hd := hR.d p hp
    have h1 := (rule_at hT.ha hd.1).2
    unfold rl
    split
    · omega
    · exact h1
  · obtain ⟨q1, q2⟩ := hR.r 0 _ (by omega) h0
    rw [q2]
    congr 1
    unfold rowOf
    have hp : pos L (0, 0) = 0 := by
      unfold pos
      have hz : zp ((0, 0) : Pr) = (0, 0) := by simp [zp]
      rw [hz]
      cases L with
      | nil => simp at h0
      | cons a L => simp at h0; subst h0; simp
    rw [hzz]
    generalize hn : (256 : Nat) = n
    refine List.eq_replicate_iff.2 ⟨by simp, fun x hx => ?_⟩
    obtain ⟨c, _, rfl⟩ := List.mem_map.1 hx
    exact hp
  · rw [List.getElem?_map, h0]
    show some (rl T (0, 0)) = some (-1)
    unfold rl
    have : (T.ru (0, 0)).2 = -1 := rule_zero hT.hb
    rw [if_pos this]
  · obtain ⟨s, hs, hm, rfl⟩ := hrow r hr
    unfold rowOf; simp
end
end Go.Proofs.YtealkahefalaeaaGreatDoor
namespace Go.Proofs.YtealkahefalaeaaGreatDoor
open Go Go.Eng
set_option maxRecDepth 100000
theorem fi_idx (x y : Int) : ∀ (L : List Pr), L.findIdx? (fun q => q.1 == x && q.2 == y) = if ((x, y) : Pr) ∈ L then some (L.idxOf (x, y)) else none
  | [] => rfl
  | p :: L => by
    rw [List.findIdx?_cons, fi_idx x y L]
    by_cases h : p = (x, y)
    · subst h; simp
    · have e : (p == (x, y)) = false := by simpa using h
      have e3 : (p.1 == x && p.2 == y) = false := e
      have e2 : ¬ ((x, y) : Pr) = p := fun e => h e.symm
      simp only [e3, e, Bool.false_eq_true, if_false, List.mem_cons, e2, false_or, List.idxOf_cons, cond_false]
      split <;> rfl
section
variable {N : Nat} {T : Two}
theorem place_spec (hN : 4294967296 ≤ N) {L : List Pr} (h0 : L[0]? = some (0, 0)) (hl : L.length ≤ 100000) (p : Pr) : F_dofferref21_place_1 N L p.1 p.2 = some (addp L p, pos (addp L p) p) := by
  have hm0 : ((0, 0) : Pr) ∈ L := List.mem_of_getElem? h0
  unfold F_dofferref21_place_1
  have hb : (if (p.1 == 0) = true then some true else some (p.2 == 0) : Option Bool) = some (decide (p.1 = 0 ∨ p.2 = 0)) := by
    by_cases h1 : p.1 = 0
    · simp [h1]
    · by_cases h2 : p.2 = 0 <;> simp [h1, h2]
  rw [hb]
  simp only [bind, Option.bind_some]
  by_cases h : p.1 = 0 ∨ p.2 = 0
  · have hz : zp p = (0, 0) := by unfold zp; rw [if_pos h]
    have ha : addp L p = L := by unfold addp; rw [hz, if_pos hm0]
    rw [ha]
    have hp : pos L p = 0 := by
      unfold pos
      rw [hz]
      cases L with
      | nil => simp at h0
      | cons a L => simp at h0; subst h0; simp
    simp only [h, decide_true, if_true, hp]
  · have hz : zp p = p := by unfold zp; rw [if_neg h]
    simp only [h, decide_false, Bool.false_eq_true, if_false]
    rw [loop_find L (fun q => q.1 == p.1 && q.2 == p.2) (fun i => (L, (i : Int))) (by omega) (fun i x hx => by
      have hi := lt_len hx
      unfold F_dofferref21_place_1_l0
      simp only [show ((i : Int) < (L.length : Int)) by omega, decide_true, if_true, idx_of hx, bind, Option.bind_some]
      rw [w64_succ (n := i) (by omega)]
      cases h1 : x.1 == p.1 <;> simp) (by unfold F_dofferref21_place_1_l0; simp), fi_idx]
    by_cases hin : p ∈ L
    · have ha : addp L p = L := by unfold addp; rw [hz, if_pos hin]
      rw [ha, if_pos (show ((p.1, p.2) : Pr) ∈ L from hin)]
      unfold pos
      rw [hz]
      rfl
    · have ha : addp L p = L ++ [p] := by unfold addp; rw [hz, if_neg hin]
      rw [ha, if_neg (show ¬ ((p.1, p.2) : Pr) ∈ L from hin)]
      simp only [Option.bind_some]
      rw [app_eq (by simp; omega)]
      have hp : pos (L ++ [p]) p = (L.length : Int) := by
        unfold pos
        rw [hz, List.idxOf_append, if_neg hin]; simp
      rw [hp]
      rfl
theorem head_pre {L M : List Pr} (h : L <+: M) (h0 : L[0]? = some (0, 0)) : M[0]? = some (0, 0) := by
  obtain ⟨t, rfl⟩ := h
  rw [List.getElem?_append_left (lt_len h0)]; exact h0
theorem refEnts (hN : 4294967296 ≤ N) (hT : T.Ok) (he : T.ea.length = T.eb.length) :
    iterO N (fun s => F_dofferref21_Both_l0 N T.ea T.eb s.1 s.2.1 s.2.2) (0, [], [((0 : Int), (0 : Int))]) = some (entOf T (entGo T T.ea.length) T.ea.length, entGo T T.ea.length) := by
  have hel := hT.ha.e2
  obtain ⟨r, h1, h2⟩ := loop_inv (f := fun s => F_dofferref21_Both_l0 N T.ea T.eb s.1 s.2.1 s.2.2) (fun k (q : List Int × List Pr) => ((k : Int), q.1, q.2)) id (List.range T.ea.length)
    (fun k q => q = (entOf T (entGo T k) k, entGo T k)) (N := N) (s := ([], entGo T 0)) (by simp; omega) rfl
    (fun k x q hx hI => by
      obtain ⟨hk, rfl⟩ := range_get hx
      subst hI
      have hlen := entGo_len (T := T) x
      have hb : T.bg (x : Int) = (T.ea[x], T.eb[x]'(by omega)) := by
        unfold Two.bg beg
        rw [if_pos (by omega), if_pos (by omega), Int.toNat_natCast, List.getD, List.getD, List.getElem?_eq_getElem hk, List.getElem?_eq_getElem (show x < T.eb.length by omega)]
        rfl
      have hp := place_spec hN (L := entGo T x) (head_pre (entGo_head x) rfl) (by omega) (T.bg (x : Int))
      rw [hb] at hp
      simp only at hp
      refine ⟨(entOf T (entGo T (x + 1)) (x + 1), entGo T (x + 1)), ?_, rfl⟩
      unfold F_dofferref21_Both_l0
      simp only [show ((x : Int) < (T.ea.length : Int)) by omega, decide_true, if_true, idx_nat hk, idx_nat (show x < T.eb.length by omega), hp, bind, Option.bind_some]
      rw [app_eq (by unfold entOf; simp; omega), w64_succ (n := x) (by omega)]
      simp only [Option.bind_some]
      rw [← hb]
      have e1 : entOf T (entGo T x) x = entOf T (addp (entGo T x) (T.bg (x : Int))) x := by
        unfold entOf
        refine List.map_congr_left fun c hc => ?_
        rw [pos_pre (addp_pre _ _) (entGo_mem (by simpa using hc))]
      have e2 : entOf T (entGo T (x + 1)) (x + 1) = entOf T (addp (entGo T x) (T.bg (x : Int))) x ++ [pos (addp (entGo T x) (T.bg (x : Int))) (T.bg (x : Int))] := by
        show entOf T (addp (entGo T x) (T.bg (x : Int))) (x + 1) = _
        unfold entOf
        rw [List.range_succ, List.map_append]; rfl
      rw [e1, e2]
      rfl)
    (fun q _ => by unfold F_dofferref21_Both_l0; simp)
  subst h2
  rw [show iterO N (fun s => F_dofferref21_Both_l0 N T.ea T.eb s.1 s.2.1 s.2.2) (0, [], [((0 : Int), (0 : Int))]) = _ from h1]
  simp
theorem refRow (hN : 4294967296 ≤ N) (hT : T.Ok) {s : Pr} (hs : T.dm s) {L : List Pr} {i : Nat} (hi : L[i]? = some s) (hl : L.length ≤ 200) (h0 : L[0]? = some (0, 0)) :
    ∃ r, iterO N (fun s => F_dofferref21_Both_l2 N T.ra T.rb (i : Int) s.1 s.2.1 s.2.2) (List.replicate 256 0, 0, L) = some r ∧
      ((r = .inl (rowOf T (rowGo T s 256 L) s, rowGo T s 256 L) ∧ (rowGo T s 256 L).length ≤ 200) ∨ (r = .inr (.inr (.inr (.inr ([], [], [], 9)))) ∧ (rowGo T s 256 L).length > 200)) := by
  refine iterO_while (f := fun s => F_dofferref21_Both_l2 N T.ra T.rb (i : Int) s.1 s.2.1 s.2.2) (fun q => ∃ k : Nat, k ≤ 256 ∧ q.2.1 = (k : Int) ∧ q.2.2 = rowGo T s k L ∧ q.1.length = 256 ∧ (rowGo T s k L).length ≤ 200 ∧ ∀ c : Nat, c < k → q.1[c]? = some (pos (rowGo T s k L) (T.nx s (c : Int))))
    (fun q => 257 - q.2.1.toNat) (fun r => (r = .inl (rowOf T (rowGo T s 256 L) s, rowGo T s 256 L) ∧ (rowGo T s 256 L).length ≤ 200) ∨ (r = .inr (.inr (.inr (.inr ([], [], [], 9)))) ∧ (rowGo T s 256 L).length > 200))
    (fun q hI => by
      obtain ⟨row, c, M⟩ := q
      obtain ⟨k, hk, e1, e2, k2, k3, k4⟩ := hI
      simp only at e1 e2 k2 k4
      subst e1 e2
      unfold F_dofferref21_Both_l2
      by_cases hlt : k < 256
      · have hil : (rowGo T s k L)[i]? = some s := by
          obtain ⟨t, ht⟩ := rowGo_pre (T := T) s k L
          rw [← ht, List.getElem?_append_left (lt_len hi)]; exact hi
        have hnd := hT.nx s (k : Int) hs ⟨by omega, by omega⟩
        obtain ⟨x1, a1, _, a3, _⟩ := nxt_get hT.sa hs.1 (c := (k : Int)) ⟨by omega, by omega⟩
        obtain ⟨x2, b1, _, b3, _⟩ := nxt_get hT.sb hs.2 (c := (k : Int)) ⟨by omega, by omega⟩
        have hp := place_spec hN (L := rowGo T s k L) (head_pre (rowGo_pre s k L) h0) (by omega) (T.nx s (k : Int))
        have hp' : F_dofferref21_place_1 N (rowGo T s k L) (nxt T.ra s.1 (k : Int)) (nxt T.rb s.2 (k : Int)) = some (rowGo T s (k + 1) L, pos (rowGo T s (k + 1) L) (T.nx s (k : Int))) := hp
        simp only [show ((k : Int) < 256) by omega, decide_true, if_true, idx_of hil, a1, a3, b1, b3, hp', idx_nat (show k < row.length by omega), setI_nat (show k < row.length by omega), bind, Option.bind_some]
        by_cases hg : (rowGo T s (k + 1) L).length > 200
        · right
          have : ((rowGo T s (k + 1) L).length : Int) > 200 := by omega
          simp only [this, decide_true, if_true]
          refine ⟨_, rfl, .inr ⟨rfl, ?_⟩⟩
          have := (rowGo_mono (T := T) s L 256 (show k + 1 ≤ 256 by omega)).length_le
          omega
        · left
          have : ¬ ((rowGo T s (k + 1) L).length : Int) > 200 := by omega
          simp only [this, decide_false, Bool.false_eq_true, if_false]
          rw [w64_succ (n := k) (by omega)]
          have hmu : 257 - ((((k + 1 : Nat) : Int)).toNat) < 257 - (((k : Int)).toNat) := by omega
          have hset : (row.set k (pos (rowGo T s (k + 1) L) (T.nx s (k : Int)))).length = 256 := by rw [List.length_set]; exact k2
          refine ⟨(row.set k (pos (rowGo T s (k + 1) L) (T.nx s (k : Int))), ((k + 1 : Nat) : Int), rowGo T s (k + 1) L), rfl, ⟨k + 1, by omega, rfl, rfl, hset, by omega, fun c hc => ?_⟩, hmu⟩
          show (row.set k _)[c]? = some (pos (addp (rowGo T s k L) (T.nx s (k : Int))) (T.nx s (c : Int)))
          by_cases e : c = k
          · subst e; rw [List.getElem?_set_self (by omega)]; rfl
          · rw [List.getElem?_set_ne (by omega), k4 c (by omega), pos_pre (addp_pre _ _) (rowGo_mem s L (by omega))]
      · right
        have hk2 : k = 256 := by omega
        have hrow : row = rowOf T (rowGo T s k L) s := by
          apply List.ext_getElem?
          intro c
          by_cases hc : c < 256
          · rw [k4 c (by omega)]
            unfold rowOf
            rw [List.getElem?_map, List.getElem?_range hc]; rfl
          · rw [List.getElem?_eq_none (by omega), List.getElem?_eq_none (by unfold rowOf; simp; omega)]
        have hnl : ¬ ((k : Int) < 256) := by omega
        simp only [hnl, decide_false, Bool.false_eq_true, if_false]
        refine ⟨_, rfl, .inl ⟨?_, by rw [← hk2]; exact k3⟩⟩
        rw [hrow, ← hk2]) (N := N) (s := (List.replicate 256 0, 0, L)) ⟨0, by omega, rfl, rfl, by simp, hl, fun c hc => by omega⟩ (by simp; omega)
theorem refRows (hN : 4294967296 ≤ N) (hT : T.Ok) : ∀ (f M : Nat) (L : List Pr) (i : Nat) (rows : List (List Int)), f < M → L.length ≤ 200 → i ≤ L.length → rows.length = i → 201 ≤ f + i → (∀ p ∈ L, T.dm p) → L[0]? = some (0, 0) →
    iterO M (fun s => F_dofferref21_Both_l1 N T.ra T.ua T.rb T.ub s.1 s.2.1 s.2.2.1 s.2.2.2) ((i : Int), rows, (L.take i).map (rl T), L) = some (match allRows T f L i rows with | none => .inr ([], [], [], 9) | some (L', rows') => .inl (rows', L'.map (rl T))) := by
  intro f
  induction f with
  | zero => intro M L i rows _ h1 h2 _ h3 _ _; omega
  | succ f ih =>
    intro M L i rows hM h1 h2 h2r h3 hd h0
    obtain ⟨M, rfl⟩ : ∃ m, M = m + 1 := ⟨M - 1, by omega⟩
    simp only [iterO]
    unfold F_dofferref21_Both_l1
    by_cases hl : i < L.length
    · obtain ⟨s, hi⟩ : ∃ s, L[i]? = some s := ⟨_, List.getElem?_eq_getElem hl⟩
      have hs := hd s (List.mem_of_getElem? hi)
      obtain ⟨r, r1, r2⟩ := refRow hN hT hs hi h1 h0
      have hpre := rowGo_pre (T := T) s 256 L
      have hil : (rowGo T s 256 L)[i]? = some s := by
        obtain ⟨t, ht⟩ := hpre
        rw [← ht, List.getElem?_append_left hl]; exact hi
      simp only [show ((i : Int) < (L.length : Int)) by omega, decide_true, if_true, r1, bind, Option.bind_some]
      simp only [allRows, hi]
      rcases r2 with ⟨rfl, hg⟩ | ⟨rfl, hg⟩
      · have hle := hpre.length_le
        rw [if_neg (by omega)]
        simp only
        have h4 := (rule_at hT.hb hs.2).2
        have hrl : (if (decide (T.ub.getD s.2.toNat 0 < 0)) = true then some (-1) else some (T.ua.getD s.1.toNat 0) : Option Int) = some (rl T s) := by
          unfold rl Two.ru
          simp only
          by_cases h : T.ub.getD s.2.toNat 0 < 0
          · rw [if_pos (by simpa using h), if_pos (by omega)]
          · rw [if_neg (by simpa using h), if_neg (by omega)]
        rw [app_eq (by simp; omega)]
        simp only [Option.bind_some, idx_of hil, (rule_at hT.ha hs.1).1, (rule_at hT.hb hs.2).1, hrl]
        rw [app_eq (by simp; omega)]
        simp only [Option.bind_some]
        rw [w64_succ (n := i) (by omega)]
        have ht : (L.take i).map (rl T) ++ [rl T s] = ((rowGo T s 256 L).take (i + 1)).map (rl T) := by
          rw [List.take_add_one, hil]
          have : (rowGo T s 256 L).take i = L.take i := by
            obtain ⟨t, ht⟩ := hpre
            rw [← ht, List.take_append_of_le_length (by omega)]
          rw [this]; simp
        rw [ht]
        exact ih M (rowGo T s 256 L) (i + 1) (rows ++ [rowOf T (rowGo T s 256 L) s]) (by omega) (by omega) (by omega) (by simp [h2r]) (by omega) (rowGo_dm hT hs hd 256 (Nat.le_refl _)) (head_pre hpre h0)
      · rw [if_pos hg]
        rfl
    · have hi : L[i]? = none := List.getElem?_eq_none (by omega)
      have : L.take i = L := List.take_of_length_le (by omega)
      simp only [show ¬ ((i : Int) < (L.length : Int)) by omega, decide_false, Bool.false_eq_true, if_false, allRows, hi, this]
theorem refBoth_spec (hN : 4294967296 ≤ N) (hT : T.Ok) (he : T.ea.length = T.eb.length) : F_dofferref21_Both N T.ra T.ua T.ea T.rb T.ub T.eb = some (bothF T) := by
  have hel := hT.ha.e2
  have hlen := entGo_len (T := T) T.ea.length
  have hn : ((T.ea.length : Int) != (T.eb.length : Int)) = false := by rw [he]; simp
  have hr := refRows hN hT 202 N (entGo T T.ea.length) 0 [] (by omega) (by omega) (by omega) rfl (by omega) (entGo_dm hT _) (head_pre (entGo_head _) rfl)
  unfold F_dofferref21_Both
  simp only [hn, Bool.false_eq_true, if_false, bind]
  rw [refEnts hN hT he]
  simp only [Option.bind_some]
  rw [show iterO N (fun s => F_dofferref21_Both_l1 N T.ra T.ua T.rb T.ub s.1 s.2.1 s.2.2.1 s.2.2.2) (0, [], [], entGo T T.ea.length) = _ from hr]
  unfold bothF
  cases allRows T 202 (entGo T T.ea.length) 0 [] with
  | none => rfl
  | some z => rfl
theorem refBoth_not (h : T.ea.length ≠ T.eb.length) : F_dofferref21_Both N T.ra T.ua T.ea T.rb T.ub T.eb = some ([], [], [], 4) := by
  have hn : ((T.ea.length : Int) != (T.eb.length : Int)) = true := by simp; omega
  unfold F_dofferref21_Both
  simp only [hn, if_true]
theorem lg_cg {G G' : Pr → Prop} (hT : T.Ok) (hg : ∀ p, T.dm p → (G p ↔ G' p)) {s : Pr} (hs : T.dm s) (u : List Int) : LG T.nx G s u ↔ LG T.nx G' s u := by
  unfold LG
  refine and_congr_right fun hb => ?_
  refine hg _ ?_
  clear hg
  induction u generalizing s with
  | nil => exact hs
  | cons c u ih => exact ih (hT.nx s c hs (hb c (by simp))) (fun x hx => hb x (by simp [hx]))
theorem l1find : @F_product_two_find_1_l1 = @F_product_two_find_l1 := rfl
theorem clash_find (hN : 4294967296 ≤ N) (hT : T.Ok) (cond : Int) : ∃ z, F_product_two_find_1 N T.ra T.ua T.ea T.rb T.ub T.eb cond = some z ∧ Found T (fun p => ((T.ru p).1 != -1 && (T.ru p).2 != -1) = true) (T.bg cond) z := by
  obtain ⟨z, h1, h2⟩ := search hN hT (g := fun x y => x != -1 && y != -1) (f := fun s => F_product_two_find_1_l0 N T.ra T.ua T.ea T.rb T.ub T.eb s.1 s.2) (fun m => by unfold F_product_two_find_1_l0; simp) (fun p t Q m hp => by
    unfold F_product_two_find_1_l0 F_product_Clash_1
    rw [l1find]
    have i0 : idx ((p, t) :: Q) 0 = some (p, t) := rfl
    have hb : (if ((T.ru p).1 != -1) = true then some ((T.ru p).2 != -1) else some false : Option Bool) = some ((T.ru p).1 != -1 && (T.ru p).2 != -1) := by
      cases (T.ru p).1 != -1 <;> simp
    simp only [List.length_cons, show (((Q.length + 1 : Nat) : Int) > 0) by omega, decide_true, if_true, i0, rules2_spec hT hp, bind, Option.bind_some, hb]) (hT.bg cond)
  refine ⟨z, ?_, h2⟩
  unfold F_product_two_find_1
  rw [begin2_spec]
  simp only [bind, Option.bind_some] at h1 ⊢
  exact h1
theorem clash_gP (hT : T.Ok) (p : Pr) (hp : T.dm p) : ((T.ru p).1 != -1 && (T.ru p).2 != -1) = true ↔ gP T 1 p := by
  have h1 := (rule_at hT.ha hp.1).2
  have h2 := (rule_at hT.hb hp.2).2
  show _ ↔ gk 1 (T.ru p).1 (T.ru p).2 = true
  unfold gk Two.ru
  simp only [Bool.and_eq_true, bne_iff_ne, ne_eq, decide_eq_true_eq, if_neg (show ¬ (1 : Int) = 0 by decide)]
  constructor <;> intro h <;> omega
/-- what Clash answers, and the document -/
theorem clash_spec (hN : 4294967296 ≤ N) (hT : T.Ok) (cond : Int) : ∃ r, F_dofferref21_Way N T.ra T.ua T.ea T.rb T.ub T.eb cond 1 = some r ∧ F_product_Clash N T.ra T.ua T.ea T.rb T.ub T.eb cond = some (if r.2.2.2 = true then .inr r.1 else .inl ()) ∧ (r.2.2.2 = false → r.1 = []) := by
  obtain ⟨r, r1, r2⟩ := way_spec hN hT (asked := 1) (.inr rfl) cond
  obtain ⟨z, z1, z2⟩ := clash_find (N := N) hN hT cond
  refine ⟨r, r1, ?_, ?_⟩
  · unfold F_product_Clash
    simp only [right2_t hN hT, Bool.not_true, Bool.false_eq_true, if_false, z1, bind, Option.bind_some]
    have hcg := lg_cg hT (clash_gP hT) (hT.bg cond)
    cases z with
    | inl z =>
      obtain ⟨p, q, t⟩ := z
      have hb : BestG T.nx (gP T 1) (T.bg cond) t := ⟨(hcg t).1 z2.1.1, fun u hu => z2.1.2 u ((hcg u).2 hu)⟩
      rw [r2.of_best hb]
      simp
    | inr z =>
      rw [r2.of_none (fun u hu => z2 u ((hcg u).2 hu))]
      simp
  · intro h
    rcases r2 with ⟨rfl, _⟩ | ⟨t, rfl, _⟩
    · rfl
    · simp at h
theorem clash_not (hN : 4294967296 ≤ N) (sa : Sz T.ra T.ua T.ea) (sb : Sz T.rb T.ub T.eb) (h : ¬ T.Ok) (cond : Int) : F_product_Clash N T.ra T.ua T.ea T.rb T.ub T.eb cond = some (.inl ()) := by
  unfold F_product_Clash
  simp [right2_f hN sa sb h]
end
theorem num_nil {N : Nat} : F_doffernum_Num N 0 = some 0 := by
  unfold F_doffernum_Num
  rw [if_pos (by decide)]
theorem num_form {N : Nat} (hN : 100 ≤ N) : F_doffernum_Num N 2 = some 4 := by
  unfold F_doffernum_Num
  rw [if_neg (by decide)]
  have h := iterO_for0 (f := fun s => F_doffernum_Num_l0 N 2 s) (fun i => (i : Int)) 3 (r := (.inr 4 : Unit ⊕ Int)) (N := N) rfl (by omega) (fun i hi => by
    match i, hi with
    | 0, _ => rfl
    | 1, _ => rfl
    | 2, _ => rfl) rfl
  rw [show iterO N (fun s => F_doffernum_Num_l0 N 2 s) 0 = _ from h]
  rfl
theorem num_limit {N : Nat} (hN : 100 ≤ N) : F_doffernum_Num N 9 = some 9 := by
  unfold F_doffernum_Num
  rw [if_neg (by decide)]
  have h := iterO_for0 (f := fun s => F_doffernum_Num_l0 N 9 s) (fun i => (i : Int)) 8 (r := (.inr 9 : Unit ⊕ Int)) (N := N) rfl (by omega) (fun i hi => by
    match i, hi with
    | 0, _ => rfl
    | 1, _ => rfl
    | 2, _ => rfl
    | 3, _ => rfl
    | 4, _ => rfl
    | 5, _ => rfl
    | 6, _ => rfl
    | 7, _ => rfl) rfl
  rw [show iterO N (fun s => F_doffernum_Num_l0 N 9 s) 0 = _ from h]
  rfl
theorem productBoth_true {ra : List (List Int)} {ua ea : List Int} {rb : List (List Int)} {ub eb : List Int} {cond : Int} (hw : ∀ r ∈ ra, r.length = 256) (hw' : ∀ r ∈ rb, r.length = 256) : ∃ N, F_dofferlaw21_ProductBoth N ra ua ea rb ub eb cond = some true := by
  refine ⟨4294967296, ?_⟩
  generalize hM : (4294967296 : Nat) = N
  have hN : 4294967296 ≤ N := by omega
  unfold F_dofferlaw21_ProductBoth
  simp only [alive21 hN, bind, Option.bind_some, Bool.not_true, Bool.false_eq_true, if_false]
  rw [ofAny hN (by omega) hw, ofAny hN (by omega) hw']
  by_cases h1 : (ra.length : Int) > 9 ∨ (ua.length : Int) > 9 ∨ (ea.length : Int) > 20
  · simp [h1]
  by_cases h2 : (rb.length : Int) > 9 ∨ (ub.length : Int) > 9 ∨ (eb.length : Int) > 20
  · simp [h1, h2]
  have sa : Sz ra ua ea := ⟨hw, by omega, by omega, by omega⟩
  have sb : Sz rb ub eb := ⟨hw', by omega, by omega, by omega⟩
  simp only [if_neg h1, if_neg h2, Option.bind_some, Bool.not_true, Bool.false_eq_true, if_false]
  by_cases hT : (Two.mk ra ua ea rb ub eb).Ok
  · obtain ⟨r, r1, r2, r3⟩ := clash_spec hN hT cond
    simp only at r1 r2
    obtain ⟨t, x, y, w⟩ := r
    simp only at r2 r3
    have q1 := refRight_t hN hT.sa hT.ha
    have q2 := refRight_t hN hT.sb hT.hb
    simp only at q1 q2
    by_cases he : ea.length = eb.length
    · have hb := both_spec hN hT he
      have hb' := refBoth_spec hN hT he
      simp only at hb hb'
      rw [hb]
      simp only [Option.bind_some]
      rw [r2]
      simp only [Option.bind_some]
      unfold bothF at hb' ⊢
      cases hq : allRows (Two.mk ra ua ea rb ub eb) 202 (entGo (Two.mk ra ua ea rb ub eb) (Two.mk ra ua ea rb ub eb).ea.length) 0 [] with
      | none =>
        rw [hq] at hb'
        simp only at hb' ⊢
        cases w with
        | false => simp [q1, q2, hb', r1, r3 rfl, num_limit (show 100 ≤ N by omega), ofAny hN (show (200 : Int) < 4294967296 by omega) (rows := []) (by simp)]
        | true => simp [q1, q2, hb', r1, num_limit (show 100 ≤ N by omega), ofAny hN (show (200 : Int) < 4294967296 by omega) (rows := []) (by simp)]
      | some z =>
        obtain ⟨L, rows⟩ := z
        rw [hq] at hb'
        simp only at hb' ⊢
        obtain ⟨hR, _, _, hRt, hSz⟩ := both_right hT hq
        have hell := hT.ha.e2
        have hO : ¬ ((rows.length : Int) > 200 ∨ ((L.map (rl (Two.mk ra ua ea rb ub eb))).length : Int) > 200 ∨ ((entOf (Two.mk ra ua ea rb ub eb) (entGo (Two.mk ra ua ea rb ub eb) (Two.mk ra ua ea rb ub eb).ea.length) (Two.mk ra ua ea rb ub eb).ea.length).length : Int) > 20) := by
          have e1 := hRt.n2
          have e2 := hRt.ru
          have e3 := hRt.e2
          omega
        have hof := ofAny (m := 200) hN (by omega) (rule := L.map (rl (Two.mk ra ua ea rb ub eb))) (entry := entOf (Two.mk ra ua ea rb ub eb) (entGo (Two.mk ra ua ea rb ub eb) (Two.mk ra ua ea rb ub eb).ea.length) (Two.mk ra ua ea rb ub eb).ea.length) hSz.w
        rw [if_neg hO] at hof
        have hsm := same_spec (rows' := rows) (rule' := L.map (rl (Two.mk ra ua ea rb ub eb))) (entry' := entOf (Two.mk ra ua ea rb ub eb) (entGo (Two.mk ra ua ea rb ub eb) (Two.mk ra ua ea rb ub eb).ea.length) (Two.mk ra ua ea rb ub eb).ea.length) hN hSz
        have hrt := right_t hN hSz hRt
        cases w with
        | false =>
          simp only [Bool.false_eq_true, if_false]
          rw [q1, q2]
          simp only [Option.bind_some, Bool.not_true, Bool.false_eq_true, if_false]
          rw [hb', r1]
          simp only [Option.bind_some, num_nil, r3 rfl]
          rw [hof]
          simp [hsm, hrt]
        | true =>
          simp only [if_true]
          rw [q1, q2]
          simp only [Option.bind_some, Bool.not_true, Bool.false_eq_true, if_false]
          rw [hb', r1]
          simp only [Option.bind_some, num_nil]
          rw [hof]
          simp [hsm, hrt]
    · have hb := both_not hN (T := Two.mk ra ua ea rb ub eb) sa sb (.inr he)
      have hb' := refBoth_not (N := N) (T := Two.mk ra ua ea rb ub eb) he
      simp only at hb hb'
      rw [hb]
      simp only [Option.bind_some]
      rw [r2]
      simp only [Option.bind_some]
      cases w with
      | false => simp [q1, q2, hb', r1, r3 rfl, num_form (show 100 ≤ N by omega), ofAny hN (show (200 : Int) < 4294967296 by omega) (rows := []) (by simp)]
      | true => simp [q1, q2, hb', r1, num_form (show 100 ≤ N by omega), ofAny hN (show (200 : Int) < 4294967296 by omega) (rows := []) (by simp)]
  · have hb := both_not hN (T := Two.mk ra ua ea rb ub eb) sa sb (.inl hT)
    have hc := clash_not hN sa sb hT cond
    simp only at hb hc
    rw [hb]
    simp only [Option.bind_some]
    rw [hc]
    simp only [Option.bind_some]
    by_cases q1 : Rt ra ua ea
    · have q2 : ¬ Rt rb ub eb := fun q2 => hT ⟨sa, q1, sb, q2⟩
      simp [refRight_t hN sa q1, refRight_f hN sb q2, num_form (show 100 ≤ N by omega)]
    · simp [refRight_f hN sa q1, num_form (show 100 ≤ N by omega)]
end Go.Proofs.YtealkahefalaeaaGreatDoor
