/-
  PLAIN LEAN, no program in sight: what the pure functions answer.
-/
import Derived.Test.YtealkahefalaeaaGreatDoorProductTurnedD1
import Derived.Test.YtealkahefalaeaaGreatDoorProg
namespace Go.Eng
open Go
theorem iterO_for {σ τ : Type} {f : σ → Option (σ ⊕ τ)} {r : τ} (st : Nat → σ) : ∀ (n : Nat) {N k : Nat}, n < N → (∀ i, k ≤ i → i < k + n → f (st i) = some (.inl (st (i + 1)))) → f (st (k + n)) = some (.inr r) → iterO N f (st k) = some r
  | 0, 0, _, h, _, _ => absurd h (Nat.not_lt_zero _)
  | 0, N + 1, k, _, _, he => by simp only [iterO]; rw [show f (st k) = _ from he]
  | n + 1, 0, _, h, _, _ => absurd h (Nat.not_lt_zero _)
  | n + 1, N + 1, k, h, hs, he => by
    simp only [iterO]
    rw [hs k (Nat.le_refl _) (by omega)]
    exact iterO_for st n (by omega) (fun i h1 h2 => hs i (by omega) (by omega)) (by rw [show k + 1 + n = k + (n + 1) by omega]; exact he)
theorem iterO_for0 {σ τ : Type} {f : σ → Option (σ ⊕ τ)} {r : τ} {s : σ} (st : Nat → σ) (n : Nat) {N : Nat} (h0 : st 0 = s) (hN : n < N) (hs : ∀ i, i < n → f (st i) = some (.inl (st (i + 1)))) (he : f (st n) = some (.inr r)) : iterO N f s = some r := by
  subst h0
  exact iterO_for st n hN (fun i _ h => hs i (by omega)) (by rw [Nat.zero_add]; exact he)
theorem iterO_while {σ τ : Type} {f : σ → Option (σ ⊕ τ)} (I : σ → Prop) (μ : σ → Nat) (Q : τ → Prop) (step : ∀ s, I s → (∃ s', f s = some (.inl s') ∧ I s' ∧ μ s' < μ s) ∨ ∃ r, f s = some (.inr r) ∧ Q r) :
    ∀ {N : Nat} {s : σ}, I s → μ s < N → ∃ r, iterO N f s = some r ∧ Q r
  | 0, _, _, h => absurd h (Nat.not_lt_zero _)
  | N + 1, s, hI, h => by
    rcases step s hI with ⟨s', h1, h2, h3⟩ | ⟨r, h1, h2⟩
    · obtain ⟨r, h4, h5⟩ := iterO_while I μ Q step (N := N) h2 (by omega)
      exact ⟨r, by simp only [iterO, h1]; exact h4, h5⟩
    · exact ⟨r, by simp only [iterO, h1], h2⟩
theorem wrap64 {x : Int} (h1 : -9223372036854775808 ≤ x) (h2 : x ≤ 9223372036854775807) : IntKind.wrap .i64 x = x := by
  simp only [IntKind.wrap, IntKind.signed, IntKind.bits]
  simp
  omega
theorem w64_succ {n : Nat} (h : n < 9223372036854775807) : w64 ((n : Int) + 1) = ((n + 1 : Nat) : Int) := by
  rw [w64, wrap64] <;> omega
theorem idx_nat {α : Type} {xs : List α} {i : Nat} (h : i < xs.length) : idx xs (i : Int) = some xs[i] := by simp [idx, h]
theorem idx_int {α : Type} {xs : List α} {i : Int} (h0 : 0 ≤ i) (h : i.toNat < xs.length) : idx xs i = some xs[i.toNat] := by simp [idx, h, h0]
theorem idx_of {α : Type} {xs : List α} {i : Nat} {x : α} (h : xs[i]? = some x) : idx xs (i : Int) = some x := by simp [idx, h]
theorem setI_nat {α : Type} {xs : List α} {i : Nat} {x : α} (h : i < xs.length) : setI xs (i : Int) x = some (xs.set i x) := by simp [setI, h]
theorem app_eq {α : Type} {xs ys : List α} (h : xs.length + ys.length ≤ 4294967296) : app xs ys = some (xs ++ ys) := by simp [app, h]
/-- a loop over xs that leaves with g at the first element that p fits -/
theorem loop_find {α τ : Type} {f : Int → Option (Int ⊕ (Unit ⊕ τ))} (xs : List α) (p : α → Bool) (g : Nat → τ) {N : Nat} (hN : xs.length < N)
    (hb : ∀ (i : Nat) (x : α), xs[i]? = some x → f (i : Int) = if p x then some (.inr (.inr (g i))) else some (.inl ((i + 1 : Nat) : Int))) (he : f (xs.length : Int) = some (.inr (.inl ()))) :
    iterO N f 0 = some (match xs.findIdx? p with | some i => .inr (g i) | none => .inl ()) := by
  cases h : xs.findIdx? p with
  | none =>
    have h' := List.findIdx?_eq_none_iff.1 h
    refine iterO_for0 (fun i => (i : Int)) xs.length rfl hN (fun i hi => ?_) he
    rw [hb i xs[i] (List.getElem?_eq_getElem hi), h' _ (List.getElem_mem hi)]
    simp
  | some k =>
    obtain ⟨hk, hp, hlt⟩ := List.findIdx?_eq_some_iff_getElem.1 h
    refine iterO_for0 (fun i => (i : Int)) k rfl (by omega) (fun i hi => ?_) ?_
    · rw [hb i _ (List.getElem?_eq_getElem (by omega))]
      have := hlt i hi
      simp [this]
    · rw [hb k _ (List.getElem?_eq_getElem hk)]
      simp [hp]
/-- .. that leaves with b -/
theorem loop_any {α τ : Type} {f : Int → Option (Int ⊕ (Unit ⊕ τ))} (xs : List α) (p : α → Bool) (b : τ) {N : Nat} (hN : xs.length < N)
    (hb : ∀ (i : Nat) (x : α), xs[i]? = some x → f (i : Int) = if p x then some (.inr (.inr b)) else some (.inl ((i + 1 : Nat) : Int))) (he : f (xs.length : Int) = some (.inr (.inl ()))) :
    iterO N f 0 = some (if xs.any p then .inr b else .inl ()) := by
  rw [loop_find xs p (fun _ => b) hN hb he]
  cases h : xs.findIdx? p with
  | none =>
    have h' := List.findIdx?_eq_none_iff.1 h
    have : xs.any p = false := by rw [List.any_eq_false]; intro x hx; rw [h' x hx]; simp
    simp [this]
  | some k =>
    obtain ⟨hk, hp, hlt⟩ := List.findIdx?_eq_some_iff_getElem.1 h
    have : xs.any p = true := List.any_eq_true.2 ⟨_, List.getElem_mem hk, hp⟩
    simp [this]
/-- a loop over xs, by an invariant -/
theorem loop_inv {α σ τ ι : Type} {f : ι → Option (ι ⊕ τ)} (st : Nat → σ → ι) (out : σ → τ) (xs : List α) (I : Nat → σ → Prop) {N : Nat} {s : σ} (hN : xs.length < N)
    (hI : I 0 s) (hb : ∀ (i : Nat) (x : α) (s : σ), xs[i]? = some x → I i s → ∃ s', f (st i s) = some (.inl (st (i + 1) s')) ∧ I (i + 1) s') (he : ∀ s, I xs.length s → f (st xs.length s) = some (.inr (out s))) :
    ∃ s', iterO N f (st 0 s) = some (out s') ∧ I xs.length s' := by
  have key : ∀ (k i : Nat) (s : σ) (M : Nat), i + k = xs.length → k < M → I i s → ∃ s', iterO M f (st i s) = some (out s') ∧ I xs.length s' := by
    intro k
    induction k with
    | zero =>
      intro i s M hi hM h
      obtain ⟨M, rfl⟩ : ∃ m, M = m + 1 := ⟨M - 1, by omega⟩
      obtain rfl : i = xs.length := by omega
      exact ⟨s, by simp only [iterO]; rw [he s h], h⟩
    | succ k ih =>
      intro i s M hi hM h
      obtain ⟨M, rfl⟩ : ∃ m, M = m + 1 := ⟨M - 1, by omega⟩
      obtain ⟨s', h1, h2⟩ := hb i _ s (List.getElem?_eq_getElem (by omega)) h
      obtain ⟨s'', h3, h4⟩ := ih (i + 1) s' M (by omega) (by omega) h2
      exact ⟨s'', by simp only [iterO]; rw [h1]; exact h3, h4⟩
  exact key xs.length 0 s N (by omega) hN hI
end Go.Eng
namespace Go.Proofs.YtealkahefalaeaaGreatDoor
open Go Go.Eng Go.Cr
set_option maxRecDepth 100000
theorem xty3 : Ty Tryz.prog 3 1 8 (.int .i64 0) false := ⟨by kernel_rfl, by kernel_rfl⟩
theorem fnx108 : HasFn Tryz.prog 108 := ⟨_, _, Tryz.func108, by kernel_rfl, rfl⟩
theorem fnx128 : HasFn Tryz.prog 128 := ⟨_, _, Tryz.func128, by kernel_rfl, rfl⟩
theorem c_ix108 {N : Nat} {C : Cx} {w : World} {ρ : View} {hs : List Hl} {b2 oo : Nat} {x1 : Int} {x3 : Int} (H : Hp C w ρ (hs)) (g : cellsAt ρ b2 oo [.int .i64 x3]) {r : Bool} (hF : F_subset_Right_1 N x1 x3 = some r) :
  Calls Tryz.prog 108 [.int .i64 x1, .pointer (some ⟨b2, oo, none⟩)].toArray w (Rets (fun v w' => (∃ (x7 : Bool), x7 = r ∧ .bool x7 = v ∧ Hp C w' ρ (hs)))) := by
 unfold F_subset_Right_1 at hF
 have h0 : Tryz.f108.body = some _ := rfl
 refine fn_calls' Tryz.func108 h0 (n := 11) rfl (by simp) <| C_seq <| R_nd <| nq (Q_assign rfl) rfl rfl <| WL_nil <| x_then ?_
 obtain ⟨o9, ho9, hF⟩ := bnd hF
 refine C_cut (fun a w' => ∃ (x8 : Bool), x8 = o9 ∧ Fr 11 a [(3, .bool x8)] ∧ Hp C w' ρ (hs)) ?_ ?_
 ·refine R_nd <| nq (Q_move rfl) rfl rfl <| nq (Q_lss rfl rfl) rfl rfl <| nq (Q_move rfl) rfl rfl ?_
  rcases Bool.eq_false_or_eq_true (decide (x1 < 0)) with hb | hb
  ·rw [hb]
   replace ho9 := itT hb ho9
   refine gs rfl rfl rfl rfl <| gs rfl rfl rfl rfl <| gs rfl rfl rfl rfl <| nq (Q_pickT rfl rfl) rfl rfl <| nq (Q_assign rfl) rfl rfl <| WL_nil ?_
   obtain rfl := Option.some.inj ho9
   refine x_A fun a hf => ⟨true, rfl, hf.sub ⟨rfl, trivial⟩, H⟩
  ·rw [hb]
   replace ho9 := itF hb ho9
   refine gq (Q_move rfl) rfl rfl rfl <| gq (v := .int .i64 x3) (Q_ld (g.up H.ok.view) xty3 rfl (fun _ => rfl) rfl rfl) rfl rfl rfl <| gq (Q_geq rfl rfl) rfl rfl rfl <| nq (Q_pickF rfl rfl) rfl rfl <| nq (Q_assign rfl) rfl rfl <| WL_nil ?_
   obtain rfl := Option.some.inj ho9
   refine x_A fun a hf => ⟨decide (x1 ≥ x3), rfl, hf.sub ⟨rfl, trivial⟩, H⟩
 ·rintro a wd10 ⟨x8, rfl, hf, H⟩
  try dsimp only at hF
  refine CW.at hf <| C_ret ?_
  obtain rfl := Option.some.inj hF
  exact fn_ret (l := [.tmp 3]) (vs := [.bool x8]) rfl rfl rfl ⟨x8, rfl, rfl, H⟩
theorem c_ix128 {N : Nat} {C : Cx} {w : World} {ρ : View} {hs : List Hl} {v1 : Value} {b4 oo : Nat} {x2 : (List Int)} {x5 : Int} (H : Hp C w ρ (hs)) (g : cellsAt ρ b4 oo [.int .i64 x5]) (r3 : RdSl ρ (eI .i64) v1 x2) {r : Int} (hF : F_slices_IndexFunc_int_int N x2 x5 = some r) :
  Calls Tryz.prog 128 [v1, .func (.func 108) #[] [.pointer (some ⟨b4, oo, none⟩)].toArray].toArray w (Rets (fun v w' => (∃ (x88 : Int), x88 = r ∧ .int .i64 x88 = v ∧ Hp C w' ρ (hs)))) := by
 unfold F_slices_IndexFunc_int_int at hF
 have h0 : Tryz.f128.body = some _ := rfl
 refine fn_calls' Tryz.func128 h0 (n := 19) rfl (by simp) <| C_seq <| R_nd <| nq (Q_assign rfl) rfl rfl <| WL_nil <| x_then <| C_seq <| C_seq <| R_nd <| nq (Q_move rfl) rfl rfl <| nq (Q_len Tryz.underlying23 rfl r3) rfl rfl <| nq (Q_move rfl) rfl rfl <| WL_nil <| x_then ?_
 obtain ⟨o129, ho129, hF⟩ := bnd hF
 refine C_cutQ (fun a w' => .inl () = o129 ∧ Fr 19 a [] ∧ Hp C w' ρ (hs)) ?_ ?_
 ·refine C_block ?_
  refine C_iter (f := fun s => F_slices_IndexFunc_int_int_l0 N x2 x5 s) ho129 (fun s a w' => ∃ (x142 : Int), x142 = s ∧ Fr 19 a [(0, v1), (1, .func (.func 108) #[] [.pointer (some ⟨b4, oo, none⟩)].toArray), (7, .int .i64 (x2.length : Int)), (8, .int .i64 x142)] ∧ Hp C w' ρ (hs)) ?_ ?_
  ·exact fun a hf => ⟨0, rfl, hf.sub ⟨rfl, rfl, rfl, rfl, trivial⟩, H⟩
  ·rintro s o155 a wd158 ⟨x142, rfl, hf, H⟩ hB156 hO157
   replace hB156 : F_slices_IndexFunc_int_int_l0 N x2 x5 x142 = some o155 := hB156
   unfold F_slices_IndexFunc_int_int_l0 at hB156
   refine CW.at hf <| C_seq <| R_nd <| nq (Q_lss rfl rfl) rfl rfl <| WL_nil <| x_then <| C_seq ?_
   refine C_cond rfl (fun hb => ?_) (fun hb => ?_)
   ·replace hB156 := itT hb hB156
    refine C_skip <| x_then <| C_seq <| C_block <| C_seq <| R_nd <| nq (Q_move rfl) rfl rfl <| nq (Q_assign rfl) rfl rfl <| WL_nil <| x_then <| C_seq <| R_nd <| nq (Q_move rfl) rfl rfl <| nq (Q_move rfl) rfl rfl ?_
    refine nq (Q_move rfl) rfl rfl ?_
    obtain ⟨x159, hx159, hB156⟩ := bnd hB156
    obtain ⟨b160, o161, c162, hc163, ha164, hi165⟩ := idxR r3 hx159
    refine nq (Q_idx hi165 Tryz.underlying23 xty3 rfl rfl) rfl rfl <| nq (v := .int .i64 x159) (Q_ld (show cellsAt _ _ _ [.int .i64 x159] from (show _ = [_] from hc163) ▸ (ha164.up H.ok.view)) xty3 rfl (fun _ => rfl) rfl rfl) rfl rfl ?_
    obtain ⟨q166, hq166, hB156⟩ := bnd hB156
    refine ne (E_callV fnx108 rfl rfl (c_ix108 H g   hq166)) rfl rfl ?_
    rintro _ wd169 ⟨x168, rfl, rfl, H⟩
    try dsimp only at hB156
    refine WL_nil <| x_then ?_
    refine C_cond rfl (fun hb => ?_) (fun hb => ?_)
    ·replace hB156 := itT hb hB156
     refine C_seq <| R_nd <| nq (Q_move rfl) rfl rfl <| nq (Q_assign rfl) rfl rfl <| WL_nil <| x_then <| C_ret <| x_block_ret <| x_then_ret <| x_then_ret <| x_block_ret <| x_then_ret <| x_then_ret ?_
     obtain rfl := Option.some.inj hB156
     obtain rfl := hO157 _ rfl
     obtain rfl := Option.some.inj (show some _ = some _ from hF)
     exact fn_ret (l := [.tmp 4]) (vs := [.int .i64 x142]) rfl rfl rfl ⟨x142, rfl, rfl, H⟩
    ·replace hB156 := itF hb hB156
     refine C_skip <| x_block <| x_then <| R_nd <| nq (Q_add rfl rfl) rfl rfl <| nq (Q_move rfl) rfl rfl <| WL_nil ?_
     obtain rfl := Option.some.inj hB156
     refine x_A fun a hf => ⟨_, rfl, w64 (x142 + 1), rfl, hf.sub ⟨rfl, rfl, rfl, rfl, trivial⟩, H⟩
   ·replace hB156 := itF hb hB156
    refine C_exit <| x_then_exit <| x_then_exit <| x_block_exit ?_
    obtain rfl := Option.some.inj hB156
    obtain rfl := hO157 _ rfl
    refine x_A fun a hf => ⟨rfl, hf.sub trivial, H⟩
 ·rintro a wd170 ⟨rfl, hf, H⟩
  try dsimp only at hF
  refine XX.at hf <| x_then <| C_seq <| R_nd <| nq (Q_assign rfl) rfl rfl <| WL_nil <| x_then <| C_ret ?_
  obtain rfl := Option.some.inj hF
  exact fn_ret (l := [.tmp 4]) (vs := [.int .i64 (-1)]) rfl rfl rfl ⟨(-1), rfl, rfl, H⟩
theorem ixPr (N : Nat) (x n : Int) : F_subset_Right_1 N x n = some (ilt x 0 || ile n x) := by
  rw [ilt_eq, ile_eq]
  unfold F_subset_Right_1
  by_cases h : x < 0 <;> simp [h]
theorem firB_eq (n : Int) : ∀ (l : List Int) (i : Nat), firB n l i = match l.findIdx? (fun x => ilt x 0 || ile n x) with | some j => ((i + j : Nat) : Int) | none => -1
  | [], _ => rfl
  | x :: l, i => by
    have e : firB n (x :: l) i = bif ilt x 0 || ile n x then .ofNat i else firB n l (i + 1) := rfl
    rw [e, firB_eq n l (i + 1), List.findIdx?_cons]
    cases ilt x 0 || ile n x with
    | true => rfl
    | false =>
      simp only [cond_false, Bool.false_eq_true, if_false]
      cases l.findIdx? (fun x => ilt x 0 || ile n x) with
      | none => rfl
      | some j =>
        show ((i + 1 + j : Nat) : Int) = ((i + (j + 1) : Nat) : Int)
        rw [Nat.add_assoc, Nat.add_comm 1 j]
theorem ixPure {xs : List Int} {n : Int} (hl : xs.length ≤ 1048576) : F_slices_IndexFunc_int_int 1048577 xs n = some (firB n xs 0) := by
  unfold F_slices_IndexFunc_int_int
  generalize hM : (1048577 : Nat) = N
  rw [loop_find xs (fun x => ilt x 0 || ile n x) (fun i => (i : Int)) (by omega) (fun i x hx => by
    have hi := (List.getElem?_eq_some_iff.1 hx).1
    unfold F_slices_IndexFunc_int_int_l0
    simp only [show ((i : Int) < (xs.length : Int)) by omega, decide_true, if_true, idx_of hx, ixPr, bind, Option.bind_some]
    rw [w64_succ (by omega)]) (by unfold F_slices_IndexFunc_int_int_l0; simp), firB_eq]
  cases h : xs.findIdx? (fun x => ilt x 0 || ile n x) with
  | none => rfl
  | some k => simp
theorem ixC : IxC Tryz.prog ⟨261, 282, 128, 108⟩ := by
  intro w v xs b o n hr hl hc
  refine (c_ix128 (Hp.start w) hc hr (ixPure hl)).mono fun e w' he => ?_
  obtain ⟨u, rfl, x, rfl, rfl, H⟩ := he
  exact ⟨_, rfl, rfl, H.os, H.tape, H.out, H.size, fun b hb => H.old b hb (by simp)⟩
end Go.Proofs.YtealkahefalaeaaGreatDoor
namespace Go.Proofs.YtealkahefalaeaaGreatDoor
open Go Go.Eng Go.Cr
set_option maxRecDepth 100000
theorem runXx : XOk Tryz.prog ⟨261, 282, 128, 108⟩ := ⟨⟨_, Tryz.func261, by kernel_rfl, by kernel_rfl, by kernel_rfl, by kernel_rfl⟩, ⟨_, Tryz.func282, by kernel_rfl, by kernel_rfl, by kernel_rfl, by kernel_rfl⟩, .inr ⟨fnx128, ixC⟩⟩
theorem runMx : Tryz.prog.follows .mixedOrders = true := by kernel_rfl
end Go.Proofs.YtealkahefalaeaaGreatDoor
namespace Go.Proofs.YtealkahefalaeaaGreatDoor
open Go Go.Eng Go.Cr
set_option maxRecDepth 100000
theorem run99_0 : ok256 md0r md0l md0m (run Tryz.prog ⟨261, 282, 128, 108⟩ 1000 (.f 99 []) [.s [111, 110, 32, 109, 97, 105, 110, 32, 47, 97, 47, 32, 115, 107, 105, 112]] (h0T 18 .u8 tab_math_bits_deBruijn64tab)) = true := by kernel_rfl
theorem runD99_0 : RunD Tryz.prog 99 [.string ⟨#[111, 110, 32, 109, 97, 105, 110, 32, 47, 97, 47, 32, 115, 107, 105, 112]⟩] (fun ρ => GTab ρ 18 .u8 tab_math_bits_deBruijn64tab) (R256 md0r md0l md0m) := runDT runXx runMx run99_0 ⟨_, _, Tryz.func99, by kernel_rfl, rfl⟩ (by decide) (by decide)
end Go.Proofs.YtealkahefalaeaaGreatDoor
namespace Go.Proofs.YtealkahefalaeaaGreatDoor
open Go Go.Eng Go.Cr
set_option maxRecDepth 100000
theorem run99_1 : ok256 md1r md1l md1m (run Tryz.prog ⟨261, 282, 128, 108⟩ 1000 (.f 99 []) [.s [111, 110, 32, 109, 97, 105, 110, 32, 47, 98, 47, 32, 115, 107, 105, 112]] (h0T 18 .u8 tab_math_bits_deBruijn64tab)) = true := by kernel_rfl
theorem runD99_1 : RunD Tryz.prog 99 [.string ⟨#[111, 110, 32, 109, 97, 105, 110, 32, 47, 98, 47, 32, 115, 107, 105, 112]⟩] (fun ρ => GTab ρ 18 .u8 tab_math_bits_deBruijn64tab) (R256 md1r md1l md1m) := runDT runXx runMx run99_1 ⟨_, _, Tryz.func99, by kernel_rfl, rfl⟩ (by decide) (by decide)
end Go.Proofs.YtealkahefalaeaaGreatDoor
namespace Go.Proofs.YtealkahefalaeaaGreatDoor
open Go Go.Eng
theorem lt_len {α : Type} {xs : List α} {i : Nat} {x : α} (h : xs[i]? = some x) : i < xs.length := (List.getElem?_eq_some_iff.1 h).1
theorem right1 (N : Nat) (x n : Int) : F_subset_Right_1 N x n = some (decide (x < 0) || decide (x ≥ n)) := by
  unfold F_subset_Right_1
  by_cases h : x < 0 <;> simp [h]
theorem right2 (N : Nat) (x : Int) : F_subset_Right_2 N x = some (decide (x < -1) || decide (x ≥ 48)) := by
  unfold F_subset_Right_2
  by_cases h : x < -1 <;> simp [h]
theorem contains1 {N : Nat} {xs : List Int} {n : Int} (hN : 4294967296 ≤ N) (hl : xs.length < 4294967296) : F_slices_ContainsFunc_int_int N xs n = some (xs.any fun x => decide (x < 0) || decide (x ≥ n)) := by
  unfold F_slices_ContainsFunc_int_int F_slices_IndexFunc_int_int
  rw [loop_find xs (fun x => decide (x < 0) || decide (x ≥ n)) (fun i => (i : Int)) (by omega) (fun i x hx => by
    have hi := lt_len hx
    unfold F_slices_IndexFunc_int_int_l0
    simp only [show ((i : Int) < (xs.length : Int)) by omega, decide_true, if_true, idx_of hx, right1, bind, Option.bind_some]
    rw [w64_succ (by omega)]) (by unfold F_slices_IndexFunc_int_int_l0; simp)]
  cases h : xs.findIdx? _ with
  | none =>
    have : xs.any (fun x => decide (x < 0) || decide (x ≥ n)) = false := List.any_eq_false.2 fun x hx => by rw [List.findIdx?_eq_none_iff.1 h x hx]; simp
    simp [this]
  | some k =>
    obtain ⟨hk, hp, _⟩ := List.findIdx?_eq_some_iff_getElem.1 h
    have : xs.any (fun x => decide (x < 0) || decide (x ≥ n)) = true := List.any_eq_true.2 ⟨_, List.getElem_mem hk, hp⟩
    rw [this]
    simp
theorem contains2 {N : Nat} {xs : List Int} (hN : 4294967296 ≤ N) (hl : xs.length < 4294967296) : F_slices_ContainsFunc_int_int_1 N xs = some (xs.any fun x => decide (x < -1) || decide (x ≥ 48)) := by
  unfold F_slices_ContainsFunc_int_int_1 F_slices_IndexFunc_int_int_1
  rw [loop_find xs (fun x => decide (x < -1) || decide (x ≥ 48)) (fun i => (i : Int)) (by omega) (fun i x hx => by
    have hi := lt_len hx
    unfold F_slices_IndexFunc_int_int_1_l0
    simp only [show ((i : Int) < (xs.length : Int)) by omega, decide_true, if_true, idx_of hx, right2, bind, Option.bind_some]
    rw [w64_succ (by omega)]) (by unfold F_slices_IndexFunc_int_int_1_l0; simp)]
  cases h : xs.findIdx? _ with
  | none =>
    have : xs.any (fun x => decide (x < -1) || decide (x ≥ 48)) = false := List.any_eq_false.2 fun x hx => by rw [List.findIdx?_eq_none_iff.1 h x hx]; simp
    simp [this]
  | some k =>
    obtain ⟨hk, hp, _⟩ := List.findIdx?_eq_some_iff_getElem.1 h
    have : xs.any (fun x => decide (x < -1) || decide (x ≥ 48)) = true := List.any_eq_true.2 ⟨_, List.getElem_mem hk, hp⟩
    rw [this]
    simp
/-- what a DFA must be -/
structure Rt (rows : List (List Int)) (rule entry : List Int) : Prop where
  n1 : 1 ≤ rows.length
  n2 : rows.length ≤ 200
  ru : rule.length = rows.length
  e1 : 1 ≤ entry.length
  e2 : entry.length ≤ 8
  row : ∀ r ∈ rows, ∀ x ∈ r, 0 ≤ x ∧ x < rows.length
  rul : ∀ x ∈ rule, -1 ≤ x ∧ x < 48
  ent : ∀ x ∈ entry, 0 ≤ x ∧ x < rows.length
  r0 : rows[0]? = some (List.replicate 256 0)
  u0 : rule[0]? = some (-1)
/-- rows of 256, lists of a length that memory bears -/
structure Sz (rows : List (List Int)) (rule entry : List Int) : Prop where
  w : ∀ r ∈ rows, r.length = 256
  a : rows.length < 4294967296
  b : rule.length < 4294967296
  c : entry.length < 4294967296
theorem right_spec {N : Nat} {rows : List (List Int)} {rule entry : List Int} (hN : 4294967296 ≤ N) (hs : Sz rows rule entry) : ∃ b, F_subset_Right N rows rule entry = some b ∧ (b = true ↔ Rt rows rule entry) := by
  unfold F_subset_Right
  generalize hz : List.replicate 256 (0 : Int) = z
  by_cases a1 : (rows.length : Int) < 1
  · exact ⟨false, by simp [a1], by simp; intro h; have := h.n1; omega⟩
  by_cases a2 : (rows.length : Int) > 200
  · exact ⟨false, by simp [a1, a2], by simp; intro h; have := h.n2; omega⟩
  by_cases a3 : rule.length = rows.length
  case neg =>
    have e0 : ((rule.length : Int) != (rows.length : Int)) = true := by simp; omega
    exact ⟨false, by simp [a1, a2, e0], by simp; intro h; exact a3 h.ru⟩
  by_cases a4 : (entry.length : Int) < 1
  · exact ⟨false, by simp [a1, a2, a3, a4], by simp; intro h; have := h.e1; omega⟩
  by_cases a5 : (entry.length : Int) > 8
  · exact ⟨false, by simp [a1, a2, a3, a4, a5], by simp; intro h; have := h.e2; omega⟩
  have e0 : ((rule.length : Int) != (rows.length : Int)) = false := by simp [a3]
  simp only [decide_eq_false a1, decide_eq_false a2, e0, decide_eq_false a4, decide_eq_false a5, bind, Option.bind_some, Bool.false_eq_true, if_false]
  rw [loop_any rows (fun r => r.any fun x => decide (x < 0) || decide (x ≥ (rows.length : Int))) false (by have := hs.a; omega) (fun i r hr => by
    have hi := lt_len hr
    have hw := hs.w r (List.mem_of_getElem? hr)
    unfold F_subset_Right_l0
    simp only [show ((i : Int) < (rows.length : Int)) by omega, decide_true, if_true, idx_of hr, contains1 hN (show r.length < 4294967296 by omega), bind, Option.bind_some]
    rw [w64_succ (by have := hs.a; omega)]) (by unfold F_subset_Right_l0; simp)]
  by_cases c1 : (rows.any fun r => r.any fun x => decide (x < 0) || decide (x ≥ (rows.length : Int))) = true
  · refine ⟨false, by simp [c1], ?_⟩
    simp
    intro h
    obtain ⟨r, hr, hx⟩ := List.any_eq_true.1 c1
    obtain ⟨x, hx, hp⟩ := List.any_eq_true.1 hx
    have := h.row r hr x hx
    simp at hp; omega
  rw [if_neg c1]
  simp only [contains2 hN hs.b, contains1 hN hs.c, Option.bind_some]
  by_cases c2 : (rule.any fun x => decide (x < -1) || decide (x ≥ 48)) = true
  · refine ⟨false, by simp [c2], ?_⟩
    simp
    intro h
    obtain ⟨x, hx, hp⟩ := List.any_eq_true.1 c2
    have := h.rul x hx
    simp at hp; omega
  by_cases c3 : (entry.any fun x => decide (x < 0) || decide (x ≥ (rows.length : Int))) = true
  · refine ⟨false, by simp [c2, c3], ?_⟩
    simp
    intro h
    obtain ⟨x, hx, hp⟩ := List.any_eq_true.1 c3
    have := h.ent x hx
    simp at hp; omega
  have hr0 : 0 < rows.length := by omega
  have hu0 : 0 < rule.length := by omega
  simp only [if_neg c2, Option.bind_some, if_neg c3]
  have i0 : idx rows 0 = some rows[0] := idx_nat (i := 0) hr0
  have i1 : idx rule 0 = some rule[0] := idx_nat (i := 0) hu0
  rw [i0, i1]
  have c1' : ∀ r ∈ rows, ∀ x ∈ r, 0 ≤ x ∧ x < (rows.length : Int) := by
    intro r hr x hx
    have h1 : (rows.any fun r => r.any fun x => decide (x < 0) || decide (x ≥ (rows.length : Int))) = false := by simpa using c1
    have h2 := List.any_eq_false.1 h1 r hr
    have h3 := List.any_eq_false.1 (by simpa using h2 : (r.any fun x => decide (x < 0) || decide (x ≥ (rows.length : Int))) = false) x hx
    simp at h3; omega
  have c2' : ∀ x ∈ rule, -1 ≤ x ∧ x < 48 := by
    intro x hx
    have h3 := List.any_eq_false.1 (by simpa using c2 : (rule.any fun x => decide (x < -1) || decide (x ≥ 48)) = false) x hx
    simp at h3; omega
  have c3' : ∀ x ∈ entry, 0 ≤ x ∧ x < (rows.length : Int) := by
    intro x hx
    have h3 := List.any_eq_false.1 (by simpa using c3 : (entry.any fun x => decide (x < 0) || decide (x ≥ (rows.length : Int))) = false) x hx
    simp at h3; omega
  by_cases d1 : rows[0] = z
  · by_cases d2 : rule[0] = -1
    · refine ⟨true, by simp [d1, d2], ?_⟩
      simp
      exact ⟨by omega, by omega, a3, by omega, by omega, c1', c2', c3', by rw [List.getElem?_eq_getElem hr0, d1, hz], by rw [List.getElem?_eq_getElem hu0, d2]⟩
    · refine ⟨false, by simp [d1, d2], ?_⟩
      simp
      intro h
      have := h.u0
      rw [List.getElem?_eq_getElem hu0] at this
      exact d2 (Option.some.inj this)
  · refine ⟨false, by simp [d1], ?_⟩
    simp
    intro h
    have := h.r0
    rw [List.getElem?_eq_getElem hr0, hz] at this
    exact d1 (Option.some.inj this)
end Go.Proofs.YtealkahefalaeaaGreatDoor
namespace Go.Proofs.YtealkahefalaeaaGreatDoor
open Go Go.Eng
theorem range_get {n i x : Nat} (h : (List.range n)[i]? = some x) : i < n ∧ x = i := by
  have hl := lt_len h
  simp at hl
  rw [List.getElem?_range hl] at h
  exact ⟨hl, (Option.some.inj h).symm⟩
end Go.Proofs.YtealkahefalaeaaGreatDoor
namespace Go.Proofs.YtealkahefalaeaaGreatDoor
open Go Go.Eng
set_option maxRecDepth 100000
/-- bytes -/
def Byt (text : List Int) : Prop := ∀ c ∈ text, 0 ≤ c ∧ c < 256
/-- a text as a number: the shorter is less, of the same length the least -/
def key (t : List Int) : Nat := t.foldl (fun a c => a * 257 + (c.toNat + 1)) 0
theorem key_snoc (t : List Int) (c : Int) : key (t ++ [c]) = key t * 257 + (c.toNat + 1) := by simp [key]
theorem snoc_of {t : List Int} (h : t ≠ []) : ∃ u c, t = u ++ [c] := ⟨t.dropLast, t.getLast h, (List.dropLast_concat_getLast h).symm⟩
theorem key_nil : key [] = 0 := rfl
theorem Byt.app {t : List Int} {c : Int} : Byt (t ++ [c]) ↔ Byt t ∧ 0 ≤ c ∧ c < 256 := by
  constructor
  · exact fun h => ⟨fun x hx => h x (by simp [hx]), h c (by simp)⟩
  · rintro ⟨h1, h2⟩ x hx
    rcases List.mem_append.1 hx with hx | hx
    · exact h1 x hx
    · simp at hx; subst hx; exact h2
theorem snoc_ind {P : List Int → Prop} (h0 : P []) (h1 : ∀ t c, P t → P (t ++ [c])) : ∀ (n : Nat) (t : List Int), t.length = n → P t
  | 0, t, h => by
    obtain rfl := List.length_eq_zero_iff.1 h
    exact h0
  | n + 1, t, h => by
    obtain ⟨u, c, rfl⟩ := snoc_of (t := t) (fun e => by subst e; simp at h)
    exact h1 u c (snoc_ind h0 h1 n u (by simpa using h))
theorem key_bound {t : List Int} : Byt t → key t < 257 ^ t.length ∧ (1 ≤ t.length → 257 ^ (t.length - 1) ≤ key t) := by
  refine snoc_ind (P := fun t => Byt t → key t < 257 ^ t.length ∧ (1 ≤ t.length → 257 ^ (t.length - 1) ≤ key t)) (fun _ => ⟨by simp [key], by simp⟩) (fun t c ih hb => ?_) _ t rfl
  obtain ⟨hb1, hc⟩ := Byt.app.1 hb
  obtain ⟨i1, i2⟩ := ih hb1
  have e1 : (257 : Nat) ^ (t.length + 1) = 257 ^ t.length * 257 := Nat.pow_succ ..
  rw [key_snoc, List.length_append, List.length_singleton]
  refine ⟨by omega, fun _ => ?_⟩
  rw [Nat.add_sub_cancel]
  by_cases hl : 1 ≤ t.length
  · have := i2 hl
    have e2 : (257 : Nat) ^ t.length = 257 ^ (t.length - 1) * 257 := by
      rw [← Nat.pow_succ]; congr 1; omega
    omega
  · have : t.length = 0 := by omega
    rw [this, Nat.pow_zero]
    omega
theorem key_inj : ∀ {t u : List Int}, Byt t → Byt u → key t = key u → t = u := by
  intro t
  refine snoc_ind (P := fun t => ∀ {u : List Int}, Byt t → Byt u → key t = key u → t = u) (fun {u} _ hu hk => ?_) (fun t c ih {u} ht hu hk => ?_) _ t rfl
  · by_cases hn : u = []
    · exact hn.symm
    · obtain ⟨v, d, rfl⟩ := snoc_of hn
      rw [key_snoc, key_nil] at hk
      omega
  · by_cases hn : u = []
    · subst hn
      rw [key_snoc, key_nil] at hk
      omega
    · obtain ⟨v, d, rfl⟩ := snoc_of hn
      obtain ⟨ht1, hc⟩ := Byt.app.1 ht
      obtain ⟨hu1, hd⟩ := Byt.app.1 hu
      rw [key_snoc, key_snoc] at hk
      have e1 : key t = key v := by omega
      have e2 : c = d := by omega
      rw [ih ht1 hu1 e1, e2]
theorem least {P : Nat → Prop} : ∀ {n : Nat}, P n → ∃ k, k ≤ n ∧ P k ∧ ∀ j, j < k → ¬ P j := by
  intro n
  induction n using Nat.strongRecOn with
  | ind n ih =>
    intro h
    by_cases hc : ∃ j, j < n ∧ P j
    · obtain ⟨j, h1, h2⟩ := hc
      obtain ⟨k, k1, k2, k3⟩ := ih j h1 h2
      exact ⟨k, by omega, k2, k3⟩
    · exact ⟨n, Nat.le_refl _, h, fun j hj hp => hc ⟨j, hj, hp⟩⟩
section
variable {σ : Type} {nx : σ → Int → σ} {G Triv : σ → Prop} {s0 : σ}
def LG (nx : σ → Int → σ) (G : σ → Prop) (s : σ) (t : List Int) : Prop := Byt t ∧ G (t.foldl nx s)
def BestG (nx : σ → Int → σ) (G : σ → Prop) (s : σ) (g : List Int) : Prop := LG nx G s g ∧ ∀ u, LG nx G s u → key g ≤ key u
theorem BestG.uniq {s : σ} {a b : List Int} (h : BestG nx G s a) (h' : BestG nx G s b) : a = b := key_inj h.1.1 h'.1.1 (Nat.le_antisymm (h.2 _ h'.1) (h'.2 _ h.1))
/-- a trivial state leads to trivial ones, none of which is looked for -/
structure TrivOk (nx : σ → Int → σ) (G Triv : σ → Prop) : Prop where
  step : ∀ s c, Triv s → Triv (nx s c)
  none : ∀ s, Triv s → ¬ G s
def Closed (nx : σ → Int → σ) (G Triv : σ → Prop) (S : List σ) (s : σ) : Prop := ¬ G s ∧ ∀ c : Int, 0 ≤ c → c < 256 → nx s c ∈ S ∨ Triv (nx s c)
structure BInv (nx : σ → Int → σ) (G Triv : σ → Prop) (Dm : σ → Prop) (s0 : σ) (S : List σ) (Q : List (σ × List Int)) : Prop where
  a : s0 ∈ S
  nd : S.Nodup
  rng : ∀ s ∈ S, Dm s
  qs : ∀ p ∈ Q, p.1 ∈ S
  byt : ∀ p ∈ Q, Byt p.2 ∧ p.2.foldl nx s0 = p.1 ∧ ∀ u, Byt u → u.foldl nx s0 = p.1 → key p.2 ≤ key u
  len : ∀ p ∈ Q, p.2.length < S.length
  ql : Q.length ≤ S.length
  cl : ∀ s ∈ S, (∃ t, (s, t) ∈ Q) ∨ Closed nx G Triv S s
  srt : (Q.map (fun p => key p.2)).Pairwise (· < ·)
  bnd : ∀ p, Q.head? = some p → ∀ q ∈ Q, key q.2 ≤ key p.2 * 257
/-- amid the children of (s, t) -/
structure BMid (nx : σ → Int → σ) (G Triv : σ → Prop) (Dm : σ → Prop) (s0 s : σ) (t : List Int) (c : Nat) (S : List σ) (Q : List (σ × List Int)) : Prop where
  a : s0 ∈ S
  nd : S.Nodup
  rng : ∀ s ∈ S, Dm s
  qs : ∀ p ∈ Q, p.1 ∈ S
  byt : ∀ p ∈ Q, Byt p.2 ∧ p.2.foldl nx s0 = p.1 ∧ ∀ u, Byt u → u.foldl nx s0 = p.1 → key p.2 ≤ key u
  len : ∀ p ∈ Q, p.2.length < S.length
  ql : Q.length + 1 ≤ S.length
  cl : ∀ z ∈ S, z = s ∨ (∃ t, (z, t) ∈ Q) ∨ Closed nx G Triv S z
  srt : (Q.map (fun p => key p.2)).Pairwise (· < ·)
  bnd : ∀ q ∈ Q, key t < key q.2 ∧ key q.2 ≤ key t * 257 + c
  tb : Byt t ∧ t.foldl nx s0 = s ∧ t.length < S.length ∧ s ∈ S
  ch : ∀ d : Nat, d < c → nx s d ∈ S ∨ Triv (nx s d)
  sm : ∀ v, Byt v → key v < key t → Closed nx G Triv S (v.foldl nx s0) ∨ Triv (v.foldl nx s0)
theorem Closed.mono {S S' : List σ} {s : σ} (h : Closed nx G Triv S s) (hS : ∀ x ∈ S, x ∈ S') : Closed nx G Triv S' s := ⟨h.1, fun c h0 h1 => (h.2 c h0 h1).imp (hS _) id⟩
/-- what is less than all that waits is done -/
theorem BInv.sm {Dm : σ → Prop} {S : List σ} {Q : List (σ × List Int)} (hT : TrivOk nx G Triv) (h : BInv nx G Triv Dm s0 S Q) :
    ∀ v, Byt v → (∀ p ∈ Q, key v < key p.2) → Closed nx G Triv S (v.foldl nx s0) ∨ Triv (v.foldl nx s0) := by
  intro v
  refine snoc_ind (P := fun v => Byt v → (∀ p ∈ Q, key v < key p.2) → Closed nx G Triv S (v.foldl nx s0) ∨ Triv (v.foldl nx s0)) (fun _ hk => ?_) (fun w d ih hb hk => ?_) _ v rfl
  · rcases h.cl s0 h.a with ⟨t, ht⟩ | hc
    · have := hk _ ht
      have h2 := (h.byt _ ht).2.2 [] (fun x hx => by simp at hx) rfl
      omega
    · exact .inl hc
  · obtain ⟨hb1, hd⟩ := Byt.app.1 hb
    rw [key_snoc] at hk
    have e : (w ++ [d]).foldl nx s0 = nx (w.foldl nx s0) d := by rw [List.foldl_append]; rfl
    rcases ih hb1 (fun p hp => by have := hk p hp; omega) with hc | ht
    · rw [e]
      rcases hc.2 d hd.1 hd.2 with hm | ht
      · rcases h.cl _ hm with ⟨t, ht⟩ | hc'
        · have h1 := hk _ ht
          have h2 := (h.byt _ ht).2.2 (w ++ [d]) hb e
          rw [key_snoc] at h2
          omega
        · exact .inl hc'
      · exact .inr ht
    · rw [e]
      exact .inr (hT.step _ _ ht)
theorem BInv.least {Dm : σ → Prop} {S : List σ} {p : σ × List Int} {Q : List (σ × List Int)} (h : BInv nx G Triv Dm s0 S (p :: Q)) : ∀ q ∈ p :: Q, key p.2 ≤ key q.2 := by
  intro q hq
  rcases List.mem_cons.1 hq with rfl | hq
  · exact Nat.le_refl _
  · have := List.rel_of_pairwise_cons h.srt (List.mem_map_of_mem (f := fun p : σ × List Int => key p.2) hq)
    exact Nat.le_of_lt this
theorem BInv.best {Dm : σ → Prop} {S : List σ} {s : σ} {t : List Int} {Q : List (σ × List Int)} (hT : TrivOk nx G Triv) (h : BInv nx G Triv Dm s0 S ((s, t) :: Q)) (hG : G s) : BestG nx G s0 t := by
  obtain ⟨b1, b2, b3⟩ := h.byt (s, t) (by simp)
  simp only at b1 b2 b3
  refine ⟨⟨b1, b2 ▸ hG⟩, fun u hu => ?_⟩
  refine Classical.byContradiction fun hlt => ?_
  rcases h.sm hT u hu.1 (fun p hp => by have := h.least p hp; simp only at this; omega) with hc | ht
  · exact hc.1 hu.2
  · exact hT.none _ ht hu.2
theorem BInv.none {Dm : σ → Prop} {S : List σ} (hT : TrivOk nx G Triv) (h : BInv nx G Triv Dm s0 S []) : ∀ u, ¬ LG nx G s0 u := by
  intro u hu
  rcases h.sm hT u hu.1 (fun p hp => by simp at hp) with hc | ht
  · exact hc.1 hu.2
  · exact hT.none _ ht hu.2
theorem BInv.start {Dm : σ → Prop} (hd : Dm s0) : BInv nx G Triv Dm s0 [s0] [(s0, [])] where
  a := by simp
  nd := by simp
  rng := fun s hs => by simp at hs; subst hs; exact hd
  qs := fun p hp => by simp at hp; subst hp; simp
  byt := fun p hp => by simp at hp; subst hp; exact ⟨fun x hx => by simp at hx, rfl, fun u _ _ => by simp [key]⟩
  len := fun p hp => by simp at hp; subst hp; simp
  ql := by simp
  cl := fun s hs => by simp at hs; subst hs; exact .inl ⟨[], by simp⟩
  srt := by simp
  bnd := fun p hp q hq => by simp at hp hq; subst hp; subst hq; simp [key]
theorem BInv.mid {Dm : σ → Prop} {S : List σ} {s : σ} {t : List Int} {Q : List (σ × List Int)} (hT : TrivOk nx G Triv) (h : BInv nx G Triv Dm s0 S ((s, t) :: Q)) (_hG : ¬ G s) : BMid nx G Triv Dm s0 s t 0 S Q where
  a := h.a
  nd := h.nd
  rng := h.rng
  qs := fun p hp => h.qs p (by simp [hp])
  byt := fun p hp => h.byt p (by simp [hp])
  len := fun p hp => h.len p (by simp [hp])
  ql := by have := h.ql; simp at this; exact this
  cl := fun z hz => by
    rcases h.cl z hz with ⟨u, hu⟩ | hc
    · rcases List.mem_cons.1 hu with he | hu
      · exact .inl (Prod.mk.inj he).1
      · exact .inr (.inl ⟨u, hu⟩)
    · exact .inr (.inr hc)
  srt := (List.pairwise_cons.1 h.srt).2
  bnd := fun q hq => by
    have h1 := List.rel_of_pairwise_cons h.srt (List.mem_map_of_mem (f := fun p : σ × List Int => key p.2) hq)
    have h2 := h.bnd (s, t) rfl q (by simp [hq])
    exact ⟨h1, by simpa using h2⟩
  tb := by
    obtain ⟨b1, b2, _⟩ := h.byt (s, t) (by simp)
    exact ⟨b1, b2, h.len (s, t) (by simp), h.qs (s, t) (by simp)⟩
  ch := fun d hd => by omega
  sm := fun v hv hk => h.sm hT v hv fun p hp => by have := h.least p hp; simp only at this; omega
/-- a child that is known, or trivial -/
theorem BMid.skip {Dm : σ → Prop} {S : List σ} {s : σ} {t : List Int} {c : Nat} {Q : List (σ × List Int)} (h : BMid nx G Triv Dm s0 s t c S Q) (hk : nx s (c : Int) ∈ S ∨ Triv (nx s (c : Int))) : BMid nx G Triv Dm s0 s t (c + 1) S Q :=
  { h with
    bnd := fun q hq => by have := h.bnd q hq; omega
    ch := fun d hd => by
      by_cases hdc : d = c
      · subst hdc; exact hk
      · exact h.ch d (by omega) }
/-- a fresh child -/
theorem BMid.push {Dm : σ → Prop} {S : List σ} {s : σ} {t : List Int} {c : Nat} {Q : List (σ × List Int)} (hT : TrivOk nx G Triv) (h : BMid nx G Triv Dm s0 s t c S Q) (hc : c < 256) (hn : nx s (c : Int) ∉ S) (ht : ¬ Triv (nx s (c : Int))) (hd : Dm (nx s (c : Int))) :
    BMid nx G Triv Dm s0 s t (c + 1) (S ++ [nx s (c : Int)]) (Q ++ [(nx s (c : Int), t ++ [(c : Int)])]) := by
  obtain ⟨t1, t2, t3, t4⟩ := h.tb
  have hkey : key (t ++ [(c : Int)]) = key t * 257 + (c + 1) := by rw [key_snoc]; simp
  have hsub : ∀ x ∈ S, x ∈ S ++ [nx s (c : Int)] := fun x hx => by simp [hx]
  refine ⟨by simp [h.a], ?_, ?_, ?_, ?_, ?_, ?_, ?_, ?_, ?_, ?_, ?_, ?_⟩
  · rw [List.nodup_append]
    exact ⟨h.nd, by simp, fun x hx y hy => by simp at hy; subst hy; intro he; subst he; exact hn hx⟩
  · intro x hx
    rcases List.mem_append.1 hx with hx | hx
    · exact h.rng x hx
    · simp at hx; subst hx; exact hd
  · intro p hp
    rcases List.mem_append.1 hp with hp | hp
    · exact hsub _ (h.qs p hp)
    · simp at hp; subst hp; simp
  · intro p hp
    rcases List.mem_append.1 hp with hp | hp
    · exact h.byt p hp
    · simp at hp; subst hp
      refine ⟨Byt.app.2 ⟨t1, by omega, by omega⟩, by rw [List.foldl_append, t2]; rfl, fun u hu he => ?_⟩
      refine Classical.byContradiction fun hlt => ?_
      simp only at he hlt
      rw [hkey] at hlt
      by_cases hu0 : u = []
      · subst hu0
        exact hn (he ▸ h.a)
      · obtain ⟨v, d, rfl⟩ := snoc_of hu0
        obtain ⟨hv, hdr⟩ := Byt.app.1 hu
        rw [key_snoc] at hlt
        have he' : nx (v.foldl nx s0) d = nx s (c : Int) := by rw [← he, List.foldl_append]; rfl
        have hkv : key v ≤ key t := by omega
        by_cases hkt : key v = key t
        · have hvt := key_inj hv t1 hkt
          rw [hvt, t2] at he'
          rw [hkt] at hlt
          have hdc : d.toNat < c := by omega
          rcases h.ch d.toNat hdc with hm | hm
          · rw [show ((d.toNat : Nat) : Int) = d by omega, he'] at hm
            exact hn hm
          · rw [show ((d.toNat : Nat) : Int) = d by omega, he'] at hm
            exact ht hm
        · rcases h.sm v hv (by omega) with hcl | htr
          · rcases hcl.2 d hdr.1 hdr.2 with hm | hm
            · rw [he'] at hm; exact hn hm
            · rw [he'] at hm; exact ht hm
          · have := hT.step _ d htr
            rw [he'] at this
            exact ht this
  · intro p hp
    rw [List.length_append, List.length_singleton]
    rcases List.mem_append.1 hp with hp | hp
    · have := h.len p hp; omega
    · simp at hp; subst hp; simp; omega
  · have := h.ql
    simp only [List.length_append, List.length_singleton]
    omega
  · intro z hz
    rcases List.mem_append.1 hz with hz | hz
    · rcases h.cl z hz with h1 | ⟨u, h1⟩ | h1
      · exact .inl h1
      · exact .inr (.inl ⟨u, by simp [h1]⟩)
      · exact .inr (.inr (h1.mono hsub))
    · simp at hz; subst hz
      exact .inr (.inl ⟨t ++ [(c : Int)], by simp⟩)
  · rw [List.map_append, List.pairwise_append]
    refine ⟨h.srt, by simp, fun x hx y hy => ?_⟩
    obtain ⟨p, hp, rfl⟩ := List.mem_map.1 hx
    simp at hy; subst hy
    have := (h.bnd p hp).2
    rw [hkey]
    omega
  · intro q hq
    rcases List.mem_append.1 hq with hq | hq
    · have := h.bnd q hq; omega
    · simp at hq; subst hq
      simp only [hkey]
      omega
  · exact ⟨t1, t2, by simp; omega, hsub _ t4⟩
  · intro d hd
    by_cases hdc : d = c
    · subst hdc; exact .inl (by simp)
    · exact (h.ch d (by omega)).imp (hsub _) id
  · exact fun v hv hk => (h.sm v hv hk).imp (fun hc => hc.mono hsub) id
theorem BMid.done {Dm : σ → Prop} {S : List σ} {s : σ} {t : List Int} {Q : List (σ × List Int)} (h : BMid nx G Triv Dm s0 s t 256 S Q) (hG : ¬ G s) : BInv nx G Triv Dm s0 S Q where
  a := h.a
  nd := h.nd
  rng := h.rng
  qs := h.qs
  byt := h.byt
  len := h.len
  ql := by have := h.ql; omega
  cl := fun z hz => by
    rcases h.cl z hz with rfl | h1
    · refine .inr ⟨hG, fun c h0 h1 => ?_⟩
      have := h.ch c.toNat (by omega)
      rwa [show ((c.toNat : Nat) : Int) = c by omega] at this
    · exact h1
  srt := h.srt
  bnd := fun p hp q hq => by
    have h1 := (h.bnd p (List.mem_of_mem_head? (by simp [hp]))).1
    have h2 := (h.bnd q hq).2
    omega
end
end Go.Proofs.YtealkahefalaeaaGreatDoor
namespace Go.Proofs.YtealkahefalaeaaGreatDoor
open Go Go.Eng
set_option maxRecDepth 100000
section
variable {σ : Type} {nx : σ → Int → σ} {G Dm : σ → Prop}
def InG (nx : σ → Int → σ) (G : σ → Prop) (k : Nat) (s : σ) : Prop := ∃ t, LG nx G s t ∧ t.length = k
def DistG (nx : σ → Int → σ) (G : σ → Prop) (s : σ) (k : Nat) : Prop := InG nx G k s ∧ ∀ j, j < k → ¬ InG nx G j s
theorem lg_cons {s : σ} {c : Int} {t : List Int} : LG nx G s (c :: t) ↔ (0 ≤ c ∧ c < 256) ∧ LG nx G (nx s c) t := by
  constructor
  · rintro ⟨h1, h2⟩
    exact ⟨h1 c (by simp), fun y hy => h1 y (by simp [hy]), h2⟩
  · rintro ⟨h1, h2, h3⟩
    refine ⟨fun y hy => ?_, h3⟩
    rcases List.mem_cons.1 hy with rfl | hy
    · exact h1
    · exact h2 y hy
theorem inG_zero {s : σ} : InG nx G 0 s ↔ G s := by
  constructor
  · rintro ⟨t, h, hl⟩
    obtain rfl := List.length_eq_zero_iff.1 hl
    exact h.2
  · exact fun h => ⟨[], ⟨fun y hy => by simp at hy, h⟩, rfl⟩
theorem inG_succ {s : σ} {k : Nat} : InG nx G (k + 1) s ↔ ∃ c : Int, (0 ≤ c ∧ c < 256) ∧ InG nx G k (nx s c) := by
  constructor
  · rintro ⟨t, h, hl⟩
    cases t with
    | nil => simp at hl
    | cons c t =>
      obtain ⟨h1, h2⟩ := lg_cons.1 h
      exact ⟨c, h1, t, h2, by simpa using hl⟩
  · rintro ⟨c, hc, t, h, hl⟩
    exact ⟨c :: t, lg_cons.2 ⟨hc, h⟩, by simp [hl]⟩
theorem DistG.uniq {s : σ} {a b : Nat} (h : DistG nx G s a) (h' : DistG nx G s b) : a = b := by
  rcases Nat.lt_trichotomy a b with hl | he | hl
  · exact absurd h.1 (h'.2 a hl)
  · exact he
  · exact absurd h'.1 (h.2 b hl)
/-- going down by the least byte finds the best text -/
structure DescG (nx : σ → Int → σ) (G : σ → Prop) (s0 : σ) (D : Nat) (s : σ) (o : List Int) : Prop where
  b : Byt o
  f : o.foldl nx s0 = s
  l : o.length ≤ D
  d : DistG nx G s (D - o.length)
  k : ∀ u, LG nx G s0 u → u.length = D → key o ≤ key (u.take o.length)
theorem DescG.start {s0 : σ} {D : Nat} (h : DistG nx G s0 D) : DescG nx G s0 D s0 [] := ⟨fun z hz => by simp at hz, rfl, by simp, by simpa using h, fun u _ _ => by simp⟩
theorem DescG.next {s0 s : σ} {D : Nat} {o : List Int} (h : DescG nx G s0 D s o) (hl : o.length < D) {c : Nat} (hc : c < 256) (hd : DistG nx G (nx s (c : Int)) (D - (o.length + 1))) (hn : ∀ d : Nat, d < c → ¬ DistG nx G (nx s (d : Int)) (D - (o.length + 1))) :
    DescG nx G s0 D (nx s (c : Int)) (o ++ [(c : Int)]) := by
  obtain ⟨i1, i2, i3, i5, i6⟩ := h
  refine ⟨Byt.app.2 ⟨i1, by omega, by omega⟩, by rw [List.foldl_append, ← i2]; rfl, by simp; omega, by rw [List.length_append, List.length_singleton]; exact hd, fun u hu hul => ?_⟩
  have hol : o.length < u.length := by omega
  rw [List.length_append, List.length_singleton, List.take_add_one, List.getElem?_eq_getElem hol]
  show _ ≤ key (u.take o.length ++ [u[o.length]])
  have hub := hu.1 _ (List.getElem_mem hol)
  rw [key_snoc, key_snoc]
  have h6 := i6 u hu hul
  by_cases hk : key o = key (u.take o.length)
  · have hou := key_inj i1 (fun z hz => hu.1 z (List.mem_of_mem_take hz)) hk
    have hcu : c ≤ u[o.length].toNat := by
      refine Classical.byContradiction fun hlt => hn u[o.length].toNat (by omega) ?_
      rw [show ((u[o.length].toNat : Nat) : Int) = u[o.length] by omega]
      have hl1 : InG nx G (D - (o.length + 1)) (nx s u[o.length]) := by
        refine ⟨u.drop (o.length + 1), ⟨fun z hz => hu.1 z (List.mem_of_mem_drop hz), ?_⟩, by rw [List.length_drop]; omega⟩
        have h2 := hu.2
        rw [← List.take_append_drop (o.length + 1) u, List.foldl_append, List.take_add_one, List.getElem?_eq_getElem hol, List.foldl_append, ← hou, i2] at h2
        exact h2
      refine ⟨hl1, fun j hj hlj => i5.2 (j + 1) (by omega) (inG_succ.2 ⟨_, hub, hlj⟩)⟩
    omega
  · omega
theorem DescG.done {s0 s : σ} {D : Nat} {o : List Int} (h0 : DistG nx G s0 D) (h : DescG nx G s0 D s o) (hl : o.length = D) : BestG nx G s0 o ∧ G s := by
  obtain ⟨i1, i2, i3, i5, i6⟩ := h
  rw [hl, Nat.sub_self] at i5
  have hg : G s := inG_zero.1 i5.1
  refine ⟨⟨⟨i1, i2 ▸ hg⟩, fun u hu => ?_⟩, hg⟩
  have hlu : D ≤ u.length := Nat.le_of_not_lt fun hlt => h0.2 _ hlt ⟨u, hu, rfl⟩
  by_cases he : u.length = D
  · have := i6 u hu he
    rw [hl, ← he, List.take_length] at this
    exact this
  · have b1 := (key_bound i1).1
    have b2 := (key_bound hu.1).2 (by omega)
    have b3 : (257 : Nat) ^ o.length ≤ 257 ^ (u.length - 1) := Nat.pow_le_pow_right (by omega) (by omega)
    omega
end
theorem nodup_lenG {α : Type} [BEq α] [LawfulBEq α] : ∀ {l m : List α}, l.Nodup → (∀ x ∈ l, x ∈ m) → l.length ≤ m.length
  | [], _, _, _ => by simp
  | x :: l, m, hn, hs => by
    obtain ⟨h1, h2⟩ := List.nodup_cons.1 hn
    have hx := hs x (by simp)
    have := nodup_lenG (l := l) (m := m.erase x) h2 (fun y hy => (List.mem_erase_of_ne (show y ≠ x from fun e => h1 (e ▸ hy))).2 (hs y (by simp [hy])))
    rw [List.length_erase_of_mem hx] at this
    have : 0 < m.length := List.length_pos_of_mem hx
    simp; omega
def nxt (rows : List (List Int)) (s c : Int) : Int := (rows.getD s.toNat []).getD c.toNat 0
def beg (entry : List Int) (cond : Int) : Int := if 0 ≤ cond ∧ cond < (entry.length : Int) then entry.getD cond.toNat 0 else 0
section
variable {N : Nat} {rows : List (List Int)} {rule entry : List Int}
theorem nxt_get (hs : Sz rows rule entry) {s c : Int} (hr : 0 ≤ s ∧ s < rows.length) (hc : 0 ≤ c ∧ c < 256) : ∃ row, idx rows s = some row ∧ row ∈ rows ∧ idx row c = some (nxt rows s c) ∧ nxt rows s c ∈ row := by
  have hl : s.toNat < rows.length := by omega
  have hw := hs.w _ (List.getElem_mem hl)
  have e1 : rows.getD s.toNat [] = rows[s.toNat] := by rw [List.getD, List.getElem?_eq_getElem hl]; rfl
  have hcl : c.toNat < rows[s.toNat].length := by omega
  have e2 : nxt rows s c = rows[s.toNat][c.toNat] := by unfold nxt; rw [e1, List.getD, List.getElem?_eq_getElem hcl]; rfl
  exact ⟨rows[s.toNat], idx_int hr.1 hl, List.getElem_mem hl, by rw [e2]; exact idx_int hc.1 hcl, e2 ▸ List.getElem_mem hcl⟩
theorem nxt_rng (hs : Sz rows rule entry) (h : Rt rows rule entry) {s c : Int} (hr : 0 ≤ s ∧ s < rows.length) (hc : 0 ≤ c ∧ c < 256) : 0 ≤ nxt rows s c ∧ nxt rows s c < rows.length := by
  obtain ⟨row, _, h2, _, h4⟩ := nxt_get hs hr hc
  exact h.row row h2 _ h4
theorem beg_rng (h : Rt rows rule entry) (cond : Int) : 0 ≤ beg entry cond ∧ beg entry cond < rows.length := by
  unfold beg
  split
  · rename_i hc
    have hl : cond.toNat < entry.length := by omega
    rw [List.getD, List.getElem?_eq_getElem hl]
    exact h.ent _ (List.getElem_mem hl)
  · have := h.n1; omega
theorem rule_at (h : Rt rows rule entry) {s : Int} (hr : 0 ≤ s ∧ s < rows.length) : idx rule s = some (rule.getD s.toNat 0) ∧ -1 ≤ rule.getD s.toNat 0 ∧ rule.getD s.toNat 0 < 48 := by
  have hru := h.ru
  have hl : s.toNat < rule.length := by omega
  rw [List.getD, List.getElem?_eq_getElem hl]
  exact ⟨idx_int hr.1 hl, h.rul _ (List.getElem_mem hl)⟩
theorem right_t (hN : 4294967296 ≤ N) (hs : Sz rows rule entry) (h : Rt rows rule entry) : F_subset_Right N rows rule entry = some true := by
  obtain ⟨b, hb, hbt⟩ := right_spec hN hs
  rw [hbt.2 h] at hb; exact hb
theorem right_f (hN : 4294967296 ≤ N) (hs : Sz rows rule entry) (h : ¬ Rt rows rule entry) : F_subset_Right N rows rule entry = some false := by
  obtain ⟨b, hb, hbt⟩ := right_spec hN hs
  cases b with
  | false => exact hb
  | true => exact absurd (hbt.1 rfl) h
end
/-- two DFAs -/
structure Two where
  ra : List (List Int)
  ua : List Int
  ea : List Int
  rb : List (List Int)
  ub : List Int
  eb : List Int
/-- .. that are right -/
structure Two.Ok (T : Two) : Prop where
  sa : Sz T.ra T.ua T.ea
  ha : Rt T.ra T.ua T.ea
  sb : Sz T.rb T.ub T.eb
  hb : Rt T.rb T.ub T.eb
def Two.nx (T : Two) (p : Int × Int) (c : Int) : Int × Int := (nxt T.ra p.1 c, nxt T.rb p.2 c)
def Two.dm (T : Two) (p : Int × Int) : Prop := (0 ≤ p.1 ∧ p.1 < T.ra.length) ∧ (0 ≤ p.2 ∧ p.2 < T.rb.length)
def Two.ru (T : Two) (p : Int × Int) : Int × Int := (T.ua.getD p.1.toNat 0, T.ub.getD p.2.toNat 0)
def Two.bg (T : Two) (cond : Int) : Int × Int := (beg T.ea cond, beg T.eb cond)
variable {T : Two}
theorem Two.Ok.nx (h : T.Ok) : ∀ (p : Int × Int) (c : Int), T.dm p → 0 ≤ c ∧ c < 256 → T.dm (T.nx p c) := fun _ _ hp hc => ⟨nxt_rng h.sa h.ha hp.1 hc, nxt_rng h.sb h.hb hp.2 hc⟩
theorem Two.Ok.bg (h : T.Ok) (cond : Int) : T.dm (T.bg cond) := ⟨beg_rng h.ha cond, beg_rng h.hb cond⟩
theorem Two.Ok.len (h : T.Ok) {l : List (Int × Int)} (hn : l.Nodup) (hr : ∀ p ∈ l, T.dm p) : l.length ≤ 40000 := by
  have h1 := h.ha.n2
  have h2 := h.hb.n2
  have hn' : (l.map fun p : Int × Int => p.1.toNat * 200 + p.2.toNat).Nodup := by
    clear h1 h2
    induction l with
    | nil => simp
    | cons x l ih =>
      obtain ⟨hx, hn⟩ := List.nodup_cons.1 hn
      rw [List.map_cons, List.nodup_cons]
      refine ⟨fun hm => ?_, ih hn (fun p hp => hr p (by simp [hp]))⟩
      obtain ⟨y, hy, he⟩ := List.mem_map.1 hm
      have a := hr x (by simp)
      have b := hr y (by simp [hy])
      have h1 := h.ha.n2
      have h2 := h.hb.n2
      unfold Two.dm at a b
      obtain ⟨x1, x2⟩ := x
      obtain ⟨y1, y2⟩ := y
      simp only at he a b
      have e1 : y1 = x1 := by omega
      have e2 : y2 = x2 := by omega
      subst e1 e2
      exact hx hy
  have := nodup_lenG (m := List.range 40000) hn' (fun n hn => by
    obtain ⟨p, hp, rfl⟩ := List.mem_map.1 hn
    have a := hr p hp
    unfold Two.dm at a
    rw [List.mem_range]
    omega)
  simpa using this
end Go.Proofs.YtealkahefalaeaaGreatDoor
namespace Go.Proofs.YtealkahefalaeaaGreatDoor
open Go Go.Eng
set_option maxRecDepth 100000
def sn (S : List (Int × Int)) : List ((Int × Int) × Int) := S.map fun p => (p, 1)
theorem sn_find (S : List (Int × Int)) (p : Int × Int) : ((sn S).find? fun e => e.1 == p) = if p ∈ S then some (p, 1) else none := by
  unfold sn
  induction S with
  | nil => rfl
  | cons q S ih =>
    rw [List.map_cons, List.find?_cons]
    by_cases h : q = p
    · subst h; simp
    · have e : (q == p) = false := by simpa using h
      have e2 : ¬ p = q := fun e => h e.symm
      simp only [e, ih, List.mem_cons, e2, false_or]
theorem sn_get (S : List (Int × Int)) (p : Int × Int) : (mget (sn S) p).getD 0 = if p ∈ S then 1 else 0 := by
  unfold mget
  rw [sn_find]
  split <;> rfl
theorem sn_fi {S : List (Int × Int)} {p : Int × Int} (h : p ∉ S) : ((sn S).findIdx? fun e => e.1 == p) = none := by
  rw [List.findIdx?_eq_none_iff]
  intro x hx
  obtain ⟨q, hq, rfl⟩ := List.mem_map.1 hx
  have : ¬ q = p := fun e => h (e ▸ hq)
  simpa using this
theorem modify_len {α : Type} (f : α → α) (x : α) : ∀ (l : List α), (l ++ [x]).modify l.length f = l ++ [f x]
  | [] => rfl
  | y :: l => by simp only [List.cons_append, List.length_cons, List.modify_succ_cons, modify_len f x l]
theorem sn_set {S : List (Int × Int)} {p : Int × Int} (h : p ∉ S) : mset (mset (sn S) p 0) p 1 = sn (S ++ [p]) := by
  have e1 : mset (sn S) p (0 : Int) = sn S ++ [(p, 0)] := by unfold mset; rw [sn_fi h]
  rw [e1]
  unfold mset
  have e2 : ((sn S ++ [(p, (0 : Int))]).findIdx? fun e => e.1 == p) = some (sn S).length := by
    rw [List.findIdx?_append, sn_fi h]; simp
  rw [e2]
  simp only
  rw [modify_len]
  simp [sn]
theorem slc_tail {α : Type} (x : α) (l : List α) : slc (x :: l) 1 (((x :: l).length : Nat) : Int) = some l := by
  unfold slc
  rw [if_pos ⟨by omega, by simp; omega, by omega⟩]
  simp
theorem wrap8 {c : Nat} (h : c < 256) : IntKind.wrap .u8 (c : Int) = (c : Int) := by
  simp [IntKind.wrap, IntKind.signed, IntKind.bits]
  omega
section
variable {N : Nat} {T : Two}
theorem next2_spec (hT : T.Ok) {p : Int × Int} {c : Int} (hp : T.dm p) (hc : 0 ≤ c ∧ c < 256) : F_product_two_next N T.ra T.ua T.ea T.rb T.ub T.eb p.1 p.2 c = some (T.nx p c) := by
  obtain ⟨r1, a1, _, a3, _⟩ := nxt_get hT.sa hp.1 hc
  obtain ⟨r2, b1, _, b3, _⟩ := nxt_get hT.sb hp.2 hc
  unfold F_product_two_next
  simp only [a1, a3, b1, b3, bind, Option.bind_some]
  rfl
theorem entry_spec {rows : List (List Int)} {rule entry : List Int} (cond : Int) : F_product_entry N rows rule entry cond = some (beg entry cond) := by
  unfold F_product_entry beg
  by_cases h1 : cond < 0
  · have : ¬ (0 ≤ cond ∧ cond < (entry.length : Int)) := by omega
    simp [h1, this]
  by_cases h2 : cond ≥ (entry.length : Int)
  · have : ¬ (0 ≤ cond ∧ cond < (entry.length : Int)) := by omega
    simp [h1, h2, this]
  · have h3 : 0 ≤ cond ∧ cond < (entry.length : Int) := by omega
    have hl : cond.toNat < entry.length := by omega
    rw [if_pos h3, List.getD, List.getElem?_eq_getElem hl]
    simp only [h1, h2, decide_false, Bool.false_eq_true, if_false, bind, Option.bind_some, idx_int h3.1 hl]
    rfl
theorem begin2_spec (cond : Int) : F_product_two_begin N T.ra T.ua T.ea T.rb T.ub T.eb cond = some (T.bg cond) := by
  unfold F_product_two_begin
  simp only [entry_spec, bind, Option.bind_some]
  rfl
theorem rules2_spec (hT : T.Ok) {p : Int × Int} (hp : T.dm p) : F_product_two_rules N T.ra T.ua T.ea T.rb T.ub T.eb p.1 p.2 = some (T.ru p) := by
  unfold F_product_two_rules
  simp only [(rule_at hT.ha hp.1).1, (rule_at hT.hb hp.2).1, bind, Option.bind_some]
  rfl
def noT : Int × Int → Prop := fun _ => False
theorem noT_ok (G : Int × Int → Prop) : TrivOk T.nx G noT := ⟨fun _ _ h => h, fun _ h => h.elim⟩
/-- the children of a pair -/
theorem kids (hN : 4294967296 ≤ N) (hT : T.Ok) {G : Int × Int → Prop} {s0 s : Int × Int} {t : List Int} {S : List (Int × Int)} {Q : List ((Int × Int) × List Int)} (hm : BMid T.nx G noT T.dm s0 s t 0 S Q) :
    ∃ S' Q', iterO N (fun q => F_product_two_find_l1 N T.ra T.ua T.ea T.rb T.ub T.eb (s, t) q.1 q.2.1 q.2.2) ((s, t) :: Q, 0, sn S) = some ((s, t) :: Q', sn S') ∧ BMid T.nx G noT T.dm s0 s t 256 S' Q' ∧ Q'.length + S.length = Q.length + S'.length ∧ S.length ≤ S'.length := by
  obtain ⟨r, h1, S', Q', h2, h3, h4⟩ := loop_inv (f := fun q => F_product_two_find_l1 N T.ra T.ua T.ea T.rb T.ub T.eb (s, t) q.1 q.2.1 q.2.2) (fun i (q : List ((Int × Int) × List Int) × List ((Int × Int) × Int)) => (q.1, (i : Int), q.2)) id (List.range 256)
    (fun i q => ∃ S' Q', q = ((s, t) :: Q', sn S') ∧ BMid T.nx G noT T.dm s0 s t i S' Q' ∧ Q'.length + S.length = Q.length + S'.length ∧ S.length ≤ S'.length) (N := N) (s := ((s, t) :: Q, sn S)) (by simp; omega)
    ⟨S, Q, rfl, hm, rfl, Nat.le_refl _⟩
    (fun i x q hx hI => by
      obtain ⟨hi, rfl⟩ := range_get hx
      obtain ⟨S1, Q1, rfl, hm1, e1, e2⟩ := hI
      have hds : T.dm s := hm1.rng s hm1.tb.2.2.2
      have hn := next2_spec (N := N) hT hds (c := (x : Int)) ⟨by omega, by omega⟩
      have hdn := hT.nx s x hds ⟨by omega, by omega⟩
      unfold F_product_two_find_l1
      simp only [show ((x : Int) < 256) by omega, decide_true, if_true, hn, bind, Option.bind_some]
      rw [w64_succ (n := x) (by omega)]
      by_cases hin : T.nx s x ∈ S1
      · refine ⟨((s, t) :: Q1, sn S1), ?_, S1, Q1, rfl, hm1.skip (.inl hin), e1, e2⟩
        have : ((mget (sn S1) (T.nx s x)).getD 0 == 0) = false := by rw [sn_get, if_pos hin]; rfl
        simp only [this, Bool.false_eq_true, if_false, Option.bind_some]
      · have hm2 := hm1.push (noT_ok G) hi hin (fun h => h) hdn
        refine ⟨((s, t) :: (Q1 ++ [(T.nx s x, t ++ [(x : Int)])]), sn (S1 ++ [T.nx s x])), ?_, _, _, rfl, hm2, by simp; omega, by simp; omega⟩
        have : ((mget (sn S1) (T.nx s x)).getD 0 == 0) = true := by rw [sn_get, if_neg hin]; rfl
        have h0 : (mget (sn S1) (T.nx s x)).getD 0 = 0 := by rw [sn_get, if_neg hin]
        have hS := hT.len hm2.nd hm2.rng
        have hq := hm2.ql
        have ht := hm1.tb.2.2.1
        simp only [List.length_append, List.length_singleton] at hS hq
        unfold F_clone_139
        simp only [h0]
        rw [app_eq (by simp; omega)]
        simp only [Option.bind_some, List.nil_append]
        rw [app_eq (by simp; omega)]
        simp only [Option.bind_some]
        rw [app_eq (by simp; omega)]
        simp only [Option.bind_some, show w64 (0 + 1) = 1 from rfl, sn_set hin, wrap8 hi]
        rfl)
    (fun q _ => by unfold F_product_two_find_l1; simp)
  subst h2
  simp only [List.length_range] at h3
  exact ⟨S', Q', h1, h3, h4⟩
/-- what a search answers -/
def Found (T : Two) (G : Int × Int → Prop) (s0 : Int × Int) : (Int × Int × List Int) ⊕ Unit → Prop
  | .inl (p, q, t) => BestG T.nx G s0 t ∧ (p, q) = t.foldl T.nx s0 ∧ T.dm (p, q)
  | .inr () => ∀ u, ¬ LG T.nx G s0 u
theorem search (hN : 4294967296 ≤ N) (hT : T.Ok) {g : Int → Int → Bool} {f : List ((Int × Int) × List Int) × List ((Int × Int) × Int) → Option ((List ((Int × Int) × List Int) × List ((Int × Int) × Int)) ⊕ (Unit ⊕ ((Int × Int × List Int) ⊕ Unit)))}
    (f0 : ∀ m, f ([], m) = some (.inr (.inl ())))
    (f1 : ∀ (p : Int × Int) (t : List Int) Q m, T.dm p → f ((p, t) :: Q, m) = if g (T.ru p).1 (T.ru p).2 = true then some (.inr (.inr (.inl (p.1, p.2, t)))) else (iterO N (fun q => F_product_two_find_l1 N T.ra T.ua T.ea T.rb T.ub T.eb (p, t) q.1 q.2.1 q.2.2) ((p, t) :: Q, 0, m)) >>= fun x => slc x.1 1 (x.1.length : Int) >>= fun y => some (.inl (y, x.2)))
    {s0 : Int × Int} (h0 : T.dm s0) : ∃ z, ((iterO N f ([(s0, [])], mset ([] : List ((Int × Int) × Int)) s0 1)) >>= fun z => match z with | .inr z => some z | .inl _ => some (.inr ())) = some z ∧ Found T (fun p => g (T.ru p).1 (T.ru p).2 = true) s0 z := by
  have hm0 : mset ([] : List ((Int × Int) × Int)) s0 1 = sn [s0] := rfl
  rw [hm0]
  obtain ⟨r, h1, h2⟩ := iterO_while (f := f) (fun q => ∃ S Q, q = (Q, sn S) ∧ BInv T.nx (fun p => g (T.ru p).1 (T.ru p).2 = true) noT T.dm s0 S Q) (fun q => q.1.length + 2 * (40001 - q.2.length))
    (fun r => (r = .inl () ∧ ∀ u, ¬ LG T.nx (fun p => g (T.ru p).1 (T.ru p).2 = true) s0 u) ∨ ∃ p t, r = .inr (.inl (p, t)) ∧ BestG T.nx (fun p => g (T.ru p).1 (T.ru p).2 = true) s0 t.2 ∧ (p, t.1) = t.2.foldl T.nx s0 ∧ T.dm (p, t.1))
    (fun q hI => by
      obtain ⟨S, Q, rfl, hB⟩ := hI
      cases Q with
      | nil => exact .inr ⟨_, f0 _, .inl ⟨rfl, hB.none (noT_ok _)⟩⟩
      | cons w Q =>
        obtain ⟨p, t⟩ := w
        have hp : T.dm p := hB.rng p (hB.qs (p, t) (by simp))
        rw [f1 p t Q _ hp]
        by_cases hg : g (T.ru p).1 (T.ru p).2 = true
        · rw [if_pos hg]
          refine .inr ⟨_, rfl, .inr ⟨p.1, (p.2, t), rfl, hB.best (noT_ok _) hg, ?_, hp⟩⟩
          exact ((hB.byt (p, t) (by simp)).2.1).symm
        · rw [if_neg hg]
          obtain ⟨S', Q', k1, k2, k3, k4⟩ := kids hN hT (hB.mid (noT_ok _) hg)
          have hS := hT.len k2.nd k2.rng
          refine .inl ⟨(Q', sn S'), ?_, ⟨S', Q', rfl, k2.done hg⟩, ?_⟩
          · rw [k1]
            simp only [bind, Option.bind_some]
            rw [slc_tail]
            rfl
          · simp only [sn, List.length_map, List.length_cons]
            omega) (N := N) (s := ([(s0, [])], sn [s0])) ⟨[s0], [(s0, [])], rfl, BInv.start h0⟩ (by simp [sn]; omega)
  rw [h1]
  simp only [bind, Option.bind_some]
  rcases h2 with ⟨rfl, h2⟩ | ⟨p, t, rfl, h2⟩
  · exact ⟨.inr (), rfl, h2⟩
  · exact ⟨.inl (p, t), rfl, h2⟩
theorem differ_find (hN : 4294967296 ≤ N) (hT : T.Ok) (cond : Int) : ∃ z, F_product_two_find N T.ra T.ua T.ea T.rb T.ub T.eb cond = some z ∧ Found T (fun p => ((T.ru p).1 != (T.ru p).2) = true) (T.bg cond) z := by
  obtain ⟨z, h1, h2⟩ := search hN hT (g := fun x y => x != y) (f := fun s => F_product_two_find_l0 N T.ra T.ua T.ea T.rb T.ub T.eb s.1 s.2) (fun m => by unfold F_product_two_find_l0; simp) (fun p t Q m hp => by
    unfold F_product_two_find_l0 F_product_Differ_1
    have i0 : idx ((p, t) :: Q) 0 = some (p, t) := rfl
    simp only [List.length_cons, show (((Q.length + 1 : Nat) : Int) > 0) by omega, decide_true, if_true, i0, rules2_spec hT hp, bind, Option.bind_some]) (hT.bg cond)
  refine ⟨z, ?_, h2⟩
  unfold F_product_two_find
  rw [begin2_spec]
  simp only [bind, Option.bind_some] at h1 ⊢
  exact h1
end
end Go.Proofs.YtealkahefalaeaaGreatDoor
namespace Go.Proofs.YtealkahefalaeaaGreatDoor
open Go Go.Eng
set_option maxRecDepth 100000
def cell (out : List (List Int)) (p : Int × Int) : Int := (out.getD p.1.toNat []).getD p.2.toNat 0
def gk (asked : Int) (x y : Int) : Bool := if asked = 0 then x != y else decide (x ≥ 0) && decide (y ≥ 0)
structure Shp (a b : Nat) (out : List (List Int)) : Prop where
  l : out.length = a
  r : ∀ r ∈ out, r.length = b
theorem Shp.at {a b : Nat} {out : List (List Int)} (h : Shp a b out) {p : Int × Int} (h1 : 0 ≤ p.1 ∧ p.1 < a) (h2 : 0 ≤ p.2 ∧ p.2 < b) :
    ∃ row, idx out p.1 = some row ∧ idx row p.2 = some (cell out p) ∧ row ∈ out ∧ row = out.getD p.1.toNat [] := by
  have hl : p.1.toNat < out.length := by have := h.l; omega
  have hw := h.r _ (List.getElem_mem hl)
  have e1 : out.getD p.1.toNat [] = out[p.1.toNat] := by rw [List.getD, List.getElem?_eq_getElem hl]; rfl
  have hcl : p.2.toNat < out[p.1.toNat].length := by omega
  have e2 : cell out p = out[p.1.toNat][p.2.toNat] := by unfold cell; rw [e1, List.getD, List.getElem?_eq_getElem hcl]; rfl
  exact ⟨out[p.1.toNat], idx_int h1.1 hl, by rw [e2]; exact idx_int h2.1 hcl, List.getElem_mem hl, e1.symm⟩
def put (out : List (List Int)) (p : Int × Int) (v : Int) : List (List Int) := out.set p.1.toNat ((out.getD p.1.toNat []).set p.2.toNat v)
section
variable {N : Nat} {T : Two}
def gP (T : Two) (asked : Int) (p : Int × Int) : Prop := gk asked (T.ru p).1 (T.ru p).2 = true
instance (T : Two) (asked : Int) (p : Int × Int) : Decidable (gP T asked p) := inferInstanceAs (Decidable (_ = true))
end
end Go.Proofs.YtealkahefalaeaaGreatDoor
namespace Go.Proofs.YtealkahefalaeaaGreatDoor
open Go Go.Eng
set_option maxRecDepth 100000
section
variable {N : Nat} {T : Two} {G : Int × Int → Prop}
/-- a cell that this round gives its distance -/
def hit (T : Two) (was : List (List Int)) (k : Nat) (p : Int × Int) : Prop := cell was p < 0 ∧ ∃ c : Nat, c < 256 ∧ cell was (T.nx p (c : Int)) = (k : Int)
/-- amid a round: what has been gone through (D) is as it shall be, the rest as it was -/
structure Mid (T : Two) (was : List (List Int)) (k : Nat) (D : Int × Int → Prop) (fresh : Bool) (out : List (List Int)) : Prop where
  s : Shp T.ra.length T.rb.length out
  a : ∀ p, T.dm p → (D p ∧ hit T was k p ∧ cell out p = ((k + 1 : Nat) : Int)) ∨ (¬ (D p ∧ hit T was k p) ∧ cell out p = cell was p)
  f : fresh = true ↔ ∃ p, T.dm p ∧ D p ∧ hit T was k p
theorem Mid.low {was out : List (List Int)} {k : Nat} {D : Int × Int → Prop} {fresh : Bool} (h : Mid T was k D fresh out) {p : Int × Int} (hp : T.dm p) : cell out p = (k : Int) ↔ cell was p = (k : Int) := by
  rcases h.a p hp with ⟨_, h2, h3⟩ | ⟨_, h2⟩
  · have := h2.1
    rw [h3]
    constructor <;> intro e <;> omega
  · rw [h2]
theorem Mid.cg {was out : List (List Int)} {k : Nat} {D D' : Int × Int → Prop} {fresh : Bool} (h : Mid T was k D fresh out) (he : ∀ p, T.dm p → (D p ↔ D' p)) : Mid T was k D' fresh out := by
  refine ⟨h.s, fun p hp => ?_, ?_⟩
  · rw [← he p hp]; exact h.a p hp
  · rw [h.f]
    exact ⟨fun ⟨p, h1, h2, h3⟩ => ⟨p, h1, (he p h1).1 h2, h3⟩, fun ⟨p, h1, h2, h3⟩ => ⟨p, h1, (he p h1).2 h2, h3⟩⟩
end
end Go.Proofs.YtealkahefalaeaaGreatDoor
namespace Go.Proofs.YtealkahefalaeaaGreatDoor
open Go Go.Eng
set_option maxRecDepth 100000
section
variable {N : Nat} {T : Two} {G : Int × Int → Prop}
/-- the first condition where two DFAs differ, and how -/
inductive First (T : Two) (n : Nat) : Option (Nat × List Int) → Prop
  | none : (∀ c : Nat, c < n → ∀ u, ¬ LG T.nx (gP T 0) (T.bg (c : Int)) u) → First T n none
  | some (c : Nat) (t : List Int) : c < n → (∀ d : Nat, d < c → ∀ u, ¬ LG T.nx (gP T 0) (T.bg (d : Int)) u) → BestG T.nx (gP T 0) (T.bg (c : Int)) t → First T n (some (c, t))
theorem First.uniq {n : Nat} {a b : Option (Nat × List Int)} (h : First T n a) (h' : First T n b) : a = b := by
  cases h with
  | none h1 =>
    cases h' with
    | none _ => rfl
    | some c t h2 h3 h4 => exact absurd h4.1 (h1 c h2 t)
  | some c t h2 h3 h4 =>
    cases h' with
    | none h1 => exact absurd h4.1 (h1 c h2 t)
    | some d u k2 k3 k4 =>
      rcases Nat.lt_trichotomy c d with hl | he | hl
      · exact absurd h4.1 (k3 c hl t)
      · subst he; rw [h4.uniq k4]
      · exact absurd k4.1 (h3 d hl u)
/-- what Differ answers -/
def dif (T : Two) : Option (Nat × List Int) → Unit ⊕ (Int × List Int × Int × Int)
  | none => .inl ()
  | some (c, t) => .inr ((c : Int), t, (T.ru (t.foldl T.nx (T.bg (c : Int)))).1, (T.ru (t.foldl T.nx (T.bg (c : Int)))).2)
theorem imax_nat (a b : Nat) : imax (a : Int) (b : Int) = ((max a b : Nat) : Int) := by
  unfold imax
  split <;> omega
theorem right2_spec (hN : 4294967296 ≤ N) (sa : Sz T.ra T.ua T.ea) (sb : Sz T.rb T.ub T.eb) : ∃ b, F_product_two_right N T.ra T.ua T.ea T.rb T.ub T.eb = some b ∧ (b = true ↔ T.Ok) := by
  unfold F_product_two_right
  by_cases h1 : Rt T.ra T.ua T.ea
  · by_cases h2 : Rt T.rb T.ub T.eb
    · exact ⟨true, by simp [right_t hN sa h1, right_t hN sb h2], by simp; exact ⟨sa, h1, sb, h2⟩⟩
    · exact ⟨false, by simp [right_t hN sa h1, right_f hN sb h2], by simp; exact fun h => h2 h.hb⟩
  · exact ⟨false, by simp [right_f hN sa h1], by simp; exact fun h => h1 h.ha⟩
theorem right2_t (hN : 4294967296 ≤ N) (hT : T.Ok) : F_product_two_right N T.ra T.ua T.ea T.rb T.ub T.eb = some true := by
  obtain ⟨b, h1, h2⟩ := right2_spec hN hT.sa hT.sb
  rw [h2.2 hT] at h1; exact h1
theorem right2_f (hN : 4294967296 ≤ N) (sa : Sz T.ra T.ua T.ea) (sb : Sz T.rb T.ub T.eb) (h : ¬ T.Ok) : F_product_two_right N T.ra T.ua T.ea T.rb T.ub T.eb = some false := by
  obtain ⟨b, h1, h2⟩ := right2_spec hN sa sb
  cases b with
  | false => exact h1
  | true => exact absurd (h2.1 rfl) h
theorem differ_spec (hN : 4294967296 ≤ N) (hT : T.Ok) : ∃ z, First T (max T.ea.length T.eb.length) z ∧ F_product_Differ N T.ra T.ua T.ea T.rb T.ub T.eb = some (dif T z) := by
  have hea := hT.ha.e2
  have heb := hT.hb.e2
  unfold F_product_Differ
  simp only [right2_t hN hT, bind, Option.bind_some, Bool.not_true, Bool.false_eq_true, if_false]
  obtain ⟨r, h1, h2⟩ := iterO_while (f := fun s => F_product_Differ_l0 N T.ra T.ua T.ea T.rb T.ub T.eb s) (fun s => ∃ c : Nat, s = (c : Int) ∧ c ≤ max T.ea.length T.eb.length ∧ ∀ d : Nat, d < c → ∀ u, ¬ LG T.nx (gP T 0) (T.bg (d : Int)) u) (fun s => 10 - s.toNat)
    (fun r => (r = .inl () ∧ First T (max T.ea.length T.eb.length) none) ∨ ∃ (c : Nat) (t : List Int), r = .inr (.inr ((c : Int), t, (T.ru (t.foldl T.nx (T.bg (c : Int)))).1, (T.ru (t.foldl T.nx (T.bg (c : Int)))).2)) ∧ First T (max T.ea.length T.eb.length) (some (c, t)))
    (fun s hI => by
      obtain ⟨c, rfl, hc, hno⟩ := hI
      unfold F_product_Differ_l0
      rw [imax_nat]
      by_cases hl : c < max T.ea.length T.eb.length
      · obtain ⟨z, z1, z2⟩ := differ_find (N := N) hN hT (c : Int)
        simp only [show ((c : Int) < ((max T.ea.length T.eb.length : Nat) : Int)) by omega, decide_true, if_true, z1, bind, Option.bind_some]
        cases z with
        | inl z =>
          obtain ⟨p, q, t⟩ := z
          obtain ⟨k1, k2, k3⟩ := z2
          have k4 := rules2_spec (N := N) hT k3
          simp only at k4
          simp only [k4, Option.bind_some]
          exact .inr ⟨_, rfl, .inr ⟨c, t, by rw [← k2], .some c t hl hno k1⟩⟩
        | inr z =>
          simp only
          rw [w64_succ (n := c) (by omega)]
          refine .inl ⟨((c + 1 : Nat) : Int), rfl, ⟨c + 1, rfl, by omega, fun d hd => ?_⟩, by omega⟩
          by_cases e : d = c
          · subst e; exact z2
          · exact hno d (by omega)
      · simp only [show ¬ ((c : Int) < ((max T.ea.length T.eb.length : Nat) : Int)) by omega, decide_false, Bool.false_eq_true, if_false]
        exact .inr ⟨_, rfl, .inl ⟨rfl, .none fun d hd => hno d (by omega)⟩⟩) (N := N) (s := 0) ⟨0, rfl, by omega, fun d hd => by omega⟩ (by simp; omega)
  rw [h1]
  rcases h2 with ⟨rfl, h2⟩ | ⟨c, t, rfl, h2⟩
  · exact ⟨none, h2, rfl⟩
  · exact ⟨some (c, t), h2, rfl⟩
end
end Go.Proofs.YtealkahefalaeaaGreatDoor
namespace Go.Proofs.YtealkahefalaeaaGreatDoor
open Go Go.Eng
set_option maxRecDepth 100000
/-- the chapter's example -/
def exT : Two := ⟨md0r, md0l, md0m, md1r, md1l, md1m⟩
theorem ex_a : Sz md0r md0l md0m ∧ Rt md0r md0l md0m :=
  ⟨⟨of_decide_eq_true (by kernel_rfl), by decide, by decide, by decide⟩, ⟨by decide, by decide, by decide, by decide, by decide, of_decide_eq_true (by kernel_rfl), by decide, by decide, by kernel_rfl, by decide⟩⟩
theorem ex_b : Sz md1r md1l md1m ∧ Rt md1r md1l md1m :=
  ⟨⟨of_decide_eq_true (by kernel_rfl), by decide, by decide, by decide⟩, ⟨by decide, by decide, by decide, by decide, by decide, of_decide_eq_true (by kernel_rfl), by decide, by decide, by kernel_rfl, by decide⟩⟩
theorem ex_ok : exT.Ok := ⟨ex_a.1, ex_a.2, ex_b.1, ex_b.2⟩
theorem ex_best : BestG exT.nx (gP exT 0) (exT.bg ((0 : Nat) : Int)) [97] := by
  refine ⟨⟨fun c hc => by simp at hc; omega, of_decide_eq_true (by kernel_rfl)⟩, fun u hu => ?_⟩
  have k97 : key [97] = 98 := by decide
  rw [k97]
  match u, hu with
  | [], hu => exact absurd hu.2 (of_decide_eq_true (by kernel_rfl : decide (¬ gP exT 0 (exT.bg ((0 : Nat) : Int))) = true))
  | [c], hu =>
    have hc := hu.1 c (by simp)
    have e : key [c] = c.toNat + 1 := by simp [key]
    rw [e]
    refine Nat.succ_le_succ (Nat.le_of_not_lt fun hlt => ?_)
    have hall : ∀ d ∈ List.range 97, ¬ gP exT 0 (exT.nx (exT.bg ((0 : Nat) : Int)) (d : Int)) := of_decide_eq_true (by kernel_rfl)
    have := hall c.toNat (by simpa using hlt)
    rw [show ((c.toNat : Nat) : Int) = c by omega] at this
    exact this hu.2
  | a :: b :: v, hu =>
    have h2 := (key_bound hu.1).2 (by simp)
    have h3 : (257 : Nat) ^ 1 ≤ 257 ^ ((a :: b :: v).length - 1) := Nat.pow_le_pow_right (by omega) (by simp)
    omega
theorem ex_differ {N : Nat} (hN : 4294967296 ≤ N) : F_product_Differ N md0r md0l md0m md1r md1l md1m = some (.inr (0, [97], 0, -1)) := by
  obtain ⟨z, h1, h2⟩ := differ_spec hN ex_ok
  have : z = some (0, [97]) := h1.uniq (.some 0 [97] (by decide) (fun d hd => by omega) ex_best)
  subst this
  rw [show F_product_Differ N md0r md0l md0m md1r md1l md1m = _ from h2]
  congr 1
theorem alive21 {N : Nat} (hN : 4294967296 ≤ N) : F_dofferlaw21_alive N = some true := by
  unfold F_dofferlaw21_alive
  simp only [ex_differ hN, bind, Option.bind_some, beq_self_eq_true, if_true]
  rw [show bstr [97] = (⟨#[97]⟩ : ByteArray) from rfl]
  simp
end Go.Proofs.YtealkahefalaeaaGreatDoor
namespace Go.Proofs.YtealkahefalaeaaGreatDoor
open Go Go.Eng
set_option maxRecDepth 100000
abbrev Pr := Int × Int
def zp (p : Pr) : Pr := if p.1 = 0 ∨ p.2 = 0 then (0, 0) else p
def addp (L : List Pr) (p : Pr) : List Pr := if zp p ∈ L then L else L ++ [zp p]
def pos (L : List Pr) (p : Pr) : Int := (L.idxOf (zp p) : Int)
def nmb (L : List Pr) : List (Pr × Int) := L.zipIdx.map fun x => (x.1, (x.2 : Int))
theorem zp_zp (p : Pr) : zp (zp p) = zp p := by
  unfold zp
  by_cases h : p.1 = 0 ∨ p.2 = 0
  · simp [h]
  · simp only [if_neg h]
theorem addp_mem (L : List Pr) (p : Pr) : zp p ∈ addp L p := by
  unfold addp
  split
  · assumption
  · simp
theorem addp_pre (L : List Pr) (p : Pr) : L <+: addp L p := by
  unfold addp
  split
  · exact List.prefix_refl _
  · exact List.prefix_append _ _
theorem idxOf_pre {L M : List Pr} (h : L <+: M) {p : Pr} (hp : p ∈ L) : M.idxOf p = L.idxOf p := by
  obtain ⟨t, rfl⟩ := h
  rw [List.idxOf_append, if_pos hp]
theorem pos_pre {L M : List Pr} (h : L <+: M) {p : Pr} (hp : zp p ∈ L) : pos M p = pos L p := by
  unfold pos; rw [idxOf_pre h hp]
theorem nmb_go (q : Pr) : ∀ (L : List Pr) (k : Nat), ((L.zipIdx k).map fun x => (x.1, (x.2 : Int))).find? (fun e => e.1 == q) = if q ∈ L then some (q, ((k + L.idxOf q : Nat) : Int)) else none
  | [], k => rfl
  | p :: L, k => by
    rw [List.zipIdx_cons, List.map_cons, List.find?_cons]
    by_cases h : p = q
    · subst h; simp
    · have e : (p == q) = false := by simpa using h
      have e2 : ¬ q = p := fun e => h e.symm
      simp only [e, nmb_go q L (k + 1), List.mem_cons, e2, false_or, List.idxOf_cons, cond_false]
      split
      · congr 2; omega
      · rfl
theorem nmb_get (L : List Pr) (q : Pr) : mget (nmb L) q = if q ∈ L then some (L.idxOf q : Int) else none := by
  unfold mget nmb
  rw [nmb_go q L 0]
  split
  · simp
  · rfl
theorem nmb_set {L : List Pr} {q : Pr} (h : q ∉ L) : mset (nmb L) q (L.length : Int) = nmb (L ++ [q]) := by
  have e : ((nmb L).findIdx? fun e => e.1 == q) = none := by
    rw [List.findIdx?_eq_none_iff]
    intro x hx
    obtain ⟨⟨p, i⟩, hp, rfl⟩ := List.mem_map.1 hx
    have hm := List.fst_mem_of_mem_zipIdx hp
    have : ¬ p = q := fun e => h (e ▸ hm)
    simpa using this
  unfold mset
  rw [e]
  unfold nmb
  rw [List.zipIdx_append]
  simp
section
variable {N : Nat} {T : Two}
def rl (T : Two) (p : Pr) : Int := if (T.ru p).2 = -1 then -1 else (T.ru p).1
theorem zp_dm (hT : T.Ok) {p : Pr} (h : T.dm p) : T.dm (zp p) := by
  unfold zp
  split
  · have h1 := hT.ha.n1
    have h2 := hT.hb.n1
    exact ⟨⟨by simp, by simp; omega⟩, ⟨by simp, by simp; omega⟩⟩
  · exact h
/-- the number of a pair; a new one, if it has none -/
theorem state_spec (hT : T.Ok) {p : Pr} (hp : T.dm p) {L : List Pr} (hl : L.length ≤ 100000) (rows : List (List Int)) (entry : List Int) :
    F_product_joiner_state N T.ra T.ua T.ea T.rb T.ub T.eb rows (L.map (rl T)) entry (nmb L) L p.1 p.2 = some ((addp L p).map (rl T), nmb (addp L p), addp L p, pos (addp L p) p) := by
  have hz : ((if (p.1 == 0) = true then some true else some (p.2 == 0) : Option Bool) >>= fun x => (if x = true then some ((0 : Int), (0 : Int)) else some (p.1, p.2) : Option (Int × Int))) = some (zp p) := by
    unfold zp
    by_cases h1 : p.1 = 0
    · simp [h1]
    · by_cases h2 : p.2 = 0
      · simp [h1, h2]
      · simp [h1, h2]
  have hzd := zp_dm hT hp
  unfold F_product_joiner_state
  simp only [bind] at hz ⊢
  have hz2 : (if (p.1 == 0) = true then some true else some (p.2 == 0) : Option Bool) = some (decide (p.1 = 0 ∨ p.2 = 0)) := by
    by_cases h1 : p.1 = 0
    · simp [h1]
    · by_cases h2 : p.2 = 0 <;> simp [h1, h2]
  rw [hz2] at hz ⊢
  simp only [Option.bind_some] at hz ⊢
  rw [hz]
  simp only [Option.bind_some, nmb_get]
  have hr := rules2_spec (N := N) hT hzd
  by_cases hin : zp p ∈ L
  · have ha : addp L p = L := by unfold addp; rw [if_pos hin]
    rw [ha]
    simp only [if_pos hin, Option.isSome_some, if_true, Option.getD_some]
    rfl
  · have ha : addp L p = L ++ [zp p] := by unfold addp; rw [if_neg hin]
    rw [ha]
    simp only [if_neg hin, Option.isSome_none, Bool.false_eq_true, if_false]
    rw [app_eq (by simp; omega)]
    simp only [Option.bind_some, hr]
    have hrl : (if ((T.ru (zp p)).2 == -1) = true then some (-1) else some (T.ru (zp p)).1 : Option Int) = some (rl T (zp p)) := by
      unfold rl
      by_cases h : (T.ru (zp p)).2 = -1 <;> simp [h]
    rw [hrl]
    simp only [Option.bind_some]
    rw [app_eq (by simp; omega)]
    simp only [Option.bind_some, nmb_set hin]
    have hp : pos (L ++ [zp p]) p = (L.length : Int) := by
      unfold pos
      rw [List.idxOf_append, if_neg hin]; simp
    rw [hp]
    simp
/-- the list behind k bytes of a row -/
def rowGo (T : Two) (s : Pr) : Nat → List Pr → List Pr
  | 0, L => L
  | k + 1, L => addp (rowGo T s k L) (T.nx s (k : Int))
theorem rowGo_pre (s : Pr) : ∀ (k : Nat) (L : List Pr), L <+: rowGo T s k L
  | 0, L => List.prefix_refl _
  | k + 1, L => (rowGo_pre s k L).trans (addp_pre _ _)
theorem addp_len (L : List Pr) (p : Pr) : (addp L p).length ≤ L.length + 1 := by
  unfold addp; split <;> simp
theorem rowGo_len (s : Pr) : ∀ (k : Nat) (L : List Pr), (rowGo T s k L).length ≤ L.length + k
  | 0, L => Nat.le_refl _
  | k + 1, L => by
    have := rowGo_len s k L
    have := addp_len (rowGo T s k L) (T.nx s (k : Int))
    show (addp _ _).length ≤ _
    omega
theorem rowGo_mono (s : Pr) {j : Nat} (L : List Pr) : ∀ k, j ≤ k → rowGo T s j L <+: rowGo T s k L
  | 0, h => by obtain rfl : j = 0 := by omega
               exact List.prefix_refl _
  | k + 1, h => by
    by_cases e : j = k + 1
    · subst e; exact List.prefix_refl _
    · exact (rowGo_mono s L k (by omega)).trans (addp_pre _ _)
theorem rowGo_mem (s : Pr) (L : List Pr) {c k : Nat} (h : c < k) : zp (T.nx s (c : Int)) ∈ rowGo T s k L :=
  (rowGo_mono s L k h).subset (addp_mem _ _)
def rowOf (T : Two) (L : List Pr) (s : Pr) : List Int := (List.range 256).map fun c => pos L (T.nx s ((c : Nat) : Int))
/-- a row -/
theorem row_spec (hN : 4294967296 ≤ N) (hT : T.Ok) {s : Pr} (hs : T.dm s) {L : List Pr} {i : Nat} (hi : L[i]? = some s) (hl : L.length ≤ 200) (hd : ∀ p ∈ L, T.dm p) (rows : List (List Int)) (entry : List Int) :
    iterO N (fun q => F_product_Both_l2 N T.ra T.ua T.ea T.rb T.ub T.eb entry rows (i : Int) q.1 q.2.1 q.2.2.1 q.2.2.2.1 q.2.2.2.2) (L.map (rl T), nmb L, L, 0, List.replicate 256 0) = some ((rowGo T s 256 L).map (rl T), nmb (rowGo T s 256 L), rowGo T s 256 L, rowOf T (rowGo T s 256 L) s) := by
  obtain ⟨r, h1, h2, h3, h4⟩ := loop_inv (f := fun q => F_product_Both_l2 N T.ra T.ua T.ea T.rb T.ub T.eb entry rows (i : Int) q.1 q.2.1 q.2.2.1 q.2.2.2.1 q.2.2.2.2) (fun k (q : List Pr × List Int) => (q.1.map (rl T), nmb q.1, q.1, (k : Int), q.2)) (fun q => (q.1.map (rl T), nmb q.1, q.1, q.2)) (List.range 256)
    (fun k q => q.1 = rowGo T s k L ∧ q.2.length = 256 ∧ ∀ c : Nat, c < k → q.2[c]? = some (pos (rowGo T s k L) (T.nx s (c : Int)))) (N := N) (s := (L, List.replicate 256 0)) (by simp; omega)
    ⟨rfl, by simp, fun c hc => by omega⟩
    (fun k x q hx hI => by
      obtain ⟨hk, rfl⟩ := range_get hx
      obtain ⟨M, row⟩ := q
      obtain ⟨k1, k2, k3⟩ := hI
      simp only at k1 k2 k3
      subst k1
      have hil : (rowGo T s x L)[i]? = some s := by
        obtain ⟨t, ht⟩ := rowGo_pre (T := T) s x L
        rw [← ht, List.getElem?_append_left (lt_len hi)]; exact hi
      have hlen := rowGo_len (T := T) s x L
      have hnd := hT.nx s (x : Int) hs ⟨by omega, by omega⟩
      refine ⟨(addp (rowGo T s x L) (T.nx s (x : Int)), row.set x (pos (addp (rowGo T s x L) (T.nx s (x : Int))) (T.nx s (x : Int)))), ?_, rfl, by simp [k2], fun c hc => ?_⟩
      · unfold F_product_Both_l2
        simp only [show ((x : Int) < 256) by omega, decide_true, if_true, idx_of hil, next2_spec hT hs (c := (x : Int)) ⟨by omega, by omega⟩, state_spec (N := N) hT hnd (L := rowGo T s x L) (by omega), bind, Option.bind_some]
        rw [idx_nat (show x < row.length by omega), setI_nat (show x < row.length by omega), w64_succ (n := x) (by omega)]
        rfl
      · show (row.set x _)[c]? = some (pos (addp (rowGo T s x L) (T.nx s (x : Int))) (T.nx s (c : Int)))
        by_cases e : c = x
        · subst e; rw [List.getElem?_set_self (by omega)]
        · rw [List.getElem?_set_ne (by omega), k3 c (by omega), pos_pre (addp_pre _ _) (rowGo_mem s L (by omega))])
    (fun q _ => by unfold F_product_Both_l2; simp)
  rw [show iterO N (fun q => F_product_Both_l2 N T.ra T.ua T.ea T.rb T.ub T.eb entry rows (i : Int) q.1 q.2.1 q.2.2.1 q.2.2.2.1 q.2.2.2.2) (L.map (rl T), nmb L, L, 0, List.replicate 256 0) = _ from h1]
  simp only [List.length_range] at h2 h4
  have hrow : r.2 = rowOf T (rowGo T s 256 L) s := by
    apply List.ext_getElem?
    intro c
    by_cases hc : c < 256
    · rw [h4 c hc]
      unfold rowOf
      rw [List.getElem?_map, List.getElem?_range hc]; rfl
    · rw [List.getElem?_eq_none (by omega), List.getElem?_eq_none (by unfold rowOf; simp; omega)]
  rw [h2, hrow]
/-- all rows from the i-th on: none, if there are too many pairs -/
def allRows (T : Two) : Nat → List Pr → Nat → List (List Int) → Option (List Pr × List (List Int))
  | 0, L, _, rows => some (L, rows)
  | f + 1, L, i, rows => match L[i]? with
    | none => some (L, rows)
    | some s => if (rowGo T s 256 L).length > 200 then none else allRows T f (rowGo T s 256 L) (i + 1) (rows ++ [rowOf T (rowGo T s 256 L) s])
theorem addp_dm (hT : T.Ok) {L : List Pr} (hd : ∀ p ∈ L, T.dm p) {p : Pr} (hp : T.dm p) : ∀ q ∈ addp L p, T.dm q := by
  intro q hq
  unfold addp at hq
  split at hq
  · exact hd q hq
  · rcases List.mem_append.1 hq with hq | hq
    · exact hd q hq
    · simp at hq; subst hq; exact zp_dm hT hp
theorem rowGo_dm (hT : T.Ok) {s : Pr} (hs : T.dm s) {L : List Pr} (hd : ∀ p ∈ L, T.dm p) : ∀ k, k ≤ 256 → ∀ q ∈ rowGo T s k L, T.dm q
  | 0, _ => hd
  | k + 1, hk => addp_dm hT (rowGo_dm hT hs hd k (by omega)) (hT.nx s (k : Int) hs ⟨by omega, by omega⟩)
theorem rows_spec (hN : 4294967296 ≤ N) (hT : T.Ok) (entry : List Int) : ∀ (f M : Nat) (L : List Pr) (i : Nat) (rows : List (List Int)), f < M → L.length ≤ 200 → i ≤ L.length → rows.length = i → 201 ≤ f + i → (∀ p ∈ L, T.dm p) →
    iterO M (fun s => F_product_Both_l1 N T.ra T.ua T.ea T.rb T.ub T.eb entry s.1 s.2.1 s.2.2.1 s.2.2.2.1 s.2.2.2.2) (rows, L.map (rl T), nmb L, L, (i : Int)) = some (match allRows T f L i rows with | none => .inr ([], [], [], 9) | some (L', rows') => .inl (rows', L'.map (rl T), nmb L', L')) := by
  intro f
  induction f with
  | zero => intro M L i rows _ h1 h2 _ h3 _; omega
  | succ f ih =>
    intro M L i rows hM h1 h2 h2r h3 hd
    obtain ⟨M, rfl⟩ : ∃ m, M = m + 1 := ⟨M - 1, by omega⟩
    simp only [iterO]
    unfold F_product_Both_l1
    by_cases hl : i < L.length
    · have hi : L[i]? = some L[i] := List.getElem?_eq_getElem hl
      have hs := hd _ (List.getElem_mem hl)
      simp only [show ((i : Int) < (L.length : Int)) by omega, decide_true, if_true, row_spec hN hT hs hi h1 hd rows entry, bind, Option.bind_some]
      simp only [allRows, hi]
      by_cases hg : (rowGo T L[i] 256 L).length > 200
      · have : ((rowGo T L[i] 256 L).length : Int) > 200 := by omega
        simp only [this, decide_true, if_true, if_pos hg]
      · have : ¬ ((rowGo T L[i] 256 L).length : Int) > 200 := by omega
        simp only [this, decide_false, Bool.false_eq_true, if_false, if_neg hg]
        rw [app_eq (by simp; omega)]
        simp only [Option.bind_some]
        rw [w64_succ (n := i) (by omega)]
        have hle := (rowGo_pre (T := T) L[i] 256 L).length_le
        exact ih M (rowGo T L[i] 256 L) (i + 1) (rows ++ [rowOf T (rowGo T L[i] 256 L) L[i]]) (by omega) (by omega) (by omega) (by simp [h2r]) (by omega) (rowGo_dm hT hs hd 256 (Nat.le_refl _))
    · have hi : L[i]? = none := List.getElem?_eq_none (by omega)
      simp only [show ¬ ((i : Int) < (L.length : Int)) by omega, decide_false, Bool.false_eq_true, if_false, allRows, hi]
/-- the pairs of the conditions -/
def entGo (T : Two) : Nat → List Pr
  | 0 => [(0, 0)]
  | k + 1 => addp (entGo T k) (T.bg (k : Int))
theorem entGo_len : ∀ k, (entGo T k).length ≤ k + 1
  | 0 => Nat.le_refl _
  | k + 1 => by
    have := entGo_len k
    have := addp_len (entGo T k) (T.bg (k : Int))
    show (addp _ _).length ≤ _
    omega
theorem entGo_mono {j : Nat} : ∀ k, j ≤ k → entGo T j <+: entGo T k
  | 0, h => by obtain rfl : j = 0 := by omega
               exact List.prefix_refl _
  | k + 1, h => by
    by_cases e : j = k + 1
    · subst e; exact List.prefix_refl _
    · exact (entGo_mono k (by omega)).trans (addp_pre _ _)
theorem entGo_mem {c k : Nat} (h : c < k) : zp (T.bg (c : Int)) ∈ entGo T k := (entGo_mono k h).subset (addp_mem _ _)
theorem entGo_dm (hT : T.Ok) : ∀ k, ∀ q ∈ entGo T k, T.dm q
  | 0 => fun q hq => by
    have h1 := hT.ha.n1
    have h2 := hT.hb.n1
    simp [entGo] at hq; subst hq
    exact ⟨⟨by simp, by simp; omega⟩, ⟨by simp, by simp; omega⟩⟩
  | k + 1 => addp_dm hT (entGo_dm hT k) (hT.bg _)
def entOf (T : Two) (L : List Pr) (n : Nat) : List Int := (List.range n).map fun c => pos L (T.bg ((c : Nat) : Int))
theorem ents_spec (hN : 4294967296 ≤ N) (hT : T.Ok) :
    iterO N (fun s => F_product_Both_l0 N T.ra T.ua T.ea T.rb T.ub T.eb s.1 s.2.1 s.2.2.1 s.2.2.2.1 s.2.2.2.2) (0, (entGo T 0).map (rl T), [], nmb (entGo T 0), entGo T 0) = some ((entGo T T.ea.length).map (rl T), entOf T (entGo T T.ea.length) T.ea.length, nmb (entGo T T.ea.length), entGo T T.ea.length) := by
  have he := hT.ha.e2
  obtain ⟨r, h1, h2⟩ := loop_inv (f := fun s => F_product_Both_l0 N T.ra T.ua T.ea T.rb T.ub T.eb s.1 s.2.1 s.2.2.1 s.2.2.2.1 s.2.2.2.2) (fun k (q : List Pr × List Int) => ((k : Int), q.1.map (rl T), q.2, nmb q.1, q.1)) (fun q => (q.1.map (rl T), q.2, nmb q.1, q.1)) (List.range T.ea.length)
    (fun k q => q = (entGo T k, entOf T (entGo T k) k)) (N := N) (s := (entGo T 0, [])) (by simp; omega) rfl
    (fun k x q hx hI => by
      obtain ⟨hk, rfl⟩ := range_get hx
      subst hI
      have hlen := entGo_len (T := T) x
      refine ⟨(entGo T (x + 1), entOf T (entGo T (x + 1)) (x + 1)), ?_, rfl⟩
      unfold F_product_Both_l0
      simp only [show ((x : Int) < (T.ea.length : Int)) by omega, decide_true, if_true, begin2_spec, state_spec (N := N) hT (hT.bg (x : Int)) (L := entGo T x) (by omega), bind, Option.bind_some]
      rw [app_eq (by unfold entOf; simp; omega), w64_succ (n := x) (by omega)]
      simp only [Option.bind_some]
      have e1 : entOf T (entGo T x) x = entOf T (addp (entGo T x) (T.bg (x : Int))) x := by
        unfold entOf
        refine List.map_congr_left fun c hc => ?_
        rw [pos_pre (addp_pre _ _) (entGo_mem (by simpa using hc))]
      have e2 : entOf T (entGo T (x + 1)) (x + 1) = entOf T (addp (entGo T x) (T.bg (x : Int))) x ++ [pos (addp (entGo T x) (T.bg (x : Int))) (T.bg (x : Int))] := by
        show entOf T (addp (entGo T x) (T.bg (x : Int))) (x + 1) = _
        unfold entOf
        rw [List.range_succ, List.map_append]; rfl
      rw [e1, e2]
      rfl)
    (fun q _ => by unfold F_product_Both_l0; simp)
  subst h2
  rw [show iterO N (fun s => F_product_Both_l0 N T.ra T.ua T.ea T.rb T.ub T.eb s.1 s.2.1 s.2.2.1 s.2.2.2.1 s.2.2.2.2) (0, (entGo T 0).map (rl T), [], nmb (entGo T 0), entGo T 0) = _ from h1]
  simp
/-- the whole: nothing, if there are too many pairs -/
def bothF (T : Two) : List (List Int) × List Int × List Int × Int :=
  match allRows T 202 (entGo T T.ea.length) 0 [] with
  | none => ([], [], [], 9)
  | some (L, rows) => (rows, L.map (rl T), entOf T (entGo T T.ea.length) T.ea.length, 0)
theorem both_spec (hN : 4294967296 ≤ N) (hT : T.Ok) (he : T.ea.length = T.eb.length) : F_product_Both N T.ra T.ua T.ea T.rb T.ub T.eb = some (bothF T) := by
  have hel := hT.ha.e2
  have hd0 : T.dm (0, 0) := entGo_dm hT 0 _ (by simp [entGo])
  have hn : ((T.ea.length : Int) != (T.eb.length : Int)) = false := by rw [he]; simp
  have s0 := state_spec (N := N) hT hd0 (L := []) (by simp) [] []
  have ha : addp [] (0, 0) = entGo T 0 := by simp [addp, zp, entGo]
  rw [ha] at s0
  have hm : nmb [] = ([] : List (Pr × Int)) := rfl
  rw [hm] at s0
  simp only [List.map_nil] at s0
  have hlen := entGo_len (T := T) T.ea.length
  have hr := rows_spec hN hT (entOf T (entGo T T.ea.length) T.ea.length) 202 N (entGo T T.ea.length) 0 [] (by omega) (by omega) (by omega) rfl (by omega) (entGo_dm hT _)
  unfold F_product_Both
  simp only [right2_t hN hT, hn, bind, Option.bind_some, Bool.not_true, Bool.false_eq_true, if_false]
  rw [s0]
  simp only [Option.bind_some]
  rw [ents_spec hN hT]
  simp only [Option.bind_some]
  rw [show iterO N (fun s => F_product_Both_l1 N T.ra T.ua T.ea T.rb T.ub T.eb (entOf T (entGo T T.ea.length) T.ea.length) s.1 s.2.1 s.2.2.1 s.2.2.2.1 s.2.2.2.2) ([], (entGo T T.ea.length).map (rl T), nmb (entGo T T.ea.length), entGo T T.ea.length, 0) = _ from hr]
  unfold bothF
  cases allRows T 202 (entGo T T.ea.length) 0 [] with
  | none => rfl
  | some z => rfl
theorem both_not (hN : 4294967296 ≤ N) (sa : Sz T.ra T.ua T.ea) (sb : Sz T.rb T.ub T.eb) (h : ¬ T.Ok ∨ T.ea.length ≠ T.eb.length) : F_product_Both N T.ra T.ua T.ea T.rb T.ub T.eb = some ([], [], [], 2) := by
  unfold F_product_Both
  by_cases hT : T.Ok
  · have he : T.ea.length ≠ T.eb.length := h.resolve_left (fun q => q hT)
    have hn : ((T.ea.length : Int) != (T.eb.length : Int)) = true := by simp; omega
    simp [right2_t hN hT, hn]
  · simp [right2_f hN sa sb hT]
end
end Go.Proofs.YtealkahefalaeaaGreatDoor
namespace Go.Proofs.YtealkahefalaeaaGreatDoor
open Go Go.Eng
set_option maxRecDepth 100000
section
variable {N : Nat} {T : Two}
theorem zero_nxt {rows : List (List Int)} {rule entry : List Int} (h : Rt rows rule entry) (c : Int) : nxt rows 0 c = 0 := by
  have h0 := h.r0
  unfold nxt
  have e : rows.getD (0 : Int).toNat [] = List.replicate 256 0 := by rw [show (0 : Int).toNat = 0 from rfl, List.getD, h0]; rfl
  rw [e, List.getD, List.getElem?_replicate]
  split <;> rfl
theorem rule_zero {rows : List (List Int)} {rule entry : List Int} (h : Rt rows rule entry) : rule.getD 0 0 = -1 := by rw [List.getD, h.u0]; rfl
theorem zp_nx (hT : T.Ok) (p : Pr) (c : Int) : zp (T.nx (zp p) c) = zp (T.nx p c) := by
  by_cases h : p.1 = 0 ∨ p.2 = 0
  · have e1 : zp p = (0, 0) := by unfold zp; rw [if_pos h]
    have e2 : T.nx (0, 0) c = (0, 0) := by unfold Two.nx; rw [zero_nxt hT.ha, zero_nxt hT.hb]
    rw [e1, e2]
    have e3 : (T.nx p c).1 = 0 ∨ (T.nx p c).2 = 0 := by
      rcases h with h | h
      · left; show nxt T.ra p.1 c = 0; rw [h]; exact zero_nxt hT.ha c
      · right; show nxt T.rb p.2 c = 0; rw [h]; exact zero_nxt hT.hb c
    unfold zp; rw [if_pos e3]; simp
  · have e1 : zp p = p := by unfold zp; rw [if_neg h]
    rw [e1]
/-- what both find -/
def wantR (T : Two) (p : Pr) : Int := if (T.ru p).2 < 0 then -1 else (T.ru p).1
theorem rl_zp (hT : T.Ok) {p : Pr} (hp : T.dm p) : rl T (zp p) = wantR T p := by
  have h2 := (rule_at hT.hb hp.2).2
  have a0 := rule_zero hT.ha
  have b0 := rule_zero hT.hb
  have e2 : (T.ru p).2 = T.ub.getD p.2.toNat 0 := rfl
  have e1 : (T.ru p).1 = T.ua.getD p.1.toNat 0 := rfl
  unfold wantR
  by_cases h : p.1 = 0 ∨ p.2 = 0
  · have ez : zp p = (0, 0) := by unfold zp; rw [if_pos h]
    have er : rl T (0, 0) = -1 := by
      unfold rl
      have : (T.ru (0, 0)).2 = -1 := b0
      rw [if_pos this]
    rw [ez, er]
    rcases h with h | h
    · have : (T.ru p).1 = -1 := by rw [e1, h]; exact a0
      rw [this]; split <;> rfl
    · have : (T.ru p).2 = -1 := by rw [e2, h]; exact b0
      rw [if_pos (by omega)]
  · have ez : zp p = p := by unfold zp; rw [if_neg h]
    rw [ez]
    unfold rl
    by_cases hn : (T.ru p).2 = -1
    · rw [if_pos hn, if_pos (by omega)]
    · rw [if_neg hn, if_neg (by rw [e2] at hn ⊢; omega)]
theorem rowOf_pre {L M : List Pr} (h : L <+: M) {s : Pr} (hs : ∀ c : Nat, c < 256 → zp (T.nx s (c : Int)) ∈ L) : rowOf T M s = rowOf T L s := by
  unfold rowOf
  refine List.map_congr_left fun c hc => ?_
  rw [pos_pre h (hs c (by simpa using hc))]
/-- all rows up to i stand -/
structure Rws (T : Two) (L : List Pr) (i : Nat) (rows : List (List Int)) : Prop where
  l : L.length ≤ 200
  n : rows.length = i
  le : i ≤ L.length
  d : ∀ p ∈ L, T.dm p
  z : ∀ p ∈ L, zp p = p
  r : ∀ (j : Nat) (s : Pr), j < i → L[j]? = some s → (∀ c : Nat, c < 256 → zp (T.nx s (c : Int)) ∈ L) ∧ rows[j]? = some (rowOf T L s)
theorem addp_z {L : List Pr} (hz : ∀ p ∈ L, zp p = p) (p : Pr) : ∀ q ∈ addp L p, zp q = q := by
  intro q hq
  unfold addp at hq
  split at hq
  · exact hz q hq
  · rcases List.mem_append.1 hq with hq | hq
    · exact hz q hq
    · simp at hq; subst hq; exact zp_zp p
theorem rowGo_z {L : List Pr} (hz : ∀ p ∈ L, zp p = p) (s : Pr) : ∀ k, ∀ q ∈ rowGo T s k L, zp q = q
  | 0 => hz
  | k + 1 => addp_z (rowGo_z hz s k) _
theorem allRows_ok (hT : T.Ok) : ∀ (f : Nat) (L : List Pr) (i : Nat) (rows : List (List Int)) (L' : List Pr) (rows' : List (List Int)), Rws T L i rows → 201 ≤ f + i → allRows T f L i rows = some (L', rows') → L <+: L' ∧ Rws T L' L'.length rows' := by
  intro f
  induction f with
  | zero => intro L i rows L' rows' h h3 _; have := h.l; have := h.le; omega
  | succ f ih =>
    intro L i rows L' rows' h h3 he
    by_cases hl : i < L.length
    · have hi : L[i]? = some L[i] := List.getElem?_eq_getElem hl
      have hs := h.d _ (List.getElem_mem hl)
      simp only [allRows, hi] at he
      split at he
      · cases he
      · rename_i hg
        have hpre := rowGo_pre (T := T) L[i] 256 L
        have hle := hpre.length_le
        obtain ⟨k1, k2⟩ := ih (rowGo T L[i] 256 L) (i + 1) _ L' rows' ⟨by omega, by simp [h.n], by omega, rowGo_dm hT hs h.d 256 (Nat.le_refl _), rowGo_z h.z _ 256, fun j s hj hjs => by
          have hmem : ∀ c : Nat, c < 256 → zp (T.nx L[i] (c : Int)) ∈ rowGo T L[i] 256 L := fun c hc => rowGo_mem _ _ hc
          by_cases e : j = i
          · subst e
            have hs2 : L[j] = s := by
              obtain ⟨t, ht⟩ := hpre
              rw [← ht, List.getElem?_append_left hl, hi] at hjs
              exact Option.some.inj hjs
            subst hs2
            exact ⟨hmem, by rw [List.getElem?_append_right (by rw [h.n]; exact Nat.le_refl _), h.n, Nat.sub_self]; rfl⟩
          · have hjs' : L[j]? = some s := by
              obtain ⟨t, ht⟩ := hpre
              rw [← ht, List.getElem?_append_left (by omega)] at hjs
              exact hjs
            obtain ⟨q1, q2⟩ := h.r j s (by omega) hjs'
            refine ⟨fun c hc => hpre.subset (q1 c hc), ?_⟩
            rw [List.getElem?_append_left (by rw [h.n]; omega), q2, rowOf_pre hpre q1]⟩ (by omega) he
        exact ⟨hpre.trans k1, k2⟩
    · have hi : L[i]? = none := List.getElem?_eq_none (by omega)
      simp only [allRows, hi, Option.some.injEq, Prod.mk.injEq] at he
      obtain ⟨rfl, rfl⟩ := he
      have : i = L.length := by have := h.le; omega
      exact ⟨List.prefix_refl _, this ▸ h⟩
theorem entGo_z : ∀ k, ∀ q ∈ entGo T k, zp q = q
  | 0 => fun q hq => by simp [entGo] at hq; subst hq; simp [zp]
  | k + 1 => addp_z (entGo_z k) _
theorem entGo_head (k : Nat) : [(0, 0)] <+: entGo T k := entGo_mono (T := T) (j := 0) k (Nat.zero_le _)
theorem idxOf_rng {L : List Pr} {p : Pr} (h : p ∈ L) : 0 ≤ (L.idxOf p : Int) ∧ (L.idxOf p : Int) < L.length := by
  have := List.idxOf_lt_length_of_mem h
  omega
theorem get_pos {L : List Pr} {p : Pr} (h : zp p ∈ L) : L[(pos L p).toNat]? = some (zp p) := by
  unfold pos
  rw [Int.toNat_natCast]
  have hl := List.idxOf_lt_length_of_mem h
  rw [List.getElem?_eq_getElem hl, List.getElem_idxOf hl]
/-- the DFA is right -/
theorem both_right (hT : T.Ok) {L : List Pr} {rows : List (List Int)} (h : allRows T 202 (entGo T T.ea.length) 0 [] = some (L, rows)) :
    Rws T L L.length rows ∧ entGo T T.ea.length <+: L ∧ L[0]? = some (0, 0) ∧ Rt rows (L.map (rl T)) (entOf T (entGo T T.ea.length) T.ea.length) ∧ Sz rows (L.map (rl T)) (entOf T (entGo T T.ea.length) T.ea.length) := by
  have hel := hT.ha.e2
  have he1 := hT.ha.e1
  have hlen := entGo_len (T := T) T.ea.length
  obtain ⟨hpre, hR⟩ := allRows_ok hT 202 _ 0 [] L rows ⟨by omega, rfl, by omega, entGo_dm hT _, entGo_z _, fun j s hj => by omega⟩ (by omega) h
  have h0 : L[0]? = some (0, 0) := by
    obtain ⟨t, ht⟩ := (entGo_head (T := T) T.ea.length).trans hpre
    rw [← ht]; rfl
  have hL1 : 1 ≤ L.length := by have := lt_len h0; omega
  have hll := hR.l
  have hrow : ∀ r ∈ rows, ∃ s ∈ L, (∀ c : Nat, c < 256 → zp (T.nx s (c : Int)) ∈ L) ∧ r = rowOf T L s := fun r hr => by
    obtain ⟨j, hj, rfl⟩ := List.mem_iff_getElem.1 hr
    have hjl : j < L.length := by have := hR.n; omega
    obtain ⟨q1, q2⟩ := hR.r j _ hjl (List.getElem?_eq_getElem hjl)
    rw [List.getElem?_eq_getElem hj] at q2
    exact ⟨_, List.getElem_mem hjl, q1, Option.some.inj q2⟩
  have hent : ∀ x ∈ entOf T (entGo T T.ea.length) T.ea.length, 0 ≤ x ∧ x < (L.length : Int) := fun x hx => by
    obtain ⟨c, hc, rfl⟩ := List.mem_map.1 hx
    have hm := entGo_mem (T := T) (c := c) (k := T.ea.length) (by simpa using hc)
    have h1 := idxOf_rng hm
    have h2 := hpre.length_le
    unfold pos
    omega
  have hzz : T.nx (0, 0) = fun _ => (0, 0) := by funext c; unfold Two.nx; rw [zero_nxt hT.ha, zero_nxt hT.hb]
  refine ⟨hR, hpre, h0, ⟨by rw [hR.n]; exact hL1, by rw [hR.n]; exact hll, by simp [hR.n], by unfold entOf; simp; omega, by unfold entOf; simp; omega, fun r hr x hx => ?_, fun x hx => ?_, fun x hx => by rw [hR.n]; exact hent x hx, ?_, ?_⟩, ⟨fun r hr => ?_, by rw [hR.n]; omega, by simp; omega, by unfold entOf; simp; omega⟩⟩
  · obtain ⟨s, hs, hm, rfl⟩ := hrow r hr
    obtain ⟨c, hc, rfl⟩ := List.mem_map.1 hx
    rw [hR.n]
    exact idxOf_rng (hm c (by simpa using hc))
  · obtain ⟨p, hp, rfl⟩ := List.mem_map.1 hx
    have hd := hR.d p hp
    have h1 := (rule_at hT.ha hd.1).2
    unfold rl
    split
    · omega
    · exact h1
  · obtain ⟨q1, q2⟩ := hR.r 0 _ (by omega) h0
    rw [q2]
    congr 1
    unfold rowOf
    have hp : pos L (0, 0) = 0 := by
      unfold pos
      have hz : zp ((0, 0) : Pr) = (0, 0) := by simp [zp]
      rw [hz]
      cases L with
      | nil => simp at h0
      | cons a L => simp at h0; subst h0; simp
    rw [hzz]
    generalize hn : (256 : Nat) = n
    refine List.eq_replicate_iff.2 ⟨by simp, fun x hx => ?_⟩
    obtain ⟨c, _, rfl⟩ := List.mem_map.1 hx
    exact hp
  · rw [List.getElem?_map, h0]
    show some (rl T (0, 0)) = some (-1)
    unfold rl
    have : (T.ru (0, 0)).2 = -1 := rule_zero hT.hb
    rw [if_pos this]
  · obtain ⟨s, hs, hm, rfl⟩ := hrow r hr
    unfold rowOf; simp
/-- where the DFA is behind a text -/
theorem both_run (hT : T.Ok) {L : List Pr} {rows : List (List Int)} (h : allRows T 202 (entGo T T.ea.length) 0 [] = some (L, rows)) {c : Nat} (hc : c < T.ea.length) :
    ∀ (t : List Int), Byt t → t.foldl (nxt rows) (beg (entOf T (entGo T T.ea.length) T.ea.length) (c : Int)) = pos L (t.foldl T.nx (T.bg (c : Int))) ∧ zp (t.foldl T.nx (T.bg (c : Int))) ∈ L ∧ T.dm (t.foldl T.nx (T.bg (c : Int))) := by
  obtain ⟨hR, hpre, h0, hRt, hSz⟩ := both_right hT h
  have hb : beg (entOf T (entGo T T.ea.length) T.ea.length) (c : Int) = pos L (T.bg (c : Int)) := by
    unfold beg
    have hl : (entOf T (entGo T T.ea.length) T.ea.length).length = T.ea.length := by unfold entOf; simp
    rw [if_pos (by omega), Int.toNat_natCast, List.getD]
    unfold entOf
    rw [List.getElem?_map, List.getElem?_range hc]
    show pos (entGo T T.ea.length) (T.bg (c : Int)) = _
    rw [pos_pre hpre (entGo_mem hc)]
  intro t
  refine snoc_ind (P := fun t => Byt t → t.foldl (nxt rows) (beg (entOf T (entGo T T.ea.length) T.ea.length) (c : Int)) = pos L (t.foldl T.nx (T.bg (c : Int))) ∧ zp (t.foldl T.nx (T.bg (c : Int))) ∈ L ∧ T.dm (t.foldl T.nx (T.bg (c : Int)))) (fun _ => ⟨hb, hpre.subset (entGo_mem hc), hT.bg _⟩) (fun t x ih hbt => ?_) _ t rfl
  obtain ⟨hb1, hx⟩ := Byt.app.1 hbt
  obtain ⟨i1, i2, i3⟩ := ih hb1
  rw [List.foldl_append, List.foldl_append, i1]
  simp only [List.foldl_cons, List.foldl_nil]
  generalize t.foldl T.nx (T.bg (c : Int)) = p at i2 i3
  have hg := get_pos i2
  obtain ⟨q1, q2⟩ := hR.r _ _ (lt_len hg) hg
  have hxc : ((x.toNat : Nat) : Int) = x := by omega
  have q1x := q1 x.toNat (by omega)
  rw [hxc, zp_nx hT] at q1x
  refine ⟨?_, q1x, hT.nx _ _ i3 hx⟩
  unfold nxt
  rw [show rows.getD (pos L p).toNat [] = rowOf T L (zp p) by rw [List.getD, q2]; rfl]
  unfold rowOf
  rw [List.getD, List.getElem?_map, List.getElem?_range (show x.toNat < 256 by omega)]
  show pos L (T.nx (zp p) ((x.toNat : Nat) : Int)) = _
  rw [hxc]
  unfold pos
  rw [zp_nx hT]
theorem both_rule (hT : T.Ok) {L : List Pr} {rows : List (List Int)} (h : allRows T 202 (entGo T T.ea.length) 0 [] = some (L, rows)) {c : Nat} (hc : c < T.ea.length) {t : List Int} (ht : Byt t) :
    (L.map (rl T)).getD (t.foldl (nxt rows) (beg (entOf T (entGo T T.ea.length) T.ea.length) (c : Int))).toNat 0 = wantR T (t.foldl T.nx (T.bg (c : Int))) := by
  obtain ⟨h1, h2, h3⟩ := both_run hT h hc t ht
  rw [h1, List.getD, List.getElem?_map, get_pos h2]
  exact rl_zp hT h3
end
end Go.Proofs.YtealkahefalaeaaGreatDoor
namespace Go.Proofs.YtealkahefalaeaaGreatDoor
open Go Go.Eng
set_option maxRecDepth 100000
def sw (p : Pr) : Pr := (p.2, p.1)
def Two.sw (T : Two) : Two := ⟨T.rb, T.ub, T.eb, T.ra, T.ua, T.ea⟩
section
variable {N : Nat} {T : Two}
theorem Two.Ok.sw (h : T.Ok) : T.sw.Ok := ⟨h.sb, h.hb, h.sa, h.ha⟩
theorem sw_fold (t : List Int) : ∀ (p : Pr), t.foldl T.sw.nx (sw p) = sw (t.foldl T.nx p) := by
  induction t with
  | nil => exact fun _ => rfl
  | cons c t ih => exact fun p => ih (T.nx p c)
theorem sw_gP (p : Pr) : gP T.sw 0 (sw p) ↔ gP T 0 p := by
  show gk 0 (T.ru p).2 (T.ru p).1 = true ↔ gk 0 (T.ru p).1 (T.ru p).2 = true
  unfold gk
  simp only [if_true, bne_iff_ne]
  exact ⟨fun h e => h e.symm, fun h e => h e.symm⟩
theorem sw_LG (c : Int) (t : List Int) : LG T.sw.nx (gP T.sw 0) (T.sw.bg c) t ↔ LG T.nx (gP T 0) (T.bg c) t := by
  unfold LG
  rw [show T.sw.bg c = sw (T.bg c) from rfl, sw_fold, sw_gP]
theorem sw_best {c : Int} {t : List Int} (h : BestG T.nx (gP T 0) (T.bg c) t) : BestG T.sw.nx (gP T.sw 0) (T.sw.bg c) t :=
  ⟨(sw_LG c t).2 h.1, fun u hu => h.2 u ((sw_LG c u).1 hu)⟩
theorem sw_first {z : Option (Nat × List Int)} (h : First T (max T.ea.length T.eb.length) z) : First T.sw (max T.sw.ea.length T.sw.eb.length) z := by
  have e : max T.sw.ea.length T.sw.eb.length = max T.ea.length T.eb.length := Nat.max_comm _ _
  rw [e]
  cases h with
  | none h => exact .none fun c hc u hu => h c hc u ((sw_LG _ _).1 hu)
  | some c t h1 h2 h3 => exact .some c t h1 (fun d hd u hu => h2 d hd u ((sw_LG _ _).1 hu)) (sw_best h3)
theorem right_any {rows : List (List Int)} {rule entry : List Int} (hN : 4294967296 ≤ N) (hw : ∀ r ∈ rows, r.length = 256) (ha : rows.length ≤ 100) : (F_subset_Right N rows rule entry = some true ∧ Rt rows rule entry ∧ Sz rows rule entry) ∨ F_subset_Right N rows rule entry = some false := by
  by_cases h : rule.length = rows.length ∧ entry.length ≤ 8
  · have hs : Sz rows rule entry := ⟨hw, by omega, by omega, by omega⟩
    by_cases hr : Rt rows rule entry
    · exact .inl ⟨right_t hN hs hr, hr, hs⟩
    · exact .inr (right_f hN hs hr)
  · right
    unfold F_subset_Right
    generalize List.replicate 256 (0 : Int) = z
    by_cases a1 : (rows.length : Int) < 1
    · simp [a1]
    by_cases a2 : (rows.length : Int) > 200
    · simp [a1, a2]
    by_cases a3 : rule.length = rows.length
    case neg =>
      have e0 : ((rule.length : Int) != (rows.length : Int)) = true := by simp; omega
      simp [a1, a2, e0]
    by_cases a4 : (entry.length : Int) < 1
    · simp [a1, a2, a3, a4]
    have a5 : (entry.length : Int) > 8 := by omega
    simp [a1, a2, a3, a4, a5]
theorem subBegin_spec {rows : List (List Int)} {rule entry : List Int} (cond : Int) : F_subset_DFA_begin N rows rule entry cond = some (beg entry cond) := by
  unfold F_subset_DFA_begin beg
  by_cases h1 : cond < 0
  · have : ¬ (0 ≤ cond ∧ cond < (entry.length : Int)) := by omega
    simp [h1, this]
  by_cases h2 : cond ≥ (entry.length : Int)
  · have : ¬ (0 ≤ cond ∧ cond < (entry.length : Int)) := by omega
    simp [h1, h2, this]
  · have h3 : 0 ≤ cond ∧ cond < (entry.length : Int) := by omega
    have hl : cond.toNat < entry.length := by omega
    rw [if_pos h3, List.getD, List.getElem?_eq_getElem hl]
    simp only [h1, h2, decide_false, Bool.false_eq_true, if_false, bind, Option.bind_some, idx_int h3.1 hl]
    rfl
theorem subNext_spec {rows : List (List Int)} {rule entry : List Int} (hs : Sz rows rule entry) {s c : Int} (hr : 0 ≤ s ∧ s < rows.length) (hc : 0 ≤ c ∧ c < 256) : F_subset_DFA_next N rows rule entry s c = some (nxt rows s c) := by
  obtain ⟨row, h1, _, h3, _⟩ := nxt_get hs hr hc
  unfold F_subset_DFA_next
  simp only [show ¬ s < 0 by omega, show ¬ s ≥ (rows.length : Int) by omega, decide_false, Bool.false_eq_true, if_false, bind, Option.bind_some, h1, h3]
theorem fold_rng {rows : List (List Int)} {rule entry : List Int} (hs : Sz rows rule entry) (h : Rt rows rule entry) : ∀ (t : List Int) (s : Int), Byt t → (0 ≤ s ∧ s < (rows.length : Int)) → 0 ≤ t.foldl (nxt rows) s ∧ t.foldl (nxt rows) s < rows.length
  | [], _, _, hr => hr
  | c :: t, s, hb, hr => fold_rng hs h t _ (fun x hx => hb x (by simp [hx])) (nxt_rng hs h hr (hb c (by simp)))
theorem subRun_spec {rows : List (List Int)} {rule entry : List Int} (hN : 4294967296 ≤ N) (hs : Sz rows rule entry) (h : Rt rows rule entry) (cond : Int) {text : List Int} (ht : Byt text) (hl : text.length < 4294967296) :
    F_subset_DFA_Run N rows rule entry cond text = some (rule.getD (text.foldl (nxt rows) (beg entry cond)).toNat 0) := by
  unfold F_subset_DFA_Run
  obtain ⟨s, h1, h2, _⟩ := loop_inv (f := fun s => F_subset_DFA_Run_l0 N rows rule entry text s.1 s.2) (fun i (s : Int) => ((i : Int), s)) id text (fun i s => s = (text.take i).foldl (nxt rows) (beg entry cond) ∧ 0 ≤ s ∧ s < rows.length) (N := N) (s := beg entry cond) (by omega)
    ⟨by simp, beg_rng h cond⟩
    (fun i c s hc hI => by
      obtain ⟨k1, k2⟩ := hI
      have hi := lt_len hc
      have hcb := ht c (List.mem_of_getElem? hc)
      refine ⟨nxt rows s c, ?_, ?_, nxt_rng hs h k2 hcb⟩
      · unfold F_subset_DFA_Run_l0
        simp only [show ((i : Int) < (text.length : Int)) by omega, decide_true, if_true, idx_of hc, subNext_spec hs k2 hcb, bind, Option.bind_some]
        rw [w64_succ (by omega)]
      · rw [List.take_add_one, hc, List.foldl_append, ← k1]; rfl)
    (fun s _ => by unfold F_subset_DFA_Run_l0; simp)
  rw [List.take_length] at h2
  subst h2
  have hr := fold_rng hs h text _ ht (beg_rng h cond)
  simp only [right_t hN hs h, subBegin_spec, bind, Option.bind_some, Bool.not_true, Bool.false_eq_true, if_false]
  rw [show iterO N (fun s => F_subset_DFA_Run_l0 N rows rule entry text s.1 s.2) (0, beg entry cond) = _ from h1]
  simp only [Option.bind_some, id, (rule_at h hr).1]
theorem pair_fold (t : List Int) : ∀ (p : Pr), t.foldl T.nx p = (t.foldl (nxt T.ra) p.1, t.foldl (nxt T.rb) p.2) := by
  induction t with
  | nil => exact fun _ => rfl
  | cons c t ih => exact fun p => ih (T.nx p c)
/-- the loop over the conditions -/
theorem turned_loop (hN : 4294967296 ≤ N) (hT : T.Ok) {text : List Int} (ht : Byt text) (hl : text.length ≤ 40) {L : List Pr} {rows : List (List Int)} (h : allRows T 202 (entGo T T.ea.length) 0 [] = some (L, rows)) :
    iterO N (fun s => F_dofferlaw21_ProductTurned_l0 N T.ra T.ua T.ea T.rb T.ub T.eb text rows (L.map (rl T)) (entOf T (entGo T T.ea.length) T.ea.length) s) 0 = some (.inl ()) := by
  obtain ⟨_, _, _, hRt, hSz⟩ := both_right hT h
  have hel := hT.ha.e2
  refine iterO_for0 (fun c => (c : Int)) T.ea.length rfl (by omega) (fun c hc => ?_) (by unfold F_dofferlaw21_ProductTurned_l0; simp)
  have hr := both_rule hT h hc ht
  rw [pair_fold] at hr
  have ea : (T.bg (c : Int)).1 = beg T.ea (c : Int) := rfl
  have eb : (T.bg (c : Int)).2 = beg T.eb (c : Int) := rfl
  rw [ea, eb] at hr
  unfold wantR Two.ru at hr
  simp only at hr
  unfold F_dofferlaw21_ProductTurned_l0
  simp only [show ((c : Int) < (T.ea.length : Int)) by omega, decide_true, if_true, subRun_spec hN hT.sa hT.ha _ ht (by omega), subRun_spec hN hT.sb hT.hb _ ht (by omega), subRun_spec hN hSz hRt _ ht (by omega), bind, Option.bind_some, hr]
  rw [w64_succ (n := c) (by omega)]
  generalize T.ua.getD (text.foldl (nxt T.ra) (beg T.ea (c : Int))).toNat 0 = x
  generalize T.ub.getD (text.foldl (nxt T.rb) (beg T.eb (c : Int))).toNat 0 = y
  by_cases hy : y < 0 <;> simp [hy]
end
theorem tl1 : @F_dofferlaw21_ProductTurned_l1 = @F_dofferlaw21_ProductTurned_l0 := rfl
theorem tl2 : @F_dofferlaw21_ProductTurned_l2 = @F_dofferlaw21_ProductTurned_l0 := rfl
theorem tl3 : @F_dofferlaw21_ProductTurned_l3 = @F_dofferlaw21_ProductTurned_l0 := rfl
theorem eok_lim : eOk errIds 9 = true := by decide
theorem eok_form : eOk errIds 2 = true := by decide
theorem eok_nil : eOk errIds 0 = false := by decide
theorem productTurned_true {ra : List (List Int)} {ua ea : List Int} {rb : List (List Int)} {ub eb text : List Int} (hw : ∀ r ∈ ra, r.length = 256) (hw' : ∀ r ∈ rb, r.length = 256) (ht : Byt text) : ∃ N, F_dofferlaw21_ProductTurned N ra ua ea rb ub eb text = some true := by
  refine ⟨4294967296, ?_⟩
  generalize hM : (4294967296 : Nat) = N
  have hN : 4294967296 ≤ N := by omega
  unfold F_dofferlaw21_ProductTurned
  rw [tl1, tl2, tl3]
  simp only [alive21 hN, bind, Option.bind_some, Bool.not_true, Bool.false_eq_true, if_false]
  by_cases h1 : (ra.length : Int) > 10
  · simp [h1]
  by_cases h2 : (rb.length : Int) > 10
  · simp [h1, h2]
  by_cases h3 : (text.length : Int) > 40
  · simp [h1, h2, h3]
  rcases right_any (rule := ua) (entry := ea) hN hw (by omega) with ⟨r1, ha, sa⟩ | r1
  case inr => simp [h1, h2, h3, r1]
  rcases right_any (rule := ub) (entry := eb) hN hw' (by omega) with ⟨r2, hb, sb⟩ | r2
  case inr => simp [h1, h2, h3, r1, r2]
  simp only [h1, h2, h3, r1, r2, decide_false, Bool.false_eq_true, if_false, Option.bind_some, Bool.not_true]
  have hT : (Two.mk ra ua ea rb ub eb).Ok := ⟨sa, ha, sb, hb⟩
  obtain ⟨z, z1, z2⟩ := differ_spec hN hT
  obtain ⟨z', y1, y2⟩ := differ_spec hN hT.sw
  obtain rfl : z' = z := y1.uniq (sw_first z1)
  simp only [Two.sw] at y2
  have hfin : ∀ l : Option Bool, (l = some true) → l = some true := fun _ h => h
  have hB : ∀ (k : List (List Int) × List Int × List Int × Int → Option Bool),
      (k ([], [], [], 2) = some true) → (k ([], [], [], 9) = some true) →
      (∀ L rows, ea.length = eb.length → allRows (Two.mk ra ua ea rb ub eb) 202 (entGo (Two.mk ra ua ea rb ub eb) ea.length) 0 [] = some (L, rows) → k (rows, L.map (rl (Two.mk ra ua ea rb ub eb)), entOf (Two.mk ra ua ea rb ub eb) (entGo (Two.mk ra ua ea rb ub eb) ea.length) ea.length, 0) = some true) →
      ((F_product_Both N ra ua ea rb ub eb).bind k = some true) := fun k k1 k2 k3 => by
    by_cases he : ea.length = eb.length
    · have hb := both_spec hN hT he
      simp only at hb
      rw [hb]
      simp only [Option.bind_some]
      unfold bothF
      cases hq : allRows (Two.mk ra ua ea rb ub eb) 202 (entGo (Two.mk ra ua ea rb ub eb) ea.length) 0 [] with
      | none => exact k2
      | some w => obtain ⟨L, rows⟩ := w; exact k3 L rows he hq
    · have hb := both_not hN (T := Two.mk ra ua ea rb ub eb) sa sb (.inr he)
      simp only at hb
      rw [hb]
      exact k1
  cases z' with
  | none =>
    rw [z2]
    simp only [dif, Option.bind_some]
    rw [y2]
    simp only [dif, Option.bind_some]
    simp only [bne_self_eq_false, Bool.false_eq_true, if_false, Option.bind_some]
    refine hB _ (by simp [eok_form]) (by simp [eok_lim]) fun L rows he hq => ?_
    have hl := turned_loop hN hT ht (by omega) hq
    simp only at hl
    have hn : ((ea.length : Int) != (eb.length : Int)) = false := by rw [he]; simp
    simp only [eok_nil, hn, Bool.false_eq_true, if_false, Option.bind_some]
    rw [hl]
    rfl
  | some w =>
    obtain ⟨c, t⟩ := w
    rw [z2]
    simp only [dif, Option.bind_some]
    rw [y2]
    simp only [dif, Option.bind_some]
    have e1 : (Two.mk rb ub eb ra ua ea).ru (t.foldl (Two.mk rb ub eb ra ua ea).nx ((Two.mk rb ub eb ra ua ea).bg (c : Int))) = sw ((Two.mk ra ua ea rb ub eb).ru (t.foldl (Two.mk ra ua ea rb ub eb).nx ((Two.mk ra ua ea rb ub eb).bg (c : Int)))) := by
      have := sw_fold (T := Two.mk ra ua ea rb ub eb) t ((Two.mk ra ua ea rb ub eb).bg (c : Int))
      rw [show (Two.mk rb ub eb ra ua ea).bg (c : Int) = sw ((Two.mk ra ua ea rb ub eb).bg (c : Int)) from rfl, show (Two.mk rb ub eb ra ua ea) = (Two.mk ra ua ea rb ub eb).sw from rfl, this]
      rfl
    rw [e1]
    simp only [sw, bne_self_eq_false, Bool.false_eq_true, if_false, Option.bind_some]
    refine hB _ (by simp [eok_form]) (by simp [eok_lim]) fun L rows he hq => ?_
    have hl := turned_loop hN hT ht (by omega) hq
    simp only at hl
    have hn : ((ea.length : Int) != (eb.length : Int)) = false := by rw [he]; simp
    simp only [eok_nil, hn, Bool.false_eq_true, if_false, Option.bind_some]
    rw [hl]
    rfl
end Go.Proofs.YtealkahefalaeaaGreatDoor
