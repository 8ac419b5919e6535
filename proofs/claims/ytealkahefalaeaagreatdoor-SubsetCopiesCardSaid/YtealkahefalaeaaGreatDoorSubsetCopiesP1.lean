/-
  PLAIN LEAN, no program in sight: what the pure functions answer.
-/
import Derived.Test.YtealkahefalaeaaGreatDoorSubsetCopiesD1
import Derived.Test.YtealkahefalaeaaGreatDoorProg
namespace Go.Eng
open Go
theorem iterO_for {σ τ : Type} {f : σ → Option (σ ⊕ τ)} {r : τ} (st : Nat → σ) : ∀ (n : Nat) {N k : Nat}, n < N → (∀ i, k ≤ i → i < k + n → f (st i) = some (.inl (st (i + 1)))) → f (st (k + n)) = some (.inr r) → iterO N f (st k) = some r
  | 0, 0, _, h, _, _ => absurd h (Nat.not_lt_zero _)
  | 0, N + 1, k, _, _, he => by simp only [iterO]; rw [show f (st k) = _ from he]
  | n + 1, 0, _, h, _, _ => absurd h (Nat.not_lt_zero _)
  | n + 1, N + 1, k, h, hs, he => by
    simp only [iterO]
    rw [hs k (Nat.le_refl _) (by omega)]
    exact iterO_for st n (by omega) (fun i h1 h2 => hs i (by omega) (by omega)) (by rw [show k + 1 + n = k + (n + 1) by omega]; exact he)
theorem iterO_for0 {σ τ : Type} {f : σ → Option (σ ⊕ τ)} {r : τ} {s : σ} (st : Nat → σ) (n : Nat) {N : Nat} (h0 : st 0 = s) (hN : n < N) (hs : ∀ i, i < n → f (st i) = some (.inl (st (i + 1)))) (he : f (st n) = some (.inr r)) : iterO N f s = some r := by
  subst h0
  exact iterO_for st n hN (fun i _ h => hs i (by omega)) (by rw [Nat.zero_add]; exact he)
theorem wrap64 {x : Int} (h1 : -9223372036854775808 ≤ x) (h2 : x ≤ 9223372036854775807) : IntKind.wrap .i64 x = x := by
  simp only [IntKind.wrap, IntKind.signed, IntKind.bits]
  simp
  omega
theorem w64_succ {n : Nat} (h : n < 9223372036854775807) : w64 ((n : Int) + 1) = ((n + 1 : Nat) : Int) := by
  rw [w64, wrap64] <;> omega
theorem idx_nat {α : Type} {xs : List α} {i : Nat} (h : i < xs.length) : idx xs (i : Int) = some xs[i] := by simp [idx, h]
theorem idx_of {α : Type} {xs : List α} {i : Nat} {x : α} (h : xs[i]? = some x) : idx xs (i : Int) = some x := by simp [idx, h]
theorem setI_nat {α : Type} {xs : List α} {i : Nat} {x : α} (h : i < xs.length) : setI xs (i : Int) x = some (xs.set i x) := by simp [setI, h]
theorem app_eq {α : Type} {xs ys : List α} (h : xs.length + ys.length ≤ 4294967296) : app xs ys = some (xs ++ ys) := by simp [app, h]
/-- a loop over xs that leaves with g at the first element that p fits -/
theorem loop_find {α τ : Type} {f : Int → Option (Int ⊕ (Unit ⊕ τ))} (xs : List α) (p : α → Bool) (g : Nat → τ) {N : Nat} (hN : xs.length < N)
    (hb : ∀ (i : Nat) (x : α), xs[i]? = some x → f (i : Int) = if p x then some (.inr (.inr (g i))) else some (.inl ((i + 1 : Nat) : Int))) (he : f (xs.length : Int) = some (.inr (.inl ()))) :
    iterO N f 0 = some (match xs.findIdx? p with | some i => .inr (g i) | none => .inl ()) := by
  cases h : xs.findIdx? p with
  | none =>
    have h' := List.findIdx?_eq_none_iff.1 h
    refine iterO_for0 (fun i => (i : Int)) xs.length rfl hN (fun i hi => ?_) he
    rw [hb i xs[i] (List.getElem?_eq_getElem hi), h' _ (List.getElem_mem hi)]
    simp
  | some k =>
    obtain ⟨hk, hp, hlt⟩ := List.findIdx?_eq_some_iff_getElem.1 h
    refine iterO_for0 (fun i => (i : Int)) k rfl (by omega) (fun i hi => ?_) ?_
    · rw [hb i _ (List.getElem?_eq_getElem (by omega))]
      have := hlt i hi
      simp [this]
    · rw [hb k _ (List.getElem?_eq_getElem hk)]
      simp [hp]
/-- .. that leaves with b -/
theorem loop_any {α τ : Type} {f : Int → Option (Int ⊕ (Unit ⊕ τ))} (xs : List α) (p : α → Bool) (b : τ) {N : Nat} (hN : xs.length < N)
    (hb : ∀ (i : Nat) (x : α), xs[i]? = some x → f (i : Int) = if p x then some (.inr (.inr b)) else some (.inl ((i + 1 : Nat) : Int))) (he : f (xs.length : Int) = some (.inr (.inl ()))) :
    iterO N f 0 = some (if xs.any p then .inr b else .inl ()) := by
  rw [loop_find xs p (fun _ => b) hN hb he]
  cases h : xs.findIdx? p with
  | none =>
    have h' := List.findIdx?_eq_none_iff.1 h
    have : xs.any p = false := by rw [List.any_eq_false]; intro x hx; rw [h' x hx]; simp
    simp [this]
  | some k =>
    obtain ⟨hk, hp, hlt⟩ := List.findIdx?_eq_some_iff_getElem.1 h
    have : xs.any p = true := List.any_eq_true.2 ⟨_, List.getElem_mem hk, hp⟩
    simp [this]
/-- a loop over xs that folds -/
theorem loop_fold {α σ τ : Type} {ι : Type} {f : ι → Option (ι ⊕ τ)} (st : Nat → σ → ι) (out : σ → τ) (xs : List α) (step : σ → α → σ) (I : Nat → σ → Prop) {N : Nat} {s : σ} (hN : xs.length < N)
    (hI : I 0 s) (hb : ∀ (i : Nat) (x : α) (s : σ), xs[i]? = some x → I i s → f (st i s) = some (.inl (st (i + 1) (step s x))) ∧ I (i + 1) (step s x)) (he : ∀ s, I xs.length s → f (st xs.length s) = some (.inr (out s))) :
    iterO N f (st 0 s) = some (out (xs.foldl step s)) := by
  have hI' : ∀ i, i ≤ xs.length → I i ((xs.take i).foldl step s) := by
    intro i
    induction i with
    | zero => intro _; simpa using hI
    | succ i ih =>
      intro hi
      have hx : xs[i]? = some xs[i] := List.getElem?_eq_getElem (by omega)
      rw [List.take_add_one, hx, List.foldl_append]
      exact (hb i _ _ hx (ih (by omega))).2
  refine iterO_for0 (fun i => st i ((xs.take i).foldl step s)) xs.length (by simp) hN (fun i hi => ?_) ?_
  · have hx : xs[i]? = some xs[i] := List.getElem?_eq_getElem hi
    rw [(hb i _ _ hx (hI' i (by omega))).1, List.take_add_one, hx, List.foldl_append]
    rfl
  · have := he _ (hI' _ (Nat.le_refl _))
    rw [List.take_length] at this
    simp only [List.take_length]
    exact this
/-- a loop over xs, by an invariant -/
theorem loop_inv {α σ τ ι : Type} {f : ι → Option (ι ⊕ τ)} (st : Nat → σ → ι) (out : σ → τ) (xs : List α) (I : Nat → σ → Prop) {N : Nat} {s : σ} (hN : xs.length < N)
    (hI : I 0 s) (hb : ∀ (i : Nat) (x : α) (s : σ), xs[i]? = some x → I i s → ∃ s', f (st i s) = some (.inl (st (i + 1) s')) ∧ I (i + 1) s') (he : ∀ s, I xs.length s → f (st xs.length s) = some (.inr (out s))) :
    ∃ s', iterO N f (st 0 s) = some (out s') ∧ I xs.length s' := by
  have key : ∀ (k i : Nat) (s : σ) (M : Nat), i + k = xs.length → k < M → I i s → ∃ s', iterO M f (st i s) = some (out s') ∧ I xs.length s' := by
    intro k
    induction k with
    | zero =>
      intro i s M hi hM h
      obtain ⟨M, rfl⟩ : ∃ m, M = m + 1 := ⟨M - 1, by omega⟩
      obtain rfl : i = xs.length := by omega
      exact ⟨s, by simp only [iterO]; rw [he s h], h⟩
    | succ k ih =>
      intro i s M hi hM h
      obtain ⟨M, rfl⟩ : ∃ m, M = m + 1 := ⟨M - 1, by omega⟩
      obtain ⟨s', h1, h2⟩ := hb i _ s (List.getElem?_eq_getElem (by omega)) h
      obtain ⟨s'', h3, h4⟩ := ih (i + 1) s' M (by omega) (by omega) h2
      exact ⟨s'', by simp only [iterO]; rw [h1]; exact h3, h4⟩
  exact key xs.length 0 s N (by omega) hN hI
end Go.Eng
namespace Go.Proofs.YtealkahefalaeaaGreatDoor
open Go Go.Eng Go.Cr
set_option maxRecDepth 100000
theorem xty3 : Ty Tryz.prog 3 1 8 (.int .i64 0) false := ⟨by kernel_rfl, by kernel_rfl⟩
theorem fnx108 : HasFn Tryz.prog 108 := ⟨_, _, Tryz.func108, by kernel_rfl, rfl⟩
theorem fnx128 : HasFn Tryz.prog 128 := ⟨_, _, Tryz.func128, by kernel_rfl, rfl⟩
theorem c_ix108 {N : Nat} {C : Cx} {w : World} {ρ : View} {hs : List Hl} {b2 oo : Nat} {x1 : Int} {x3 : Int} (H : Hp C w ρ (hs)) (g : cellsAt ρ b2 oo [.int .i64 x3]) {r : Bool} (hF : F_subset_Right_1 N x1 x3 = some r) :
  Calls Tryz.prog 108 [.int .i64 x1, .pointer (some ⟨b2, oo, none⟩)].toArray w (Rets (fun v w' => (∃ (x7 : Bool), x7 = r ∧ .bool x7 = v ∧ Hp C w' ρ (hs)))) := by
 unfold F_subset_Right_1 at hF
 have h0 : Tryz.f108.body = some _ := rfl
 refine fn_calls' Tryz.func108 h0 (n := 11) rfl (by simp) <| C_seq <| R_nd <| nq (Q_assign rfl) rfl rfl <| WL_nil <| x_then ?_
 obtain ⟨o9, ho9, hF⟩ := bnd hF
 refine C_cut (fun a w' => ∃ (x8 : Bool), x8 = o9 ∧ Fr 11 a [(3, .bool x8)] ∧ Hp C w' ρ (hs)) ?_ ?_
 ·refine R_nd <| nq (Q_move rfl) rfl rfl <| nq (Q_lss rfl rfl) rfl rfl <| nq (Q_move rfl) rfl rfl ?_
  rcases Bool.eq_false_or_eq_true (decide (x1 < 0)) with hb | hb
  ·rw [hb]
   replace ho9 := itT hb ho9
   refine gs rfl rfl rfl rfl <| gs rfl rfl rfl rfl <| gs rfl rfl rfl rfl <| nq (Q_pickT rfl rfl) rfl rfl <| nq (Q_assign rfl) rfl rfl <| WL_nil ?_
   obtain rfl := Option.some.inj ho9
   refine x_A fun a hf => ⟨true, rfl, hf.sub ⟨rfl, trivial⟩, H⟩
  ·rw [hb]
   replace ho9 := itF hb ho9
   refine gq (Q_move rfl) rfl rfl rfl <| gq (v := .int .i64 x3) (Q_ld (g.up H.ok.view) xty3 rfl (fun _ => rfl) rfl rfl) rfl rfl rfl <| gq (Q_geq rfl rfl) rfl rfl rfl <| nq (Q_pickF rfl rfl) rfl rfl <| nq (Q_assign rfl) rfl rfl <| WL_nil ?_
   obtain rfl := Option.some.inj ho9
   refine x_A fun a hf => ⟨decide (x1 ≥ x3), rfl, hf.sub ⟨rfl, trivial⟩, H⟩
 ·rintro a wd10 ⟨x8, rfl, hf, H⟩
  try dsimp only at hF
  refine CW.at hf <| C_ret ?_
  obtain rfl := Option.some.inj hF
  exact fn_ret (l := [.tmp 3]) (vs := [.bool x8]) rfl rfl rfl ⟨x8, rfl, rfl, H⟩
theorem c_ix128 {N : Nat} {C : Cx} {w : World} {ρ : View} {hs : List Hl} {v1 : Value} {b4 oo : Nat} {x2 : (List Int)} {x5 : Int} (H : Hp C w ρ (hs)) (g : cellsAt ρ b4 oo [.int .i64 x5]) (r3 : RdSl ρ (eI .i64) v1 x2) {r : Int} (hF : F_slices_IndexFunc_int_int N x2 x5 = some r) :
  Calls Tryz.prog 128 [v1, .func (.func 108) #[] [.pointer (some ⟨b4, oo, none⟩)].toArray].toArray w (Rets (fun v w' => (∃ (x88 : Int), x88 = r ∧ .int .i64 x88 = v ∧ Hp C w' ρ (hs)))) := by
 unfold F_slices_IndexFunc_int_int at hF
 have h0 : Tryz.f128.body = some _ := rfl
 refine fn_calls' Tryz.func128 h0 (n := 19) rfl (by simp) <| C_seq <| R_nd <| nq (Q_assign rfl) rfl rfl <| WL_nil <| x_then <| C_seq <| C_seq <| R_nd <| nq (Q_move rfl) rfl rfl <| nq (Q_len Tryz.underlying23 rfl r3) rfl rfl <| nq (Q_move rfl) rfl rfl <| WL_nil <| x_then ?_
 obtain ⟨o129, ho129, hF⟩ := bnd hF
 refine C_cutQ (fun a w' => .inl () = o129 ∧ Fr 19 a [] ∧ Hp C w' ρ (hs)) ?_ ?_
 ·refine C_block ?_
  refine C_iter (f := fun s => F_slices_IndexFunc_int_int_l0 N x2 x5 s) ho129 (fun s a w' => ∃ (x142 : Int), x142 = s ∧ Fr 19 a [(0, v1), (1, .func (.func 108) #[] [.pointer (some ⟨b4, oo, none⟩)].toArray), (7, .int .i64 (x2.length : Int)), (8, .int .i64 x142)] ∧ Hp C w' ρ (hs)) ?_ ?_
  ·exact fun a hf => ⟨0, rfl, hf.sub ⟨rfl, rfl, rfl, rfl, trivial⟩, H⟩
  ·rintro s o155 a wd158 ⟨x142, rfl, hf, H⟩ hB156 hO157
   replace hB156 : F_slices_IndexFunc_int_int_l0 N x2 x5 x142 = some o155 := hB156
   unfold F_slices_IndexFunc_int_int_l0 at hB156
   refine CW.at hf <| C_seq <| R_nd <| nq (Q_lss rfl rfl) rfl rfl <| WL_nil <| x_then <| C_seq ?_
   refine C_cond rfl (fun hb => ?_) (fun hb => ?_)
   ·replace hB156 := itT hb hB156
    refine C_skip <| x_then <| C_seq <| C_block <| C_seq <| R_nd <| nq (Q_move rfl) rfl rfl <| nq (Q_assign rfl) rfl rfl <| WL_nil <| x_then <| C_seq <| R_nd <| nq (Q_move rfl) rfl rfl <| nq (Q_move rfl) rfl rfl ?_
    refine nq (Q_move rfl) rfl rfl ?_
    obtain ⟨x159, hx159, hB156⟩ := bnd hB156
    obtain ⟨b160, o161, c162, hc163, ha164, hi165⟩ := idxR r3 hx159
    refine nq (Q_idx hi165 Tryz.underlying23 xty3 rfl rfl) rfl rfl <| nq (v := .int .i64 x159) (Q_ld (show cellsAt _ _ _ [.int .i64 x159] from (show _ = [_] from hc163) ▸ (ha164.up H.ok.view)) xty3 rfl (fun _ => rfl) rfl rfl) rfl rfl ?_
    obtain ⟨q166, hq166, hB156⟩ := bnd hB156
    refine ne (E_callV fnx108 rfl rfl (c_ix108 H g   hq166)) rfl rfl ?_
    rintro _ wd169 ⟨x168, rfl, rfl, H⟩
    try dsimp only at hB156
    refine WL_nil <| x_then ?_
    refine C_cond rfl (fun hb => ?_) (fun hb => ?_)
    ·replace hB156 := itT hb hB156
     refine C_seq <| R_nd <| nq (Q_move rfl) rfl rfl <| nq (Q_assign rfl) rfl rfl <| WL_nil <| x_then <| C_ret <| x_block_ret <| x_then_ret <| x_then_ret <| x_block_ret <| x_then_ret <| x_then_ret ?_
     obtain rfl := Option.some.inj hB156
     obtain rfl := hO157 _ rfl
     obtain rfl := Option.some.inj (show some _ = some _ from hF)
     exact fn_ret (l := [.tmp 4]) (vs := [.int .i64 x142]) rfl rfl rfl ⟨x142, rfl, rfl, H⟩
    ·replace hB156 := itF hb hB156
     refine C_skip <| x_block <| x_then <| R_nd <| nq (Q_add rfl rfl) rfl rfl <| nq (Q_move rfl) rfl rfl <| WL_nil ?_
     obtain rfl := Option.some.inj hB156
     refine x_A fun a hf => ⟨_, rfl, w64 (x142 + 1), rfl, hf.sub ⟨rfl, rfl, rfl, rfl, trivial⟩, H⟩
   ·replace hB156 := itF hb hB156
    refine C_exit <| x_then_exit <| x_then_exit <| x_block_exit ?_
    obtain rfl := Option.some.inj hB156
    obtain rfl := hO157 _ rfl
    refine x_A fun a hf => ⟨rfl, hf.sub trivial, H⟩
 ·rintro a wd170 ⟨rfl, hf, H⟩
  try dsimp only at hF
  refine XX.at hf <| x_then <| C_seq <| R_nd <| nq (Q_assign rfl) rfl rfl <| WL_nil <| x_then <| C_ret ?_
  obtain rfl := Option.some.inj hF
  exact fn_ret (l := [.tmp 4]) (vs := [.int .i64 (-1)]) rfl rfl rfl ⟨(-1), rfl, rfl, H⟩
theorem ixPr (N : Nat) (x n : Int) : F_subset_Right_1 N x n = some (ilt x 0 || ile n x) := by
  rw [ilt_eq, ile_eq]
  unfold F_subset_Right_1
  by_cases h : x < 0 <;> simp [h]
theorem firB_eq (n : Int) : ∀ (l : List Int) (i : Nat), firB n l i = match l.findIdx? (fun x => ilt x 0 || ile n x) with | some j => ((i + j : Nat) : Int) | none => -1
  | [], _ => rfl
  | x :: l, i => by
    have e : firB n (x :: l) i = bif ilt x 0 || ile n x then .ofNat i else firB n l (i + 1) := rfl
    rw [e, firB_eq n l (i + 1), List.findIdx?_cons]
    cases ilt x 0 || ile n x with
    | true => rfl
    | false =>
      simp only [cond_false, Bool.false_eq_true, if_false]
      cases l.findIdx? (fun x => ilt x 0 || ile n x) with
      | none => rfl
      | some j =>
        show ((i + 1 + j : Nat) : Int) = ((i + (j + 1) : Nat) : Int)
        rw [Nat.add_assoc, Nat.add_comm 1 j]
theorem ixPure {xs : List Int} {n : Int} (hl : xs.length ≤ 1048576) : F_slices_IndexFunc_int_int 1048577 xs n = some (firB n xs 0) := by
  unfold F_slices_IndexFunc_int_int
  generalize hM : (1048577 : Nat) = N
  rw [loop_find xs (fun x => ilt x 0 || ile n x) (fun i => (i : Int)) (by omega) (fun i x hx => by
    have hi := (List.getElem?_eq_some_iff.1 hx).1
    unfold F_slices_IndexFunc_int_int_l0
    simp only [show ((i : Int) < (xs.length : Int)) by omega, decide_true, if_true, idx_of hx, ixPr, bind, Option.bind_some]
    rw [w64_succ (by omega)]) (by unfold F_slices_IndexFunc_int_int_l0; simp), firB_eq]
  cases h : xs.findIdx? (fun x => ilt x 0 || ile n x) with
  | none => rfl
  | some k => simp
theorem ixC : IxC Tryz.prog ⟨261, 282, 128, 108⟩ := by
  intro w v xs b o n hr hl hc
  refine (c_ix128 (Hp.start w) hc hr (ixPure hl)).mono fun e w' he => ?_
  obtain ⟨u, rfl, x, rfl, rfl, H⟩ := he
  exact ⟨_, rfl, rfl, H.os, H.tape, H.out, H.size, fun b hb => H.old b hb (by simp)⟩
end Go.Proofs.YtealkahefalaeaaGreatDoor
namespace Go.Proofs.YtealkahefalaeaaGreatDoor
open Go Go.Eng Go.Cr
set_option maxRecDepth 100000
theorem runXx : XOk Tryz.prog ⟨261, 282, 128, 108⟩ := ⟨⟨_, Tryz.func261, by kernel_rfl, by kernel_rfl, by kernel_rfl, by kernel_rfl⟩, ⟨_, Tryz.func282, by kernel_rfl, by kernel_rfl, by kernel_rfl, by kernel_rfl⟩, .inr ⟨fnx128, ixC⟩⟩
theorem runMx : Tryz.prog.follows .mixedOrders = true := by kernel_rfl
end Go.Proofs.YtealkahefalaeaaGreatDoor
namespace Go.Proofs.YtealkahefalaeaaGreatDoor
open Go Go.Eng Go.Cr
set_option maxRecDepth 100000
theorem run45 : isTrue (run Tryz.prog ⟨261, 282, 128, 108⟩ 1000 (.f 45 []) [] (h0T 18 .u8 tab_math_bits_deBruijn64tab)) = true := by kernel_rfl
theorem runC45 : RunC Tryz.prog 45 (fun ρ => GTab ρ 18 .u8 tab_math_bits_deBruijn64tab) := runCT runXx runMx run45 ⟨_, _, Tryz.func45, by kernel_rfl, rfl⟩ (by decide) (by decide)
end Go.Proofs.YtealkahefalaeaaGreatDoor
namespace Go.Proofs.YtealkahefalaeaaGreatDoor
open Go Go.Eng
theorem lt_len {α : Type} {xs : List α} {i : Nat} {x : α} (h : xs[i]? = some x) : i < xs.length := (List.getElem?_eq_some_iff.1 h).1
/-- rows of 256, lists of a length that memory bears -/
structure Sz (rows : List (List Int)) (rule entry : List Int) : Prop where
  w : ∀ r ∈ rows, r.length = 256
  a : rows.length < 4294967296
  b : rule.length < 4294967296
  c : entry.length < 4294967296
end Go.Proofs.YtealkahefalaeaaGreatDoor
namespace Go.Proofs.YtealkahefalaeaaGreatDoor
open Go Go.Eng
theorem range_get {n i x : Nat} (h : (List.range n)[i]? = some x) : i < n ∧ x = i := by
  have hl := lt_len h
  simp at hl
  rw [List.getElem?_range hl] at h
  exact ⟨hl, (Option.some.inj h).symm⟩
/-- the copy -/
theorem of_spec {N : Nat} {rows : List (List Int)} {rule entry : List Int} {m : Int} (hN : 4294967296 ≤ N) (hs : Sz rows rule entry) :
    F_dofferlaw17_Of N rows rule entry m = some (if (rows.length : Int) > m ∨ (rule.length : Int) > m ∨ (entry.length : Int) > 20 then ([], false) else (rows, true)) := by
  unfold F_dofferlaw17_Of
  by_cases a1 : (rows.length : Int) > m
  · simp [a1]
  by_cases a2 : (rule.length : Int) > m
  · simp [a1, a2]
  by_cases a3 : (entry.length : Int) > 20
  · simp [a1, a2, a3]
  simp only [bind, if_false, a1, a2, a3, or_self]
  have := loop_fold (f := fun s => F_dofferlaw17_Of_l0 N rows s.1 s.2) (fun i (s : List (List Int)) => ((i : Int), s)) id rows (fun s x => s ++ [x]) (fun i s => s.length = i) (N := N) (s := []) (by have := hs.a; omega) rfl
    (fun i x s hx hI => ⟨by
      have hi := lt_len hx
      have := hs.a
      unfold F_dofferlaw17_Of_l0
      simp only [show ((i : Int) < (rows.length : Int)) by omega, decide_true, if_true, idx_of hx, bind, Option.bind_some]
      rw [w64_succ (by omega), app_eq (by simp; omega)]
      rfl, by simp [hI]⟩) (fun s _ => by unfold F_dofferlaw17_Of_l0; simp)
  rw [show iterO N (fun s => F_dofferlaw17_Of_l0 N rows s.1 s.2) (0, []) = _ from this]
  have hf : ∀ (l acc : List (List Int)), l.foldl (fun s x => s ++ [x]) acc = acc ++ l := by
    intro l
    induction l with
    | nil => simp
    | cons x l ih => intro acc; rw [List.foldl_cons, ih]; simp
  rw [hf]
  simp
theorem sameInts_spec {N : Nat} {a b : List Int} (hN : 4294967296 ≤ N) (ha : a.length < 4294967296) : F_doffernum_SameInts N a b = some (decide (a = b)) := by
  unfold F_doffernum_SameInts
  by_cases h : a.length = b.length
  case neg =>
    have : ((a.length : Int) != (b.length : Int)) = true := by simp; omega
    have hne : a ≠ b := fun e => h (by rw [e])
    simp [this, hne]
  have e0 : ((a.length : Int) != (b.length : Int)) = false := by simp [h]
  simp only [e0, Bool.false_eq_true, if_false]
  rw [loop_any (List.range a.length) (fun i => a.getD i 0 != b.getD i 0) false (by simp; omega) (fun i x hx => by
    obtain ⟨hi, rfl⟩ := range_get hx
    have hib : x < b.length := by omega
    unfold F_doffernum_SameInts_l0
    have g1 : a.getD x 0 = a[x] := by simp [List.getD, List.getElem?_eq_getElem hi]
    have g2 : b.getD x 0 = b[x] := by simp [List.getD, List.getElem?_eq_getElem hib]
    rw [g1, g2]
    simp only [show ((x : Int) < (a.length : Int)) by omega, decide_true, if_true, idx_nat hi, idx_nat hib, bind, Option.bind_some]
    rw [w64_succ (by omega)]) (by simp [F_doffernum_SameInts_l0])]
  by_cases c : ((List.range a.length).any fun i => a.getD i 0 != b.getD i 0) = true
  · have : a ≠ b := by
      obtain ⟨i, _, hp⟩ := List.any_eq_true.1 c
      intro e
      simp [e] at hp
    rw [if_pos c]
    simp [this]
  · have : a = b := by
      apply List.ext_getElem h
      intro i h1 h2
      have h3 := List.any_eq_false.1 (by simpa using c : ((List.range a.length).any fun i => a.getD i 0 != b.getD i 0) = false) i (by simpa using h1)
      have g1 : a.getD i 0 = a[i] := by simp [List.getD, List.getElem?_eq_getElem h1]
      have g2 : b.getD i 0 = b[i] := by simp [List.getD, List.getElem?_eq_getElem h2]
      rw [g1, g2] at h3
      simpa using h3
    rw [if_neg c]
    simp [this]
theorem same_spec {N : Nat} {rows rows' : List (List Int)} {rule entry rule' entry' : List Int} (hN : 4294967296 ≤ N) (hs : Sz rows rule entry) :
    F_dofferref17_Same N rows rule entry rows' rule' entry' = some (decide (rows = rows' ∧ rule = rule' ∧ entry = entry')) := by
  unfold F_dofferref17_Same
  by_cases h : rows.length = rows'.length
  case neg =>
    have : ((rows.length : Int) != (rows'.length : Int)) = true := by simp; omega
    have hne : rows ≠ rows' := fun e => h (by rw [e])
    simp [this, hne]
  have e0 : ((rows.length : Int) != (rows'.length : Int)) = false := by simp [h]
  simp only [e0, Bool.false_eq_true, if_false, sameInts_spec hN hs.b, sameInts_spec hN hs.c, bind, Option.bind_some]
  by_cases h1 : rule = rule'
  case neg => simp [h1]
  by_cases h2 : entry = entry'
  case neg => simp [h1, h2]
  simp only [h1, h2, decide_true, Bool.not_true, Bool.false_eq_true, if_false, Option.bind_some, and_true]
  have ha := hs.a
  rw [loop_any (List.range rows.length) (fun i => rows.getD i [] != rows'.getD i []) false (by simp; omega) (fun i x hx => by
    obtain ⟨hi, rfl⟩ := range_get hx
    have hib : x < rows'.length := by omega
    unfold F_dofferref17_Same_l0
    have g1 : rows.getD x [] = rows[x] := by simp [List.getD, List.getElem?_eq_getElem hi]
    have g2 : rows'.getD x [] = rows'[x] := by simp [List.getD, List.getElem?_eq_getElem hib]
    rw [g1, g2]
    simp only [show ((x : Int) < (rows.length : Int)) by omega, decide_true, if_true, idx_nat hi, idx_nat hib, bind, Option.bind_some]
    rw [w64_succ (by omega)]) (by simp [F_dofferref17_Same_l0])]
  by_cases c : ((List.range rows.length).any fun i => rows.getD i [] != rows'.getD i []) = true
  · have : rows ≠ rows' := by
      obtain ⟨i, _, hp⟩ := List.any_eq_true.1 c
      intro e
      simp [e] at hp
    rw [if_pos c]
    simp [this]
  · have : rows = rows' := by
      apply List.ext_getElem h
      intro i h1 h2
      have h3 := List.any_eq_false.1 (by simpa using c : ((List.range rows.length).any fun i => rows.getD i [] != rows'.getD i []) = false) i (by simpa using h1)
      have g1 : rows.getD i [] = rows[i] := by simp [List.getD, List.getElem?_eq_getElem h1]
      have g2 : rows'.getD i [] = rows'[i] := by simp [List.getD, List.getElem?_eq_getElem h2]
      rw [g1, g2] at h3
      simpa using h3
    rw [if_neg c]
    simp [this]
end Go.Proofs.YtealkahefalaeaaGreatDoor
namespace Go.Proofs.YtealkahefalaeaaGreatDoor
open Go Go.Eng
theorem equalI_spec {N : Nat} {a b : List Int} (hN : 4294967296 ≤ N) (ha : a.length < 4294967296) : F_slices_Equal_int_int N a b = some (decide (a = b)) := by
  have h := sameInts_spec (N := N) (a := a) (b := b) hN ha
  unfold F_doffernum_SameInts at h
  unfold F_slices_Equal_int_int
  have e : (fun s => F_slices_Equal_int_int_l0 N a b s) = fun s => F_doffernum_SameInts_l0 N a b s := by
    funext s; rfl
  rw [e]
  exact h
theorem equalR_spec {N : Nat} {a b : List (List Int)} (hN : 4294967296 ≤ N) (ha : a.length < 4294967296) : F_slices_Equal_subset_Row_subset_Row N a b = some (decide (a = b)) := by
  unfold F_slices_Equal_subset_Row_subset_Row
  by_cases h : a.length = b.length
  case neg =>
    have : ((a.length : Int) != (b.length : Int)) = true := by simp; omega
    have hne : a ≠ b := fun e => h (by rw [e])
    simp [this, hne]
  have e0 : ((a.length : Int) != (b.length : Int)) = false := by simp [h]
  simp only [e0, Bool.false_eq_true, if_false]
  rw [loop_any (List.range a.length) (fun i => a.getD i [] != b.getD i []) false (by simp; omega) (fun i x hx => by
    obtain ⟨hi, rfl⟩ := range_get hx
    have hib : x < b.length := by omega
    unfold F_slices_Equal_subset_Row_subset_Row_l0
    have g1 : a.getD x [] = a[x] := by simp [List.getD, List.getElem?_eq_getElem hi]
    have g2 : b.getD x [] = b[x] := by simp [List.getD, List.getElem?_eq_getElem hib]
    rw [g1, g2]
    simp only [show ((x : Int) < (a.length : Int)) by omega, decide_true, if_true, idx_nat hi, idx_nat hib, bind, Option.bind_some]
    rw [w64_succ (by omega)]) (by simp [F_slices_Equal_subset_Row_subset_Row_l0])]
  by_cases c : ((List.range a.length).any fun i => a.getD i [] != b.getD i []) = true
  · have : a ≠ b := by
      obtain ⟨i, _, hp⟩ := List.any_eq_true.1 c
      intro e
      simp [e] at hp
    rw [if_pos c]
    simp [this]
  · have : a = b := by
      apply List.ext_getElem h
      intro i h1 h2
      have h3 := List.any_eq_false.1 (by simpa using c : ((List.range a.length).any fun i => a.getD i [] != b.getD i []) = false) i (by simpa using h1)
      have g1 : a.getD i [] = a[i] := by simp [List.getD, List.getElem?_eq_getElem h1]
      have g2 : b.getD i [] = b[i] := by simp [List.getD, List.getElem?_eq_getElem h2]
      rw [g1, g2] at h3
      simpa using h3
    rw [if_neg c]
    simp [this]
theorem codeSame_spec {N : Nat} {rows rows' : List (List Int)} {rule entry rule' entry' : List Int} (hN : 4294967296 ≤ N) (hs : Sz rows rule entry) :
    F_subset_Same N rows rule entry rows' rule' entry' = some (decide (rows = rows' ∧ rule = rule' ∧ entry = entry')) := by
  unfold F_subset_Same
  simp only [equalR_spec hN hs.a, equalI_spec hN hs.b, equalI_spec hN hs.c, bind, Option.bind_some]
  by_cases h1 : rows = rows'
  · by_cases h2 : rule = rule'
    · by_cases h3 : entry = entry' <;> simp [h1, h2, h3]
    · simp [h1, h2]
  · simp [h1]
theorem codeCopy_spec {N : Nat} {rows : List (List Int)} {rule entry : List Int} (hs : Sz rows rule entry) : F_subset_Copy N rows rule entry = some (rows, rule, entry) := by
  have ha := hs.a
  have hb := hs.b
  have hc := hs.c
  unfold F_subset_Copy F_clone_97 F_clone_73
  rw [app_eq (by simp; omega), app_eq (by simp; omega), app_eq (by simp; omega)]
  simp
theorem copies_l0 {N : Nat} {rows : List (List Int)} (hN : 4294967296 ≤ N) (ha : rows.length < 4294967296) (hw : ∀ r ∈ rows, r.length = 256) : ∃ r, iterO N (fun s => F_dofferlaw17_SubsetCopies_l0 N rows s.1 s.2) (0, rows) = some r := by
  obtain ⟨s, h, _⟩ := loop_inv (f := fun s => F_dofferlaw17_SubsetCopies_l0 N rows s.1 s.2) (fun i (s : List (List Int)) => ((i : Int), s)) id rows (fun _ s => s.length = rows.length ∧ ∀ r ∈ s, r.length = 256) (N := N) (s := rows) (by omega) ⟨rfl, hw⟩
    (fun i x s hx hI => by
      have hi := lt_len hx
      have his : i < s.length := by omega
      have h5 := hI.2 _ (List.getElem_mem his)
      have h6 : idx s[i] 5 = some (s[i][5]'(by omega)) := idx_nat (i := 5) (by omega)
      refine ⟨s.set i (s[i].set 5 (w64 (s[i][5]'(by omega) + 1))), ?_, by simpa using hI.1, fun r hr => ?_⟩
      · unfold F_dofferlaw17_SubsetCopies_l0
        have h7 : setI s[i] 5 (w64 (s[i][5]'(by omega) + 1)) = some (s[i].set 5 (w64 (s[i][5]'(by omega) + 1))) := setI_nat (i := 5) (by omega)
        simp only [show ((i : Int) < (rows.length : Int)) by omega, decide_true, if_true, idx_nat his, h6, h7, setI_nat his, bind, Option.bind_some]
        rw [w64_succ (by omega)]
      · rcases List.mem_or_eq_of_mem_set hr with hr | rfl
        · exact hI.2 r hr
        · simpa using h5) (fun s _ => by unfold F_dofferlaw17_SubsetCopies_l0; simp)
  exact ⟨_, h⟩
theorem copies_l1 {N : Nat} {rule : List Int} (hN : 4294967296 ≤ N) (ha : rule.length < 4294967296) : iterO N (fun s => F_dofferlaw17_SubsetCopies_l1 N rule s.1 s.2) (0, rule) = some () := by
  obtain ⟨s, h, _⟩ := loop_inv (f := fun s => F_dofferlaw17_SubsetCopies_l1 N rule s.1 s.2) (fun i (s : List Int) => ((i : Int), s)) (fun _ => ()) rule (fun _ s => s.length = rule.length) (N := N) (s := rule) (by omega) rfl
    (fun i x s hx hI => by
      have hi := lt_len hx
      have his : i < s.length := by omega
      refine ⟨s.set i (w64 (s[i] - 1)), ?_, by simpa using hI⟩
      unfold F_dofferlaw17_SubsetCopies_l1
      simp only [show ((i : Int) < (rule.length : Int)) by omega, decide_true, if_true, idx_nat his, setI_nat his, bind, Option.bind_some]
      rw [w64_succ (by omega)]) (fun s _ => by unfold F_dofferlaw17_SubsetCopies_l1; simp)
  exact h
/-- the copy, of any size -/
theorem of_any {N : Nat} {rows : List (List Int)} {rule entry : List Int} {m : Int} (hN : 4294967296 ≤ N) (hm : m < 4294967296) (hw : ∀ r ∈ rows, r.length = 256) :
    F_dofferlaw17_Of N rows rule entry m = some (if (rows.length : Int) > m ∨ (rule.length : Int) > m ∨ (entry.length : Int) > 20 then ([], false) else (rows, true)) := by
  by_cases h : (rows.length : Int) > m ∨ (rule.length : Int) > m ∨ (entry.length : Int) > 20
  · rw [if_pos h]
    unfold F_dofferlaw17_Of
    by_cases a1 : (rows.length : Int) > m
    · simp [a1]
    by_cases a2 : (rule.length : Int) > m
    · simp [a1, a2]
    by_cases a3 : (entry.length : Int) > 20
    · simp [a1, a2, a3]
    · exact absurd h (by simp [a1, a2, a3])
  · exact of_spec hN ⟨hw, by omega, by omega, by omega⟩
theorem subsetCopies_true {rows rows' : List (List Int)} {rule entry rule' entry' : List Int} (hw : ∀ r ∈ rows, r.length = 256) (hw' : ∀ r ∈ rows', r.length = 256) : ∃ N, F_dofferlaw17_SubsetCopies N rows rule entry rows' rule' entry' = some true := by
  refine ⟨4294967296, ?_⟩
  generalize hM : (4294967296 : Nat) = N
  have hN : 4294967296 ≤ N := by omega
  unfold F_dofferlaw17_SubsetCopies
  rw [of_any hN (by omega) hw, of_any hN (by omega) hw']
  simp only [bind, Option.bind_some]
  by_cases h1 : (rows.length : Int) > 20 ∨ (rule.length : Int) > 20 ∨ (entry.length : Int) > 20
  · simp [h1]
  by_cases h2 : (rows'.length : Int) > 20 ∨ (rule'.length : Int) > 20 ∨ (entry'.length : Int) > 20
  · simp [h1, h2]
  have hs : Sz rows rule entry := ⟨hw, by omega, by omega, by omega⟩
  obtain ⟨r, hr⟩ := copies_l0 hN hs.a hs.w
  simp only [if_neg h1, if_neg h2, Bool.not_true, Bool.false_eq_true, if_false, Option.bind_some, codeCopy_spec hs, codeSame_spec hN hs, same_spec hN hs, hr, copies_l1 hN hs.b]
  simp
end Go.Proofs.YtealkahefalaeaaGreatDoor
