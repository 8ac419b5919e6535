/-
  PLAIN LEAN, no program in sight: what the pure functions answer.
-/
import Derived.Test.YtchjfkdljnmmgaaGreatDoorNfaRightD1
import Derived.Test.YtchjfkdljnmmgaaGreatDoorProg
namespace Go.Eng
open Go
theorem iterO_for {σ τ : Type} {f : σ → Option (σ ⊕ τ)} {r : τ} (st : Nat → σ) : ∀ (n : Nat) {N k : Nat}, n < N → (∀ i, k ≤ i → i < k + n → f (st i) = some (.inl (st (i + 1)))) → f (st (k + n)) = some (.inr r) → iterO N f (st k) = some r
  | 0, 0, _, h, _, _ => absurd h (Nat.not_lt_zero _)
  | 0, N + 1, k, _, _, he => by simp only [iterO]; rw [show f (st k) = _ from he]
  | n + 1, 0, _, h, _, _ => absurd h (Nat.not_lt_zero _)
  | n + 1, N + 1, k, h, hs, he => by
    simp only [iterO]
    rw [hs k (Nat.le_refl _) (by omega)]
    exact iterO_for st n (by omega) (fun i h1 h2 => hs i (by omega) (by omega)) (by rw [show k + 1 + n = k + (n + 1) by omega]; exact he)
theorem iterO_for0 {σ τ : Type} {f : σ → Option (σ ⊕ τ)} {r : τ} {s : σ} (st : Nat → σ) (n : Nat) {N : Nat} (h0 : st 0 = s) (hN : n < N) (hs : ∀ i, i < n → f (st i) = some (.inl (st (i + 1)))) (he : f (st n) = some (.inr r)) : iterO N f s = some r := by
  subst h0
  exact iterO_for st n hN (fun i _ h => hs i (by omega)) (by rw [Nat.zero_add]; exact he)
theorem iterO_while {σ τ : Type} {f : σ → Option (σ ⊕ τ)} (I : σ → Prop) (μ : σ → Nat) (Q : τ → Prop) (step : ∀ s, I s → (∃ s', f s = some (.inl s') ∧ I s' ∧ μ s' < μ s) ∨ ∃ r, f s = some (.inr r) ∧ Q r) :
    ∀ {N : Nat} {s : σ}, I s → μ s < N → ∃ r, iterO N f s = some r ∧ Q r
  | 0, _, _, h => absurd h (Nat.not_lt_zero _)
  | N + 1, s, hI, h => by
    rcases step s hI with ⟨s', h1, h2, h3⟩ | ⟨r, h1, h2⟩
    · obtain ⟨r, h4, h5⟩ := iterO_while I μ Q step (N := N) h2 (by omega)
      exact ⟨r, by simp only [iterO, h1]; exact h4, h5⟩
    · exact ⟨r, by simp only [iterO, h1], h2⟩
theorem wrap64 {x : Int} (h1 : -9223372036854775808 ≤ x) (h2 : x ≤ 9223372036854775807) : IntKind.wrap .i64 x = x := by
  simp only [IntKind.wrap, IntKind.signed, IntKind.bits]
  simp
  omega
theorem w64_succ {n : Nat} (h : n < 9223372036854775807) : w64 ((n : Int) + 1) = ((n + 1 : Nat) : Int) := by
  rw [w64, wrap64] <;> omega
theorem idx_nat {α : Type} {xs : List α} {i : Nat} (h : i < xs.length) : idx xs (i : Int) = some xs[i] := by simp [idx, h]
theorem idx_of {α : Type} {xs : List α} {i : Nat} {x : α} (h : xs[i]? = some x) : idx xs (i : Int) = some x := by simp [idx, h]
theorem setI_nat {α : Type} {xs : List α} {i : Nat} {x : α} (h : i < xs.length) : setI xs (i : Int) x = some (xs.set i x) := by simp [setI, h]
theorem app_eq {α : Type} {xs ys : List α} (h : xs.length + ys.length ≤ 4294967296) : app xs ys = some (xs ++ ys) := by simp [app, h]
/-- a loop over xs that leaves with g at the first element that p fits -/
theorem loop_find {α τ : Type} {f : Int → Option (Int ⊕ (Unit ⊕ τ))} (xs : List α) (p : α → Bool) (g : Nat → τ) {N : Nat} (hN : xs.length < N)
    (hb : ∀ (i : Nat) (x : α), xs[i]? = some x → f (i : Int) = if p x then some (.inr (.inr (g i))) else some (.inl ((i + 1 : Nat) : Int))) (he : f (xs.length : Int) = some (.inr (.inl ()))) :
    iterO N f 0 = some (match xs.findIdx? p with | some i => .inr (g i) | none => .inl ()) := by
  cases h : xs.findIdx? p with
  | none =>
    have h' := List.findIdx?_eq_none_iff.1 h
    refine iterO_for0 (fun i => (i : Int)) xs.length rfl hN (fun i hi => ?_) he
    rw [hb i xs[i] (List.getElem?_eq_getElem hi), h' _ (List.getElem_mem hi)]
    simp
  | some k =>
    obtain ⟨hk, hp, hlt⟩ := List.findIdx?_eq_some_iff_getElem.1 h
    refine iterO_for0 (fun i => (i : Int)) k rfl (by omega) (fun i hi => ?_) ?_
    · rw [hb i _ (List.getElem?_eq_getElem (by omega))]
      have := hlt i hi
      simp [this]
    · rw [hb k _ (List.getElem?_eq_getElem hk)]
      simp [hp]
/-- .. that leaves with b -/
theorem loop_any {α τ : Type} {f : Int → Option (Int ⊕ (Unit ⊕ τ))} (xs : List α) (p : α → Bool) (b : τ) {N : Nat} (hN : xs.length < N)
    (hb : ∀ (i : Nat) (x : α), xs[i]? = some x → f (i : Int) = if p x then some (.inr (.inr b)) else some (.inl ((i + 1 : Nat) : Int))) (he : f (xs.length : Int) = some (.inr (.inl ()))) :
    iterO N f 0 = some (if xs.any p then .inr b else .inl ()) := by
  rw [loop_find xs p (fun _ => b) hN hb he]
  cases h : xs.findIdx? p with
  | none =>
    have h' := List.findIdx?_eq_none_iff.1 h
    have : xs.any p = false := by rw [List.any_eq_false]; intro x hx; rw [h' x hx]; simp
    simp [this]
  | some k =>
    obtain ⟨hk, hp, hlt⟩ := List.findIdx?_eq_some_iff_getElem.1 h
    have : xs.any p = true := List.any_eq_true.2 ⟨_, List.getElem_mem hk, hp⟩
    simp [this]
/-- a loop over xs, by an invariant -/
theorem loop_inv {α σ τ ι : Type} {f : ι → Option (ι ⊕ τ)} (st : Nat → σ → ι) (out : σ → τ) (xs : List α) (I : Nat → σ → Prop) {N : Nat} {s : σ} (hN : xs.length < N)
    (hI : I 0 s) (hb : ∀ (i : Nat) (x : α) (s : σ), xs[i]? = some x → I i s → ∃ s', f (st i s) = some (.inl (st (i + 1) s')) ∧ I (i + 1) s') (he : ∀ s, I xs.length s → f (st xs.length s) = some (.inr (out s))) :
    ∃ s', iterO N f (st 0 s) = some (out s') ∧ I xs.length s' := by
  have key : ∀ (k i : Nat) (s : σ) (M : Nat), i + k = xs.length → k < M → I i s → ∃ s', iterO M f (st i s) = some (out s') ∧ I xs.length s' := by
    intro k
    induction k with
    | zero =>
      intro i s M hi hM h
      obtain ⟨M, rfl⟩ : ∃ m, M = m + 1 := ⟨M - 1, by omega⟩
      obtain rfl : i = xs.length := by omega
      exact ⟨s, by simp only [iterO]; rw [he s h], h⟩
    | succ k ih =>
      intro i s M hi hM h
      obtain ⟨M, rfl⟩ : ∃ m, M = m + 1 := ⟨M - 1, by omega⟩
      obtain ⟨s', h1, h2⟩ := hb i _ s (List.getElem?_eq_getElem (by omega)) h
      obtain ⟨s'', h3, h4⟩ := ih (i + 1) s' M (by omega) (by omega) h2
      exact ⟨s'', by simp only [iterO]; rw [h1]; exact h3, h4⟩
  exact key xs.length 0 s N (by omega) hN hI
end Go.Eng
namespace Go.Proofs.YtchjfkdljnmmgaaGreatDoor.Co
open Go Go.Eng
set_option maxRecDepth 100000
theorem ty3 : Ty Tryz.prog 3 1 8 (.int .i64 0) false := ⟨by kernel_rfl, by kernel_rfl⟩
theorem ty22 : Ty Tryz.prog 22 1 24 (.slice none 0 0) false := ⟨by kernel_rfl, by kernel_rfl⟩
theorem ty23 : Ty Tryz.prog 23 1 24 (.slice none 0 0) false := ⟨by kernel_rfl, by kernel_rfl⟩
theorem ty25 : Ty Tryz.prog 25 2 48 (.agg ([.slice none 0 0, .slice none 0 0]).toArray) true := ⟨by kernel_rfl, by kernel_rfl⟩
theorem st25 : ∃ fs, St Tryz.prog 25 fs [(0, 1), (1, 1)] [.slice none 0 0, .slice none 0 0] := ⟨_, Tryz.underlying25, by kernel_rfl, _, _, _, _, ty25, rfl⟩
theorem ty58 : Ty Tryz.prog 58 7 72 (.agg ([.slice none 0 0, .int .u64 0, .int .u64 0, .int .u64 0, .int .u64 0, .int .i64 0, .int .i64 0]).toArray) true := ⟨by kernel_rfl, by kernel_rfl⟩
theorem hm0 : Tryz.prog.follows .mixedOrders = true := by kernel_rfl
theorem fn43 : HasFn Tryz.prog 43 := ⟨_, _, Tryz.func43, by kernel_rfl, rfl⟩
theorem fn44 : HasFn Tryz.prog 44 := ⟨_, _, Tryz.func44, by kernel_rfl, rfl⟩
def cpL (n : Nat) (s : Int) : Option (Int ⊕ Unit) := if s < (n : Int) then some (.inl (w64 (s + 1))) else some (.inr ())
theorem cpL_all (n : Nat) (hn : n < 9223372036854775807) : iterO (n + 1) (cpL n) 0 = some () :=
  iterO_for0 (fun i : Nat => (i : Int)) n rfl (by omega) (fun i hi => by unfold cpL; rw [if_pos (by omega), w64_succ (by omega)]) (by unfold cpL; rw [if_neg (by omega)])
def F_clone_43 (_N : Nat) (x : (List ((List Int) × (Int × Int × Int × Int) × Int × Int))) : Option (List ((List Int) × (Int × Int × Int × Int) × Int × Int)) := app [] x
theorem c_43 {N : Nat} {C : Cx} {w : World} {ρ : View} {hs : List Hl} {v : Value} {x : (List ((List Int) × (Int × Int × Int × Int) × Int × Int))} (H : Hp C w ρ (hs)) (r3 : RdSl ρ (eP (eL (eI .i64)) (eP (eP (eI .u64) (eP (eI .u64) (eP (eI .u64) (eI .u64)))) (eP (eI .i64) (eI .i64)))) v x) {r : (List ((List Int) × (Int × Int × Int × Int) × Int × Int))} (hF : F_clone_43 N x = some r) :
    Calls Tryz.prog 43 [v].toArray w (Rets (fun v w' => (∃ (v1 : Value) (c1 : List Value) (x1 : (List ((List Int) × (Int × Int × Int × Int) × Int × Int))), x1 = r ∧ v1 = v ∧ rdL (eP (eL (eI .i64)) (eP (eP (eI .u64) (eP (eI .u64) (eP (eI .u64) (eI .u64)))) (eP (eI .i64) (eI .i64)))) ρ x1 c1 ∧ Hp C w' ρ (Arr v1 7 c1 :: hs)))) := by
  unfold F_clone_43 at hF
  refine fn_calls' (args := [v]) Tryz.func43 rfl (n := 8) rfl (by simp) ?_
  refine C_seq ?_
  refine R_nd ?_
  refine nq (v := .slice none 0 0) (Q_assign rfl) rfl rfl ?_
  refine WL_nil ?_
  refine x_then ?_
  refine C_seq ?_
  refine C_seq ?_
  refine R_nd ?_
  refine nq (v := v) (Q_move rfl) rfl rfl ?_
  obtain ⟨o, c, news, rfl, hn, hs3⟩ : ∃ o c news, v = .slice o x.length c ∧ rdL (eP (eL (eI .i64)) (eP (eP (eI .u64) (eP (eI .u64) (eP (eI .u64) (eI .u64)))) (eP (eI .i64) (eI .i64)))) ρ x news ∧ (o = none → x = []) ∧ ∀ h', View.le ρ h' → Eng.Src h' v 7 news := by
    rcases r3 with ⟨ad, cap, rfl, rfl⟩ | ⟨b, o, cap, cs, rfl, _, h2, h3⟩
    · exact ⟨ad, cap, [], rfl, rdL.nil, fun _ => rfl, fun _ _ => .inl ⟨ad, cap, rfl, rfl⟩⟩
    · exact ⟨_, cap, cs, rfl, h2, fun h => (nomatch h), fun _ hl => .inr ⟨b, o, _, cap, rfl, h2.len, h3.up hl⟩⟩
  obtain ⟨hs3, hs4⟩ := hs3
  cases o with
  | none =>
    obtain rfl := hs3 rfl
    refine nq (v := .bool true) (Q_eqlS (o := none) Tryz.underlying22 rfl) rfl rfl ?_
    refine WL_nil ?_
    refine x_then ?_
    refine C_cond rfl (fun _ => ?_) (fun h => nomatch h)
    refine C_seq ?_
    refine R_nd ?_
    refine nq (v := .slice none 0 0) (Q_assign rfl) rfl rfl ?_
    refine WL_nil ?_
    refine x_then ?_
    refine C_ret ?_
    refine x_then_ret ?_
    obtain ⟨_, rfl⟩ := app_some hF
    exact fn_ret (l := [.tmp 2]) (vs := [.slice none 0 0]) rfl rfl rfl ⟨_, [], _, rfl, rfl, rdL.nil, H.nilArr 7⟩
  | some a =>
    refine nq (v := .bool false) (Q_eqlS (o := some a) Tryz.underlying22 rfl) rfl rfl ?_
    refine WL_nil ?_
    refine x_then ?_
    refine C_cond rfl (fun h => nomatch h) (fun _ => ?_)
    refine C_skip ?_
    refine x_then ?_
    obtain ⟨ha, rfl⟩ := app_some hF
    refine C_seq ?_
    refine R_nd ?_
    refine ne (E_bslice0 H Tryz.underlying22 ty58) rfl rfl ?_
    rintro _ w1 ⟨b1, rfl, H1⟩
    refine nq (Q_move rfl) rfl rfl ?_
    have hs5 := hs4 _ H1.view
    refine ne (E_append (k := 0) (cs := []) (news := news) H1 rfl Tryz.underlying22 ty58 rfl (by decide) (by decide) rfl rfl hs5 (rdL.one hn) (app_fit rdL.nil hn ha)) rfl rfl ?_
    rintro v2 w2 ⟨H2, _⟩
    refine nq (v := v2) (Q_assign rfl) rfl rfl ?_
    refine WL_nil ?_
    refine x_then ?_
    refine C_ret ?_
    exact fn_ret (l := [.tmp 2]) (vs := [v2]) rfl rfl rfl ⟨v2, _, _, rfl, rfl, rdL.app rdL.nil hn, H2⟩
def F_clone_44 (_N : Nat) (x : (List Int)) : Option (List Int) := app [] x
theorem c_44 {N : Nat} {C : Cx} {w : World} {ρ : View} {hs : List Hl} {v : Value} {x : (List Int)} (H : Hp C w ρ (hs)) (r3 : RdSl ρ (eI .i64) v x) {r : (List Int)} (hF : F_clone_44 N x = some r) :
    Calls Tryz.prog 44 [v].toArray w (Rets (fun v w' => (∃ (v1 : Value) (c1 : List Value) (x1 : (List Int)), x1 = r ∧ v1 = v ∧ rdL (eI .i64) ρ x1 c1 ∧ Hp C w' ρ (Arr v1 1 c1 :: hs)))) := by
  unfold F_clone_44 at hF
  refine fn_calls' (args := [v]) Tryz.func44 rfl (n := 8) rfl (by simp) ?_
  refine C_seq ?_
  refine R_nd ?_
  refine nq (v := .slice none 0 0) (Q_assign rfl) rfl rfl ?_
  refine WL_nil ?_
  refine x_then ?_
  refine C_seq ?_
  refine C_seq ?_
  refine R_nd ?_
  refine nq (v := v) (Q_move rfl) rfl rfl ?_
  obtain ⟨o, c, news, rfl, hn, hs3⟩ : ∃ o c news, v = .slice o x.length c ∧ rdL (eI .i64) ρ x news ∧ (o = none → x = []) ∧ ∀ h', View.le ρ h' → Eng.Src h' v 1 news := by
    rcases r3 with ⟨ad, cap, rfl, rfl⟩ | ⟨b, o, cap, cs, rfl, _, h2, h3⟩
    · exact ⟨ad, cap, [], rfl, rdL.nil, fun _ => rfl, fun _ _ => .inl ⟨ad, cap, rfl, rfl⟩⟩
    · exact ⟨_, cap, cs, rfl, h2, fun h => (nomatch h), fun _ hl => .inr ⟨b, o, _, cap, rfl, h2.len, h3.up hl⟩⟩
  obtain ⟨hs3, hs4⟩ := hs3
  cases o with
  | none =>
    obtain rfl := hs3 rfl
    refine nq (v := .bool true) (Q_eqlS (o := none) Tryz.underlying23 rfl) rfl rfl ?_
    refine WL_nil ?_
    refine x_then ?_
    refine C_cond rfl (fun _ => ?_) (fun h => nomatch h)
    refine C_seq ?_
    refine R_nd ?_
    refine nq (v := .slice none 0 0) (Q_assign rfl) rfl rfl ?_
    refine WL_nil ?_
    refine x_then ?_
    refine C_ret ?_
    refine x_then_ret ?_
    obtain ⟨_, rfl⟩ := app_some hF
    exact fn_ret (l := [.tmp 2]) (vs := [.slice none 0 0]) rfl rfl rfl ⟨_, [], _, rfl, rfl, rdL.nil, H.nilArr 1⟩
  | some a =>
    refine nq (v := .bool false) (Q_eqlS (o := some a) Tryz.underlying23 rfl) rfl rfl ?_
    refine WL_nil ?_
    refine x_then ?_
    refine C_cond rfl (fun h => nomatch h) (fun _ => ?_)
    refine C_skip ?_
    refine x_then ?_
    obtain ⟨ha, rfl⟩ := app_some hF
    refine C_seq ?_
    refine R_nd ?_
    refine ne (E_bslice0 H Tryz.underlying23 ty3) rfl rfl ?_
    rintro _ w1 ⟨b1, rfl, H1⟩
    refine nq (Q_move rfl) rfl rfl ?_
    have hs5 := hs4 _ H1.view
    refine ne (E_append (k := 0) (cs := []) (news := news) H1 rfl Tryz.underlying23 ty3 rfl (by decide) (by decide) rfl rfl hs5 (rdL.one hn) (app_fit rdL.nil hn ha)) rfl rfl ?_
    rintro v2 w2 ⟨H2, _⟩
    refine nq (v := v2) (Q_assign rfl) rfl rfl ?_
    refine WL_nil ?_
    refine x_then ?_
    refine C_ret ?_
    exact fn_ret (l := [.tmp 2]) (vs := [v2]) rfl rfl rfl ⟨v2, _, _, rfl, rfl, rdL.app rdL.nil hn, H2⟩
theorem clone_ok {N : Nat} {x : List Int} (h : x.length ≤ 4294967296) : F_clone_44 N x = some x := by
  unfold F_clone_44 app
  rw [if_pos (by simpa using h)]
  rfl
theorem c_copy {N : Nat} {C : Cx} {w : World} {ρ : View} {hs : List Hl} {v1 v4 : Value} {x2 : (List ((List Int) × (Int × Int × Int × Int) × Int × Int))} {x5 : List Int} {q : Unit} (H : Hp C w ρ (hs)) (r3 : RdSl ρ (eP (eL (eI .i64)) (eP (eP (eI .u64) (eP (eI .u64) (eP (eI .u64) (eI .u64)))) (eP (eI .i64) (eI .i64)))) v1 x2) (r6 : RdSl ρ (eI .i64) v4 x5) (hF : F_nfa_Copy N x2 x5 = some q) :
    Calls Tryz.prog 16 [.agg #[v1, v4]].toArray w (Rets (fun v w' => (∃ (v1 : Value) (us : List Value) (v2 : Value) (c2 : List Value), .agg #[v1, v2] = v ∧ rdL (eI .i64) ρ x5 c2 ∧ Hp C w' ρ (NS (eI .i64) (eP (eP (eI .u64) (eP (eI .u64) (eP (eI .u64) (eI .u64)))) (eP (eI .i64) (eI .i64))) v1 us x2 :: Arr v2 1 c2 :: hs)))) := by
  have hle : x2.length ≤ 4294967296 ∧ x5.length ≤ 4294967296 ∧ ∀ s ∈ x2, s.1.length ≤ 4294967296 := by
    unfold F_nfa_Copy at hF
    split at hF
    · assumption
    · cases hF
  have h72 : F_clone_43 N x2 = some x2 := by
    unfold F_clone_43 app
    rw [if_pos (by simpa using hle.1)]
    rfl
  have h73 : F_clone_44 N x5 = some x5 := clone_ok hle.2.1
  have h0 : Tryz.f16.body = some _ := rfl
  refine fn_calls' Tryz.func16 h0 (n := 31) rfl (by simp) <| C_seq <| R_nd <| ne (E_box H (vs := [v1, v4]) rfl rfl) rfl rfl ?_
  rintro _ wd574 ⟨b573, rfl, H⟩
  refine ne (E_alloc H ty25 (zs := [.slice none 0 0, .slice none 0 0]) rfl) rfl rfl ?_
  rintro _ wd576 ⟨b575, rfl, H⟩
  refine WL_nil <| x_then ?_
  refine C_cut (fun a w' => ∃ (b621 : Nat) (v622 : Value) (c623 : (List Value)) (v626 : Value) (c627 : (List Value)), rdL (eP (eL (eI .i64)) (eP (eP (eI .u64) (eP (eI .u64) (eP (eI .u64) (eI .u64)))) (eP (eI .i64) (eI .i64)))) ρ x2 c623 ∧ rdL (eI .i64) ρ x5 c627 ∧ Fr 31 a [(2, .pointer (some ⟨b575, 0, none⟩)), (3, .pointer (some ⟨b621, 0, none⟩))] ∧ Hp C w' ρ (Box b575 [.slice none 0 0, .slice none 0 0] :: Box b621 [v622, v626] :: Arr v622 7 c623 :: Arr v626 1 c627 :: hs)) ?_ ?_
  · refine R_dr (.take 0 (.take 1 (.take 3 (.take 4 (.two 2 7 (.two 5 7 (.take 6 (.one 7 (.bar 8 none .done))) (.one 5 (.take 6 (.bar 8 none .done)))) (.one 2 (.one 5 (.take 6 (.bar 8 none .done))))))))) (some 8) (S := fun w' => Ok w' ρ [Box b575 [.slice none 0 0, .slice none 0 0], Box b573 [v1, v4]]) hm0 (by kernel_rfl) (H.drew.okS (by simp)) ?_
    replace H := H.drew
    refine dq (v := .pointer (some ⟨b573, 0, none⟩)) rfl (fun _ _ => Q_fld Tryz.underlying25 rfl ty22 (by decide) rfl rfl) rfl rfl <| dq (v := v1) rfl (fun _ hw => Q_ldB (k := 1) (cs := [v1]) hw rfl ty22 rfl rfl rfl (fun _ => rfl) rfl) rfl rfl <| dq (v := .pointer (some ⟨b573, 1, none⟩)) rfl (fun _ _ => Q_fld Tryz.underlying25 rfl ty23 (by decide) rfl rfl) rfl rfl <| dq (v := v4) rfl (fun _ hw => Q_ldB (k := 1) (cs := [v4]) hw rfl ty23 rfl rfl rfl (fun _ => rfl) rfl) rfl rfl ?_
    refine d2 ?_ ?_
    · refine de rfl (E_call fn43 rfl (c_43 H r3 h72)) rfl rfl ?_
      rintro _ wd637 ⟨v633, c634, x635, e635, rfl, r636, H⟩
      rw [e635] at r636
      refine ⟨H.okS (by simp), ?_⟩
      refine d2 ?_ ?_
      · refine de rfl (E_call fn44 rfl (c_44 H r6 h73)) rfl rfl ?_
        rintro _ wd644 ⟨v640, c641, x642, e642, rfl, r643, H⟩
        rw [e642] at r643
        refine ⟨H.okS (by simp), ?_⟩
        refine dq (v := .agg #[v633, v640]) rfl (fun _ _ => Q_buildS st25.choose_spec (ps := [(0, [v633]), (1, [v640])]) rfl ⟨rfl, (arr_cells (H.ok.get (k := 1) rfl)).1, by simp, ⟨rfl, (arr_cells (H.ok.get (k := 0) rfl)).1, by simp, trivial⟩⟩ rfl) rfl rfl ?_
        refine d1 (de rfl (E_alloc H ty25 (zs := [.slice none 0 0, .slice none 0 0]) rfl) rfl rfl ?_)
        rintro _ wd646 ⟨b645, rfl, H⟩
        refine ⟨H.okS (by simp), ?_⟩
        refine db rfl (E_stB (k := 0) (cs := [v633, v640]) (vs' := [v633, v640]) H rfl ty25 rfl rfl rfl rfl (one_cons (arr_cells (H.ok.get (k := 2) rfl)).2 (one_cons (arr_cells (H.ok.get (k := 1) rfl)).2 one_nil)) (by simp) rfl) rfl rfl ?_
        rintro _ wd647 H
        dsimp only [List.set] at H
        refine H.okF <| DL_nil ?_
        replace H := H.drop 4 rfl
        dsimp only [List.eraseIdx] at H
        replace H := H.front 2 rfl
        dsimp only [List.eraseIdx] at H
        replace H := H.front 1 rfl
        dsimp only [List.eraseIdx] at H
        replace H := H.front 3 rfl
        dsimp only [List.eraseIdx] at H
        refine x_A fun a hf => ⟨b645, v633, c634, v640, c641, r636, r643, hf.sub ⟨rfl, rfl, trivial⟩, H⟩
      · refine de rfl (E_alloc H ty25 (zs := [.slice none 0 0, .slice none 0 0]) rfl) rfl rfl ?_
        rintro _ wd649 ⟨b648, rfl, H⟩
        refine ⟨H.okS (by simp), ?_⟩
        refine d1 (de rfl (E_call fn44 rfl (c_44 H r6 h73)) rfl rfl ?_)
        rintro _ wd656 ⟨v652, c653, x654, e654, rfl, r655, H⟩
        rw [e654] at r655
        refine ⟨H.okS (by simp), ?_⟩
        refine dq (v := .agg #[v633, v652]) rfl (fun _ _ => Q_buildS st25.choose_spec (ps := [(0, [v633]), (1, [v652])]) rfl ⟨rfl, (arr_cells (H.ok.get (k := 2) rfl)).1, by simp, ⟨rfl, (arr_cells (H.ok.get (k := 0) rfl)).1, by simp, trivial⟩⟩ rfl) rfl rfl <| db rfl (E_stB (k := 1) (cs := [v633, v652]) (vs' := [v633, v652]) H rfl ty25 rfl rfl rfl rfl (one_cons (arr_cells (H.ok.get (k := 2) rfl)).2 (one_cons (arr_cells (H.ok.get (k := 0) rfl)).2 one_nil)) (by simp) rfl) rfl rfl ?_
        rintro _ wd657 H
        dsimp only [List.set] at H
        refine H.okF <| DL_nil ?_
        replace H := H.drop 4 rfl
        dsimp only [List.eraseIdx] at H
        replace H := H.front 2 rfl
        dsimp only [List.eraseIdx] at H
        replace H := H.front 2 rfl
        dsimp only [List.eraseIdx] at H
        replace H := H.front 3 rfl
        dsimp only [List.eraseIdx] at H
        refine x_A fun a hf => ⟨b648, v633, c634, v652, c653, r636, r655, hf.sub ⟨rfl, rfl, trivial⟩, H⟩
    · refine de rfl (E_alloc H ty25 (zs := [.slice none 0 0, .slice none 0 0]) rfl) rfl rfl ?_
      rintro _ wd659 ⟨b658, rfl, H⟩
      refine ⟨H.okS (by simp), ?_⟩
      refine d1 (de rfl (E_call fn43 rfl (c_43 H r3 h72)) rfl rfl ?_)
      rintro _ wd666 ⟨v662, c663, x664, e664, rfl, r665, H⟩
      rw [e664] at r665
      refine ⟨H.okS (by simp), ?_⟩
      refine d1 (de rfl (E_call fn44 rfl (c_44 H r6 h73)) rfl rfl ?_)
      rintro _ wd673 ⟨v669, c670, x671, e671, rfl, r672, H⟩
      rw [e671] at r672
      refine ⟨H.okS (by simp), ?_⟩
      refine dq (v := .agg #[v662, v669]) rfl (fun _ _ => Q_buildS st25.choose_spec (ps := [(0, [v662]), (1, [v669])]) rfl ⟨rfl, (arr_cells (H.ok.get (k := 1) rfl)).1, by simp, ⟨rfl, (arr_cells (H.ok.get (k := 0) rfl)).1, by simp, trivial⟩⟩ rfl) rfl rfl <| db rfl (E_stB (k := 2) (cs := [v662, v669]) (vs' := [v662, v669]) H rfl ty25 rfl rfl rfl rfl (one_cons (arr_cells (H.ok.get (k := 1) rfl)).2 (one_cons (arr_cells (H.ok.get (k := 0) rfl)).2 one_nil)) (by simp) rfl) rfl rfl ?_
      rintro _ wd674 H
      dsimp only [List.set] at H
      refine H.okF <| DL_nil ?_
      replace H := H.drop 4 rfl
      dsimp only [List.eraseIdx] at H
      replace H := H.front 1 rfl
      dsimp only [List.eraseIdx] at H
      replace H := H.front 2 rfl
      dsimp only [List.eraseIdx] at H
      replace H := H.front 3 rfl
      dsimp only [List.eraseIdx] at H
      refine x_A fun a hf => ⟨b658, v662, c663, v669, c670, r665, r672, hf.sub ⟨rfl, rfl, trivial⟩, H⟩
  · rintro a wd675 ⟨b621, v622, c623, v626, c627, r625, r629, hf, H⟩
    refine CW.at hf <| C_seq <| C_seq <| R_nd <| nq (v := .pointer (some ⟨b621, 0, none⟩)) (Q_fld Tryz.underlying25 rfl ty22 (by decide) rfl rfl) rfl rfl <| nq (v := v622) (Q_ldB (k := 1) (cs := [v622]) H.ok rfl ty22 rfl rfl rfl (fun _ => rfl) rfl) rfl rfl <| nq (Q_lenA (k := 2) H.ok rfl r625 (by decide) Tryz.underlying22 rfl) rfl rfl <| nq (Q_move rfl) rfl rfl <| WL_nil <| x_then ?_
    refine C_cutQ (fun a w' => ∃ us, Fr 31 a [(2, .pointer (some ⟨b575, 0, none⟩)), (3, .pointer (some ⟨b621, 0, none⟩))] ∧ Hp C w' ρ (NS (eI .i64) (eP (eP (eI .u64) (eP (eI .u64) (eP (eI .u64) (eI .u64)))) (eP (eI .i64) (eI .i64))) v622 us x2 :: Box b575 [.slice none 0 0, .slice none 0 0] :: Box b621 [v622, v626] :: Arr v626 1 c627 :: hs)) ?_ ?_
    · refine C_block ?_
      replace H := H.front 2 rfl
      dsimp only [List.eraseIdx] at H
      obtain ⟨vs0, H, htl0⟩ := Hp.tstart (r := (eP (eP (eI .u64) (eP (eI .u64) (eP (eI .u64) (eI .u64)))) (eP (eI .i64) (eI .i64)))) (flat_P (flat_P (flat_I _) (flat_P (flat_I _) (flat_P (flat_I _) (flat_I _)))) (flat_P (flat_I _) (flat_I _))) H r625
      have hcnt : iterO (x2.length + 1) (cpL x2.length) 0 = some () := cpL_all x2.length (by omega)
      refine C_iter (f := cpL x2.length) hcnt (fun s a w' => ∃ (k : Nat) (vs cs : List Value), (k : Int) = s ∧ k ≤ x2.length ∧ Tl ρ (eI .i64) vs x2 k ∧ Fr 31 a [(2, .pointer (some ⟨b575, 0, none⟩)), (3, .pointer (some ⟨b621, 0, none⟩)), (14, v622), (15, .int .i64 (x2.length : Int)), (16, .int .i64 (k : Int))] ∧ Hp C w' ρ (NT (eI .i64) (eP (eP (eI .u64) (eP (eI .u64) (eP (eI .u64) (eI .u64)))) (eP (eI .i64) (eI .i64))) v622 vs cs x2 k :: Box b575 [.slice none 0 0, .slice none 0 0] :: Box b621 [v622, v626] :: Arr v626 1 c627 :: hs)) ?_ ?_
      · exact fun a hf => ⟨0, vs0, c623, rfl, Nat.zero_le _, htl0, hf.sub ⟨rfl, rfl, rfl, rfl, rfl, trivial⟩, H⟩
      · rintro s o1052 a wd1055 ⟨k, vs, cs, rfl, hk, htl, hf, H⟩ hB1053 hO1054
        refine CW.at hf <| C_seq <| R_nd <| nq (Q_lss rfl rfl) rfl rfl <| WL_nil <| x_then <| C_seq ?_
        refine C_cond rfl (fun hb => ?_) (fun hb => ?_)
        · have hlt : k < x2.length := by simpa using hb
          have hstep : cpL x2.length (k : Int) = some (.inl (w64 ((k : Int) + 1))) := if_pos (by omega)
          obtain rfl := Option.some.inj (hstep.symm.trans hB1053)
          refine C_skip <| x_then <| C_seq <| C_block <| C_seq <| R_nd <| nq (Q_move rfl) rfl rfl ?_
          obtain ⟨x, hx⟩ : ∃ x, x2[k]? = some x := ⟨_, List.getElem?_eq_getElem hlt⟩
          have hxl := hle.2.2 x (List.mem_of_getElem? hx)
          obtain ⟨bE, oE, u, rc, hi, hu, hrc, hat⟩ := nt_at (flat_P (flat_P (flat_I _) (flat_P (flat_I _) (flat_P (flat_I _) (flat_I _)))) (flat_P (flat_I _) (flat_I _))) (H.okS (l := [NT (eI .i64) (eP (eP (eI .u64) (eP (eI .u64) (eP (eI .u64) (eI .u64)))) (eP (eI .i64) (eI .i64))) v622 vs cs x2 k]) (by simp)) hx
          have hru := htl k u x (Nat.le_refl _) hu hx
          obtain ⟨_, _, rfl, ⟨_, _, rfl, rfl, _, _, rfl, rfl, _, _, rfl, rfl, rfl⟩, _, _, rfl, rfl, rfl⟩ := hrc
          refine nq (Q_idx hi Tryz.underlying22 ty58 rfl rfl) rfl rfl ?_
          refine nq (v := .agg #[u, .int .u64 x.2.1.1, .int .u64 x.2.1.2.1, .int .u64 x.2.1.2.2.1, .int .u64 x.2.1.2.2.2, .int .i64 x.2.2.1, .int .i64 x.2.2.2]) (Q_ld (show cellsAt _ _ _ [u, .int .u64 x.2.1.1, .int .u64 x.2.1.2.1, .int .u64 x.2.1.2.2.1, .int .u64 x.2.1.2.2.2, .int .i64 x.2.2.1, .int .i64 x.2.2.2] from hat _ (Ok.subS (by simp) H.ok)) ty58 rfl (fun h => nomatch h) rfl rfl) rfl rfl <| ne (E_alloc H ty58 (zs := [.slice none 0 0, .int .u64 0, .int .u64 0, .int .u64 0, .int .u64 0, .int .i64 0, .int .i64 0]) rfl) rfl rfl ?_
          rintro _ wd1097 ⟨b1096, rfl, H⟩
          refine nq (Q_assign rfl) rfl rfl <| ne (E_stB (k := 0) (cs := [u, .int .u64 x.2.1.1, .int .u64 x.2.1.2.1, .int .u64 x.2.1.2.2.1, .int .u64 x.2.1.2.2.2, .int .i64 x.2.2.1, .int .i64 x.2.2.2]) (vs' := [u, .int .u64 x.2.1.1, .int .u64 x.2.1.2.1, .int .u64 x.2.1.2.2.1, .int .u64 x.2.1.2.2.2, .int .i64 x.2.2.1, .int .i64 x.2.2.2]) H rfl ty58 rfl rfl rfl rfl (one_cons (RdSl.one hru) (one_cons rfl (one_cons rfl (one_cons rfl (one_cons rfl (one_cons rfl (one_cons rfl one_nil))))))) (by simp) rfl) rfl rfl ?_
          rintro _ wd1098 H
          dsimp only [List.set] at H
          refine WL_nil <| x_then ?_
          refine C_cutQ (fun a w' => ∃ vs' cs', Tl ρ (eI .i64) vs' x2 (k + 1) ∧ Fr 31 a [(2, .pointer (some ⟨b575, 0, none⟩)), (3, .pointer (some ⟨b621, 0, none⟩)), (14, v622), (15, .int .i64 (x2.length : Int)), (16, .int .i64 (k : Int))] ∧ Hp C w' ρ (NT (eI .i64) (eP (eP (eI .u64) (eP (eI .u64) (eP (eI .u64) (eI .u64)))) (eP (eI .i64) (eI .i64))) v622 vs' cs' x2 (k + 1) :: Box b575 [.slice none 0 0, .slice none 0 0] :: Box b621 [v622, v626] :: Arr v626 1 c627 :: hs)) ?_ ?_
          · refine R_dr (.take 0 (.take 1 (.take 2 (.take 3 (.take 4 (.one 5 (.take 6 (.take 7 (.bar 8 none .done))))))))) (some 8) (S := fun w' => Ok w' ρ [Box b1096 [u, .int .u64 x.2.1.1, .int .u64 x.2.1.2.1, .int .u64 x.2.1.2.2.1, .int .u64 x.2.1.2.2.2, .int .i64 x.2.2.1, .int .i64 x.2.2.2], NT (eI .i64) (eP (eP (eI .u64) (eP (eI .u64) (eP (eI .u64) (eI .u64)))) (eP (eI .i64) (eI .i64))) v622 vs cs x2 k, Box b575 [.slice none 0 0, .slice none 0 0], Box b621 [v622, v626], Arr v626 1 c627]) hm0 (by kernel_rfl) (H.drew.okS (by simp)) ?_
            replace H := H.drew
            refine dq (v := .pointer (some ⟨b621, 0, none⟩)) rfl (fun _ _ => Q_fld Tryz.underlying25 rfl ty22 (by decide) rfl rfl) rfl rfl <| dq (v := v622) rfl (fun _ hw => Q_ldB (k := 3) (cs := [v622]) hw rfl ty22 rfl rfl rfl (fun _ => rfl) rfl) rfl rfl <| dq rfl (fun _ _ => Q_move rfl) rfl rfl <| dq (v := .pointer (some ⟨b1096, 0, none⟩)) rfl (fun _ _ => Q_fld Tryz.underlying58 rfl ty23 (by decide) rfl rfl) rfl rfl <| dq (v := u) rfl (fun _ hw => Q_ldB (k := 0) (cs := [u]) hw rfl ty23 rfl rfl rfl (fun _ => rfl) rfl) rfl rfl ?_
            refine d1 (de rfl (E_call fn44 rfl (c_44 H hru (N := N) (r := x.1) (clone_ok hxl))) rfl rfl ?_)
            rintro _ wd1120 ⟨v1116, c1117, x1118, e1118, rfl, r1119, H⟩
            rw [e1118] at r1119
            refine ⟨H.okS (by simp), ?_⟩
            refine dq rfl (fun _ _ => Q_idx hi Tryz.underlying22 ty58 rfl rfl) rfl rfl <| dq (v := .pointer (some ⟨bE, oE + 0, none⟩)) rfl (fun _ _ => Q_fld Tryz.underlying58 rfl ty23 (by decide) rfl (Addr.add_none _ _ _)) rfl rfl ?_
            replace H := H.front 2 rfl
            dsimp only [List.eraseIdx] at H
            replace H := H.front 1 rfl
            dsimp only [List.eraseIdx] at H
            refine db rfl (E_stT (flat_I _) H hx ty23 hi rfl rfl r1119) rfl rfl ?_
            rintro _ wd1121 H
            refine H.okF <| DL_nil ?_
            replace H := H.drop 1 rfl
            dsimp only [List.eraseIdx] at H
            refine x_A fun a hf => ⟨_, _, htl.step, hf.sub ⟨rfl, rfl, rfl, rfl, rfl, trivial⟩, H⟩
          · rintro a wd1128 ⟨vs', cs', htl', hf, H⟩
            refine XX.at hf <| x_block <| x_then <| R_nd <| nq (Q_add rfl rfl) rfl rfl <| nq (Q_move rfl) rfl rfl <| WL_nil ?_
            have hw1 : w64 ((k : Int) + 1) = ((k + 1 : Nat) : Int) := w64_succ (by omega)
            refine x_A fun a hf => ⟨_, rfl, k + 1, vs', cs', hw1.symm, hlt, htl', ?_, H⟩
            rw [← hw1]
            exact hf.sub ⟨rfl, rfl, rfl, rfl, rfl, trivial⟩
        · have hge : x2.length ≤ k := by simpa using hb
          have hstep : cpL x2.length (k : Int) = some (.inr ()) := if_neg (by omega)
          obtain rfl := Option.some.inj (hstep.symm.trans hB1053)
          refine C_exit <| x_then_exit <| x_then_exit <| x_block_exit ?_
          replace H := H.tend hge
          refine x_A fun a hf => ⟨_, hf.sub ⟨rfl, rfl, trivial⟩, H⟩
    · rintro a wd1129 ⟨us, hf, H⟩
      have hvc := ns_cells (H.okS (l := [NS (eI .i64) (eP (eP (eI .u64) (eP (eI .u64) (eP (eI .u64) (eI .u64)))) (eP (eI .i64) (eI .i64))) v622 us x2]) (by simp))
      refine XX.at hf <| x_then <| C_seq <| R_nd <| nq (v := .agg #[v622, v626]) (Q_ldB (k := 2) (cs := [v622, v626]) H.ok rfl ty25 rfl rfl rfl (fun h => nomatch h) rfl) rfl rfl <| ne (E_stB (k := 1) (cs := [v622, v626]) (vs' := [v622, v626]) H rfl ty25 rfl rfl rfl rfl (one_cons hvc.2 (one_cons (arr_cells (H.ok.get (k := 3) rfl)).2 one_nil)) (by simp) rfl) rfl rfl ?_
      rintro _ wd1130 H
      dsimp only [List.set] at H
      refine WL_nil <| x_then <| C_ret ?_
      have hRV : RV Tryz.prog wd1130 [(2, .pointer (some ⟨b575, 0, none⟩))] [.cell 2 25] [.agg #[v622, v626]] := ⟨⟨_, rfl, run_ldv ty25 rfl (fun h => nomatch h) (box_at (H.ok.get (k := 1) rfl) 0 2)⟩, trivial⟩
      replace H := H.drop 2 rfl
      dsimp only [List.eraseIdx] at H
      replace H := H.drop 1 rfl
      dsimp only [List.eraseIdx] at H
      exact fn_retV (rs := [.cell 2 25]) (vs := [.agg #[v622, v626]]) rfl hRV ⟨v622, us, v626, c627, rfl, r629, H⟩
end Go.Proofs.YtchjfkdljnmmgaaGreatDoor.Co
namespace Go.Proofs.YtchjfkdljnmmgaaGreatDoor
open Go Go.Eng Go.Cr
set_option maxRecDepth 100000
theorem runX : XOk Tryz.prog ⟨256, 277, 1000000, 0⟩ := ⟨⟨_, Tryz.func256, by kernel_rfl, by kernel_rfl, by kernel_rfl, by kernel_rfl⟩, ⟨_, Tryz.func277, by kernel_rfl, by kernel_rfl, by kernel_rfl, by kernel_rfl⟩, .inl (by kernel_rfl)⟩
theorem runM : Tryz.prog.follows .mixedOrders = true := by kernel_rfl
end Go.Proofs.YtchjfkdljnmmgaaGreatDoor
namespace Go.Proofs.YtchjfkdljnmmgaaGreatDoor
open Go Go.Eng Go.Cr
set_option maxRecDepth 100000
theorem run15 : isTrue (run Tryz.prog ⟨256, 277, 1000000, 0⟩ 1000 (.f 15 []) [] ⟨.nil, 1000⟩) = true := by kernel_rfl
theorem runC15 : RunC Tryz.prog 15 (fun _ => True) := runC0 runX runM run15 ⟨_, _, Tryz.func15, by kernel_rfl, rfl⟩
end Go.Proofs.YtchjfkdljnmmgaaGreatDoor
namespace Go.Proofs.YtchjfkdljnmmgaaGreatDoor
open Go Go.Eng
theorem lt_len {α : Type} {xs : List α} {i : Nat} {x : α} (h : xs[i]? = some x) : i < xs.length := (List.getElem?_eq_some_iff.1 h).1
end Go.Proofs.YtchjfkdljnmmgaaGreatDoor
namespace Go.Proofs.YtchjfkdljnmmgaaGreatDoor
open Go Go.Eng
theorem range_get {n i x : Nat} (h : (List.range n)[i]? = some x) : i < n ∧ x = i := by
  have hl := lt_len h
  simp at hl
  rw [List.getElem?_range hl] at h
  exact ⟨hl, (Option.some.inj h).symm⟩
theorem sameInts_spec {N : Nat} {a b : List Int} (hN : 4294967296 ≤ N) (ha : a.length < 4294967296) : F_doffernum_SameInts N a b = some (decide (a = b)) := by
  unfold F_doffernum_SameInts
  by_cases h : a.length = b.length
  case neg =>
    have : ((a.length : Int) != (b.length : Int)) = true := by simp; omega
    have hne : a ≠ b := fun e => h (by rw [e])
    simp [this, hne]
  have e0 : ((a.length : Int) != (b.length : Int)) = false := by simp [h]
  simp only [e0, Bool.false_eq_true, if_false]
  rw [loop_any (List.range a.length) (fun i => a.getD i 0 != b.getD i 0) false (by simp; omega) (fun i x hx => by
    obtain ⟨hi, rfl⟩ := range_get hx
    have hib : x < b.length := by omega
    unfold F_doffernum_SameInts_l0
    have g1 : a.getD x 0 = a[x] := by simp [List.getD, List.getElem?_eq_getElem hi]
    have g2 : b.getD x 0 = b[x] := by simp [List.getD, List.getElem?_eq_getElem hib]
    rw [g1, g2]
    simp only [show ((x : Int) < (a.length : Int)) by omega, decide_true, if_true, idx_nat hi, idx_nat hib, bind, Option.bind_some]
    rw [w64_succ (by omega)]) (by simp [F_doffernum_SameInts_l0])]
  by_cases c : ((List.range a.length).any fun i => a.getD i 0 != b.getD i 0) = true
  · have : a ≠ b := by
      obtain ⟨i, _, hp⟩ := List.any_eq_true.1 c
      intro e
      simp [e] at hp
    rw [if_pos c]
    simp [this]
  · have : a = b := by
      apply List.ext_getElem h
      intro i h1 h2
      have h3 := List.any_eq_false.1 (by simpa using c : ((List.range a.length).any fun i => a.getD i 0 != b.getD i 0) = false) i (by simpa using h1)
      have g1 : a.getD i 0 = a[i] := by simp [List.getD, List.getElem?_eq_getElem h1]
      have g2 : b.getD i 0 = b[i] := by simp [List.getD, List.getElem?_eq_getElem h2]
      rw [g1, g2] at h3
      simpa using h3
    rw [if_neg c]
    simp [this]
end Go.Proofs.YtchjfkdljnmmgaaGreatDoor
namespace Go.Proofs.YtchjfkdljnmmgaaGreatDoor
open Go Go.Eng
/-- bit i -/
def has (m : List Int) (i : Nat) : Bool := (m.getD (i / 64) 0).toNat.testBit (i % 64)
end Go.Proofs.YtchjfkdljnmmgaaGreatDoor
namespace Go.Proofs.YtchjfkdljnmmgaaGreatDoor
open Go Go.Eng
/-- the marked numbers below n -/
def lst (f : Nat → Bool) (n : Nat) : List Int := ((List.range n).filter f).map fun (j : Nat) => (j : Int)
end Go.Proofs.YtchjfkdljnmmgaaGreatDoor
namespace Go.Proofs.YtchjfkdljnmmgaaGreatDoor
open Go Go.Eng
/-- a state: free steps, set, where to, rule -/
abbrev Stt := List Int × (Int × Int × Int × Int) × Int × Int
structure NRt (S : List Stt) (E : List Int) : Prop where
  n1 : 1 ≤ S.length
  n2 : S.length ≤ 4000
  e1 : 1 ≤ E.length
  e2 : E.length ≤ 8
  ent : ∀ x ∈ E, 0 ≤ x ∧ x < (S.length : Int)
  to : ∀ s ∈ S, -1 ≤ s.2.2.1 ∧ s.2.2.1 < (S.length : Int)
  set0 : ∀ s ∈ S, s.2.2.1 = -1 → s.2.1 = (0, 0, 0, 0)
  rul : ∀ s ∈ S, -1 ≤ s.2.2.2 ∧ s.2.2.2 ≤ 47
  free : ∀ s ∈ S, ∀ x ∈ s.1, 0 ≤ x ∧ x < (S.length : Int)
def outN (n x : Int) : Bool := decide (x < 0) || decide (x ≥ n)
def badS (n : Int) (s : Stt) : Bool :=
  (decide (s.2.2.1 < -1) || decide (s.2.2.1 ≥ n) || decide (s.2.2.2 < -1) || decide (s.2.2.2 > 47) || (s.2.2.1 == -1 && ([s.2.1.1, s.2.1.2.1, s.2.1.2.2.1, s.2.1.2.2.2] : List Int) != [0, 0, 0, 0])) || s.1.any (outN n)
def rtB (S : List Stt) (E : List Int) : Bool :=
  decide (1 ≤ S.length) && decide (S.length ≤ 4000) && decide (1 ≤ E.length) && decide (E.length ≤ 8) && !(E.any (outN S.length)) && !(S.any (badS S.length))
theorem outN_f {n x : Int} (h : outN n x = false) : 0 ≤ x ∧ x < n := by
  unfold outN at h
  simp at h; omega
theorem outN_of {n x : Int} (h : 0 ≤ x ∧ x < n) : outN n x = false := by
  unfold outN
  simp; omega
theorem rtB_iff (S : List Stt) (E : List Int) : rtB S E = true ↔ NRt S E := by
  unfold rtB
  simp only [Bool.and_eq_true, decide_eq_true_eq, Bool.not_eq_true', List.any_eq_false]
  constructor
  · rintro ⟨⟨⟨⟨⟨a1, a2⟩, a3⟩, a4⟩, a5⟩, a6⟩
    have h6 : ∀ s ∈ S, (-1 ≤ s.2.2.1 ∧ s.2.2.1 < (S.length : Int)) ∧ (-1 ≤ s.2.2.2 ∧ s.2.2.2 ≤ 47) ∧ (s.2.2.1 = -1 → s.2.1 = (0, 0, 0, 0)) ∧ ∀ x ∈ s.1, 0 ≤ x ∧ x < (S.length : Int) := by
      intro s hs
      have := a6 s hs
      unfold badS at this
      rw [Bool.not_eq_true, Bool.or_eq_false_iff, List.any_eq_false] at this
      obtain ⟨b1, b2⟩ := this
      simp only [Bool.or_eq_false_iff, decide_eq_false_iff_not] at b1
      obtain ⟨⟨⟨⟨c1, c2⟩, c3⟩, c4⟩, c5⟩ := b1
      refine ⟨by omega, by omega, fun h => ?_, fun x hx => outN_f (by simpa using b2 x hx)⟩
      rw [h] at c5
      obtain ⟨_, ⟨a, b, c, d⟩, _, _⟩ := s
      simpa using c5
    exact ⟨a1, a2, a3, a4, fun x hx => outN_f (by simpa using a5 x hx), fun s hs => (h6 s hs).1, fun s hs => (h6 s hs).2.2.1, fun s hs => (h6 s hs).2.1, fun s hs => (h6 s hs).2.2.2⟩
  · intro h
    refine ⟨⟨⟨⟨⟨h.n1, h.n2⟩, h.e1⟩, h.e2⟩, fun x hx => by rw [outN_of (h.ent x hx)]; simp⟩, fun s hs => ?_⟩
    have h1 := h.to s hs
    have h2 := h.rul s hs
    have h3 := h.set0 s hs
    have h4 : s.1.any (outN S.length) = false := by
      rw [List.any_eq_false]
      intro x hx
      rw [outN_of (h.free s hs x hx)]; simp
    unfold badS
    rw [h4]
    obtain ⟨_, ⟨a, b, c, d⟩, to, ru⟩ := s
    simp only at h1 h2 h3 ⊢
    have g1 : ¬ to < -1 := by omega
    have g2 : ¬ to ≥ (S.length : Int) := by omega
    have g3 : ¬ ru < -1 := by omega
    have g4 : ¬ ru > 47 := by omega
    by_cases g5 : to = -1
    · have := h3 g5
      simp only [Prod.mk.injEq] at this
      obtain ⟨rfl, rfl, rfl, rfl⟩ := this
      simp [g3, g4, g5]; omega
    · simp [g1, g2, g3, g4, g5]
section
variable {N : Nat} {S : List Stt} {E : List Int}
theorem nright1 (x n : Int) : F_nfa_Right_1 N x n = some (outN n x) := by
  unfold F_nfa_Right_1 outN
  by_cases h : x < 0 <;> simp [h]
theorem ncontains {xs : List Int} {n : Int} (hN : 4294967296 ≤ N) (hl : xs.length < 4294967296) : F_slices_ContainsFunc_int_int_2 N xs n = some (xs.any (outN n)) := by
  unfold F_slices_ContainsFunc_int_int_2 F_slices_IndexFunc_int_int_2
  rw [loop_find xs (outN n) (fun i => (i : Int)) (by omega) (fun i x hx => by
    have hi := lt_len hx
    unfold F_slices_IndexFunc_int_int_2_l0
    simp only [show ((i : Int) < (xs.length : Int)) by omega, decide_true, if_true, idx_of hx, nright1, bind, Option.bind_some]
    rw [w64_succ (by omega)]) (by unfold F_slices_IndexFunc_int_int_2_l0; simp)]
  cases h : xs.findIdx? (outN n) with
  | none =>
    have : xs.any (outN n) = false := List.any_eq_false.2 fun x hx => by rw [List.findIdx?_eq_none_iff.1 h x hx]; simp
    simp [this]
  | some k =>
    obtain ⟨hk, hp, _⟩ := List.findIdx?_eq_some_iff_getElem.1 h
    have : xs.any (outN n) = true := List.any_eq_true.2 ⟨_, List.getElem_mem hk, hp⟩
    rw [this]
    simp
/-- lists of a length that memory bears -/
structure NSz (S : List Stt) (E : List Int) : Prop where
  a : S.length < 4294967296
  b : E.length < 4294967296
  c : ∀ s ∈ S, s.1.length < 4294967296
theorem nfaRight_spec (hN : 4294967296 ≤ N) (hs : NSz S E) : F_nfa_Right N S E = some (rtB S E) := by
  unfold F_nfa_Right
  rw [loop_any S (badS S.length) false (by have := hs.a; omega) (fun i s hx => by
    have hi := lt_len hx
    have hc := hs.c s (List.mem_of_getElem? hx)
    have ha := hs.a
    obtain ⟨fr, ⟨a, b, c, d⟩, to, ru⟩ := s
    unfold F_nfa_Right_l0 badS
    simp only [show ((i : Int) < (S.length : Int)) by omega, decide_true, if_true, idx_of hx, nright1, F_sets_Set_Empty, ncontains hN hc, bind, Option.bind_some]
    rw [w64_succ (by omega)]
    generalize fr.any (outN S.length) = q
    by_cases g5 : to = -1
    · subst g5
      have e1 : outN (S.length : Int) (-1) = true := by unfold outN; simp
      have g2 : ¬ ((-1 : Int) ≥ (S.length : Int)) := by omega
      by_cases g6 : ([a, b, c, d] : List Int) = [0, 0, 0, 0]
      · have e6 : (([a, b, c, d] : List Int) == [0, 0, 0, 0]) = true := by rw [g6]; rfl
        have e7 : (([a, b, c, d] : List Int) != [0, 0, 0, 0]) = false := by rw [g6]; rfl
        cases q <;> by_cases g3 : ru < -1 <;> by_cases g4 : ru ≥ 48 <;> simp [e6, e7, g3, g4, g2, show (ru > 47) = (ru ≥ 48) from by simp; omega]
      · have e6 : (([a, b, c, d] : List Int) == [0, 0, 0, 0]) = false := by simpa using g6
        have e7 : (([a, b, c, d] : List Int) != [0, 0, 0, 0]) = true := by simpa using g6
        simp [e6, e7, e1]
    · have e5 : (to == -1) = false := by simpa using g5
      by_cases g7 : 0 ≤ to ∧ to < (S.length : Int)
      · have e1 := outN_of g7
        have g1 : ¬ to < -1 := by omega
        have g2 : ¬ to ≥ (S.length : Int) := by omega
        cases q <;> by_cases g3 : ru < -1 <;> by_cases g4 : ru ≥ 48 <;> simp [e5, e1, g1, g2, g3, g4, show (ru > 47) = (ru ≥ 48) from by simp; omega]
      · have e1 : outN (S.length : Int) to = true := by
          cases h : outN (S.length : Int) to with
          | true => rfl
          | false => exact absurd (outN_f h) g7
        have g1 : to < -1 ∨ to ≥ (S.length : Int) := by omega
        rcases g1 with g1 | g1 <;> simp [e5, e1, g1]) (by unfold F_nfa_Right_l0; simp)]
  unfold rtB
  cases hS : S.any (badS S.length) with
  | true => simp
  | false =>
    simp only [Bool.false_eq_true, if_false, bind, Option.bind_some, ncontains hN hs.b]
    by_cases a1 : 1 ≤ E.length
    · by_cases a2 : E.length ≤ 8
      · by_cases a3 : 1 ≤ S.length
        · by_cases a4 : S.length ≤ 4000
          · have b1 : (E.length : Int) ≥ 1 := by omega
            have b2 : (E.length : Int) ≤ 8 := by omega
            have b3 : (S.length : Int) ≥ 1 := by omega
            have b4 : (S.length : Int) ≤ 4000 := by omega
            simp [a1, a2, a3, a4, b1, b2, b3, b4]
          · have b1 : (E.length : Int) ≥ 1 := by omega
            have b2 : (E.length : Int) ≤ 8 := by omega
            have b3 : (S.length : Int) ≥ 1 := by omega
            have b4 : ¬ (S.length : Int) ≤ 4000 := by omega
            simp [a4, b1, b2, b3, b4]
        · have b1 : (E.length : Int) ≥ 1 := by omega
          have b2 : (E.length : Int) ≤ 8 := by omega
          have b3 : ¬ (S.length : Int) ≥ 1 := by omega
          simp [a3, b1, b2, b3]
      · have b1 : (E.length : Int) ≥ 1 := by omega
        have b2 : ¬ (E.length : Int) ≤ 8 := by omega
        simp [a2, b1, b2]
    · have b1 : ¬ (E.length : Int) ≥ 1 := by omega
      simp [a1, b1]
theorem nrefRight_spec (hN : 4294967296 ≤ N) (hs : NSz S E) : F_dofferref15_Right N S E = some (rtB S E) := by
  unfold F_dofferref15_Right rtB
  by_cases a1 : 1 ≤ S.length
  case neg =>
    have b1 : (S.length : Int) < 1 := by omega
    simp [a1, b1]
  have b1 : ¬ (S.length : Int) < 1 := by omega
  by_cases a2 : S.length ≤ 4000
  case neg =>
    have b2 : (S.length : Int) > 4000 := by omega
    simp [a2, b1, b2]
  have b2 : ¬ (S.length : Int) > 4000 := by omega
  by_cases a3 : 1 ≤ E.length
  case neg =>
    have b3 : (E.length : Int) < 1 := by omega
    simp [a3, b1, b2, b3]
  have b3 : ¬ (E.length : Int) < 1 := by omega
  by_cases a4 : E.length ≤ 8
  case neg =>
    have b4 : (E.length : Int) > 8 := by omega
    simp [a4, b1, b2, b3, b4]
  have b4 : ¬ (E.length : Int) > 8 := by omega
  simp only [b1, b2, b3, b4, decide_false, Bool.false_eq_true, if_false, bind, Option.bind_some, a1, a2, a3, a4, decide_true, Bool.true_and]
  rw [loop_any E (outN S.length) false (by omega) (fun i x hx => by
    have hi := lt_len hx
    unfold F_dofferref15_Right_l0
    simp only [show ((i : Int) < (E.length : Int)) by omega, decide_true, if_true, idx_of hx, bind, Option.bind_some]
    rw [w64_succ (by omega)]
    unfold outN
    by_cases c1 : x < 0 <;> simp [c1]) (by unfold F_dofferref15_Right_l0; simp)]
  cases hE : E.any (outN S.length) with
  | true => simp
  | false =>
    simp only [Bool.false_eq_true, if_false, Option.bind_some]
    rw [loop_any S (badS S.length) false (by omega) (fun i s hx => by
      have hi := lt_len hx
      have hc := hs.c s (List.mem_of_getElem? hx)
      unfold F_dofferref15_Right_l1
      simp only [show ((i : Int) < (S.length : Int)) by omega, decide_true, if_true, idx_of hx, bind, Option.bind_some]
      rw [loop_any s.1 (outN S.length) (τ := Int ⊕ (Unit ⊕ Bool)) (.inr (.inr false)) (by omega) (fun j y hy => by
        have hj := lt_len hy
        unfold F_dofferref15_Right_l2
        simp only [show ((j : Int) < (s.1.length : Int)) by omega, decide_true, if_true, idx_of hy, bind, Option.bind_some]
        rw [w64_succ (by omega)]
        unfold outN
        by_cases c1 : y < 0 <;> simp [c1]) (by unfold F_dofferref15_Right_l2; simp)]
      rw [w64_succ (by omega)]
      unfold badS
      by_cases c1 : s.2.2.1 < -1
      · simp [c1]
      by_cases c2 : s.2.2.1 ≥ (S.length : Int)
      · simp [c1, c2]
      by_cases c3 : s.2.2.2 < -1
      · simp [c1, c2, c3]
      by_cases c4 : s.2.2.2 > 47
      · simp [c1, c2, c3, c4]
      by_cases c5 : s.2.2.1 = -1
      · cases c6 : ([s.2.1.1, s.2.1.2.1, s.2.1.2.2.1, s.2.1.2.2.2] : List Int) != [0, 0, 0, 0] with
        | true => simp [c3, c4, c5, show ¬ ((S.length : Int) ≤ -1) by omega]
        | false => cases s.1.any (outN S.length) <;> simp [c3, c4, c5, show ¬ ((S.length : Int) ≤ -1) by omega]
      · cases s.1.any (outN S.length) <;> simp [c1, c2, c3, c4, c5]) (by unfold F_dofferref15_Right_l1; simp)]
    cases hS : S.any (badS S.length) <;> simp
end
end Go.Proofs.YtchjfkdljnmmgaaGreatDoor
namespace Go.Proofs.YtchjfkdljnmmgaaGreatDoor
open Go Go.Eng
section
variable {N : Nat} {S : List Stt} {E : List Int}
theorem of15_spec {m : Int} (hN : 4294967296 ≤ N) (hm : m < 4294967296) : ∃ p, F_dofferlaw15_Of N S E m = some p ∧ (p.2 = true → p.1 = S ∧ (S.length : Int) ≤ m ∧ (E.length : Int) ≤ 20 ∧ ∀ s ∈ S, s.1.length ≤ 100) := by
  unfold F_dofferlaw15_Of
  by_cases a1 : (E.length : Int) > 20
  · exact ⟨([], false), by simp [a1], by simp⟩
  by_cases a2 : (S.length : Int) > m
  · exact ⟨([], false), by simp [a1, a2], by simp⟩
  simp only [a1, a2, decide_false, Bool.false_eq_true, if_false, bind, Option.bind_some]
  obtain ⟨r, hr, hq⟩ := iterO_while (f := fun s : Int × List Stt => F_dofferlaw15_Of_l0 N S s.1 s.2) (fun s => ∃ i : Nat, i ≤ S.length ∧ s = ((i : Int), S.take i) ∧ ∀ t ∈ S.take i, t.1.length ≤ 100) (fun s => S.length - s.1.toNat)
    (fun r => match r with | .inl x => x = S ∧ ∀ t ∈ S, t.1.length ≤ 100 | .inr z => z.2 = false) (fun s hI => by
      obtain ⟨i, hi, rfl, hf⟩ := hI
      unfold F_dofferlaw15_Of_l0
      by_cases hil : i < S.length
      · have hx : S[i]? = some S[i] := List.getElem?_eq_getElem hil
        simp only [show ((i : Int) < (S.length : Int)) by omega, decide_true, if_true, idx_of hx, bind, Option.bind_some]
        by_cases b1 : (S[i].1.length : Int) > 100
        · right
          exact ⟨.inr (S.take i, false), by simp [b1], rfl⟩
        · left
          refine ⟨(((i + 1 : Nat) : Int), S.take (i + 1)), ?_, ⟨i + 1, by omega, rfl, fun t ht => ?_⟩, by simp; omega⟩
          · simp only [b1, decide_false, Bool.false_eq_true, if_false]
            rw [app_eq (by simp; omega), w64_succ (by omega), List.take_add_one, hx]
            rfl
          · rw [List.take_add_one, hx] at ht
            rcases List.mem_append.1 ht with ht | ht
            · exact hf t ht
            · simp at ht; subst ht; omega
      · right
        obtain rfl : i = S.length := by omega
        refine ⟨.inl S, by simp, rfl, fun t ht => hf t (by simpa using ht)⟩) (N := N) (s := (0, [])) ⟨0, by omega, by simp, by simp⟩ (by simp; omega)
  rw [hr]
  cases r with
  | inl x => exact ⟨(x, true), rfl, fun _ => ⟨hq.1, by omega, by omega, hq.2⟩⟩
  | inr z => exact ⟨z, rfl, fun h => by rw [hq] at h; cases h⟩
def frS (S : List Stt) (x : Int) : List Int := ((S[x.toNat]?).map (fun s => s.1)).getD []
inductive RchF (S : List Stt) (L : List Int) : Int → Prop
  | base {x : Int} : x ∈ L → RchF S L x
  | step {s y : Int} : RchF S L s → y ∈ frS S s → RchF S L y
theorem RchF.mono {L L' : List Int} (hl : ∀ x ∈ L, RchF S L' x) {x : Int} (hr : RchF S L x) : RchF S L' x := by
  induction hr with
  | base hx => exact hl _ hx
  | step _ hy ih => exact .step ih hy
end
end Go.Proofs.YtchjfkdljnmmgaaGreatDoor
namespace Go.Proofs.YtchjfkdljnmmgaaGreatDoor
open Go Go.Eng
theorem equalI_spec {N : Nat} {a b : List Int} (hN : 4294967296 ≤ N) (ha : a.length < 4294967296) : F_slices_Equal_int_int N a b = some (decide (a = b)) := by
  have h := sameInts_spec (N := N) (a := a) (b := b) hN ha
  unfold F_doffernum_SameInts at h
  unfold F_slices_Equal_int_int
  have e : (fun s => F_slices_Equal_int_int_l0 N a b s) = fun s => F_doffernum_SameInts_l0 N a b s := by
    funext s; rfl
  rw [e]
  exact h
end Go.Proofs.YtchjfkdljnmmgaaGreatDoor
namespace Go.Proofs.YtchjfkdljnmmgaaGreatDoor
open Go Go.Eng
set_option maxRecDepth 100000
section
variable {N : Nat} {S S' : List Stt} {E E' : List Int}
theorem st_eq {s t : Stt} : s = t ↔ s.1 = t.1 ∧ ([s.2.1.1, s.2.1.2.1, s.2.1.2.2.1, s.2.1.2.2.2] : List Int) = [t.2.1.1, t.2.1.2.1, t.2.1.2.2.1, t.2.1.2.2.2] ∧ s.2.2.1 = t.2.2.1 ∧ s.2.2.2 = t.2.2.2 := by
  obtain ⟨a, ⟨b, c, d, e⟩, f, g⟩ := s
  obtain ⟨a', ⟨b', c', d', e'⟩, f', g'⟩ := t
  simp only [Prod.mk.injEq, List.cons.injEq, and_true, and_assoc]
theorem nequal_spec {s t : Stt} (hN : 4294967296 ≤ N) (hl : s.1.length < 4294967296) :
    F_nfa_equal N s.1 s.2.1.1 s.2.1.2.1 s.2.1.2.2.1 s.2.1.2.2.2 s.2.2.1 s.2.2.2 t.1 t.2.1.1 t.2.1.2.1 t.2.1.2.2.1 t.2.1.2.2.2 t.2.2.1 t.2.2.2 = some (decide (s = t)) := by
  unfold F_nfa_equal
  rw [equalI_spec hN hl]
  simp only [bind, Option.bind_some]
  have key := st_eq (s := s) (t := t)
  by_cases h1 : s.1 = t.1
  · by_cases h2 : ([s.2.1.1, s.2.1.2.1, s.2.1.2.2.1, s.2.1.2.2.2] : List Int) = [t.2.1.1, t.2.1.2.1, t.2.1.2.2.1, t.2.1.2.2.2]
    · by_cases h3 : s.2.2.1 = t.2.2.1
      · by_cases h4 : s.2.2.2 = t.2.2.2
        · have : s = t := key.2 ⟨h1, h2, h3, h4⟩
          rw [decide_eq_true h1, if_pos rfl, if_pos (beq_iff_eq.2 h2), if_pos (beq_iff_eq.2 h3), decide_eq_true this, beq_iff_eq.2 h4]
          rfl
        · have : ¬ s = t := fun e => h4 (key.1 e).2.2.2
          rw [decide_eq_true h1, if_pos rfl, if_pos (beq_iff_eq.2 h2), if_pos (beq_iff_eq.2 h3), decide_eq_false this, beq_eq_false_iff_ne.2 h4]
          rfl
      · have : ¬ s = t := fun e => h3 (key.1 e).2.2.1
        rw [decide_eq_true h1, if_pos rfl, if_pos (beq_iff_eq.2 h2), if_neg (fun e => h3 (beq_iff_eq.1 e)), decide_eq_false this]
        rfl
    · have : ¬ s = t := fun e => h2 (key.1 e).2.1
      rw [decide_eq_true h1, if_pos rfl, if_neg (fun e => h2 (beq_iff_eq.1 e)), decide_eq_false this]
      rfl
  · have : ¬ s = t := fun e => h1 (key.1 e).1
    rw [decide_eq_false h1, if_neg (by simp), decide_eq_false this]
    rfl
theorem any_ne {α : Type} [DecidableEq α] {a b : List α} (h : a.length = b.length) : ((List.range a.length).any fun i => decide (a[i]? ≠ b[i]?)) = decide (a ≠ b) := by
  rw [Bool.eq_iff_iff, List.any_eq_true, decide_eq_true_iff]
  constructor
  · rintro ⟨i, _, hi⟩ e
    rw [e] at hi
    simp at hi
  · intro hne
    apply Classical.byContradiction
    intro hn
    refine hne (List.ext_getElem? fun i => ?_)
    by_cases hi : i < a.length
    · exact Classical.byContradiction fun hx => hn ⟨i, by simpa using hi, by simpa using hx⟩
    · rw [List.getElem?_eq_none (by omega), List.getElem?_eq_none (by omega)]
theorem nsame_spec (hN : 4294967296 ≤ N) (hs : NSz S E) : F_nfa_Same N S E S' E' = some (decide (S = S' ∧ E = E')) := by
  unfold F_nfa_Same
  rw [equalI_spec hN hs.b]
  simp only [bind, Option.bind_some]
  by_cases h1 : E = E'
  · rw [decide_eq_true h1]
    simp only [if_true]
    unfold F_slices_EqualFunc_nfa_State_nfa_State_nfa_State_nfa_State
    by_cases h : S.length = S'.length
    · have e0 : ((S.length : Int) != (S'.length : Int)) = false := by simp [h]
      simp only [e0, Bool.false_eq_true, if_false]
      rw [loop_any (List.range S.length) (fun i => decide (S[i]? ≠ S'[i]?)) false (by have := hs.a; simp; omega) (fun i x hx => by
        obtain ⟨hi, rfl⟩ := range_get hx
        have hib : x < S'.length := by omega
        have ha := hs.a
        unfold F_slices_EqualFunc_nfa_State_nfa_State_nfa_State_nfa_State_l0
        rw [if_pos (by simp; omega), idx_nat hi, idx_nat hib]
        simp only [bind, Option.bind_some]
        rw [nequal_spec hN (hs.c _ (List.getElem_mem hi)), List.getElem?_eq_getElem hi, List.getElem?_eq_getElem hib]
        simp only [Option.bind_some]
        rw [w64_succ (by omega)]
        by_cases c : S[x] = S'[x] <;> simp [c]) (by simp [F_slices_EqualFunc_nfa_State_nfa_State_nfa_State_nfa_State_l0]), any_ne h]
      by_cases c : S = S' <;> simp [c, h1]
    · have e0 : ((S.length : Int) != (S'.length : Int)) = true := by simp; omega
      have hne : S ≠ S' := fun e => h (by rw [e])
      simp [e0, hne]
  · rw [decide_eq_false h1]
    simp [h1]
theorem nrefSame_spec (hN : 4294967296 ≤ N) (hs : NSz S E) : F_dofferref15_Same N S E S' E' = some (decide (S = S' ∧ E = E')) := by
  unfold F_dofferref15_Same
  rw [sameInts_spec hN hs.b]
  simp only [bind, Option.bind_some]
  by_cases h1 : E = E'
  · rw [decide_eq_true h1]
    simp only [Bool.not_true, Bool.false_eq_true, if_false, Option.bind_some]
    by_cases h : S.length = S'.length
    · have e0 : ((S.length : Int) != (S'.length : Int)) = false := by simp [h]
      simp only [e0, Bool.false_eq_true, if_false]
      rw [loop_any (List.range S.length) (fun i => decide (S[i]? ≠ S'[i]?)) false (by have := hs.a; simp; omega) (fun i x hx => by
        obtain ⟨hi, rfl⟩ := range_get hx
        have hib : x < S'.length := by omega
        have ha := hs.a
        unfold F_dofferref15_Same_l0
        rw [if_pos (by simp; omega), idx_nat hi, idx_nat hib]
        simp only [bind, Option.bind_some]
        rw [sameInts_spec hN (hs.c _ (List.getElem_mem hi)), List.getElem?_eq_getElem hi, List.getElem?_eq_getElem hib]
        simp only [Option.bind_some]
        rw [w64_succ (by omega)]
        have key := st_eq (s := S[x]) (t := S'[x])
        by_cases c : S[x] = S'[x]
        · obtain ⟨k1, k2, k3, k4⟩ := key.1 c
          simp [c]
        · by_cases k1 : S[x].1 = S'[x].1
          · by_cases k2 : ([S[x].2.1.1, S[x].2.1.2.1, S[x].2.1.2.2.1, S[x].2.1.2.2.2] : List Int) = [S'[x].2.1.1, S'[x].2.1.2.1, S'[x].2.1.2.2.1, S'[x].2.1.2.2.2]
            · by_cases k3 : S[x].2.2.1 = S'[x].2.2.1
              · have k4 : ¬ S[x].2.2.2 = S'[x].2.2.2 := fun k4 => c (key.2 ⟨k1, k2, k3, k4⟩)
                rw [decide_eq_true k1, if_neg (by simp), if_neg (by simpa using k2), if_neg (by simpa using k3)]
                simp [k4, c]
              · rw [decide_eq_true k1, if_neg (by simp), if_neg (by simpa using k2), if_pos (by simpa using k3)]
                simp [c]
            · rw [decide_eq_true k1, if_neg (by simp), if_pos (bne_iff_ne.2 k2)]
              simp [c]
          · rw [decide_eq_false k1, if_pos (by simp)]
            simp [c]) (by simp [F_dofferref15_Same_l0]), any_ne h]
      by_cases c : S = S' <;> simp [c, h1]
    · have e0 : ((S.length : Int) != (S'.length : Int)) = true := by simp; omega
      have hne : S ≠ S' := fun e => h (by rw [e])
      simp [e0, hne]
  · rw [decide_eq_false h1]
    simp [h1]
/-- the changed copy -/
theorem change_loop (hN : 4294967296 ≤ N) (hs : NSz S E) : ∃ r, iterO N (fun s => F_dofferlaw15_NfaRight_l0 N S s.1 s.2) (0, S) = some r ∧ r.length = S.length ∧ (∀ x ∈ r, x.1.length < 4294967296) ∧ ∀ x ∈ r, x.2.2.2 = 99 := by
  have ha := hs.a
  obtain ⟨s, h, h1, h2, h3⟩ := loop_inv (f := fun s : Int × List Stt => F_dofferlaw15_NfaRight_l0 N S s.1 s.2) (fun i (s : List Stt) => ((i : Int), s)) id S (fun i s => s.length = S.length ∧ (∀ x ∈ s, x.1.length < 4294967296) ∧ ∀ j x, j < i → s[j]? = some x → x.2.2.2 = 99) (N := N) (s := S) (by omega) ⟨rfl, hs.c, fun j x hj => by omega⟩
    (fun i x s hx hI => by
      obtain ⟨q1, q2, q3⟩ := hI
      have hi := lt_len hx
      have his : i < s.length := by omega
      unfold F_dofferlaw15_NfaRight_l0
      rw [if_pos (by simp; omega), idx_nat his]
      have hi63 : i < 9223372036854775807 := by omega
      simp only [bind, Option.bind_some]
      rw [setI_nat his]
      simp only [Option.bind_some]
      rw [idx_of (x := (s[i].1, (s[i].2.1.1, s[i].2.1.2.1, s[i].2.1.2.2.1, s[i].2.1.2.2.2), s[i].2.2.1, (99 : Int))) (by simp [his])]
      simp only [Option.bind_some]
      have h99 : ∀ (y : Stt), y.2.2.2 = 99 → ∀ j z, j < i + 1 → (s.set i y)[j]? = some z → z.2.2.2 = 99 := fun y hy j z hj hz => by
        by_cases c : j = i
        · subst c
          rw [List.getElem?_set_self his] at hz
          rw [← Option.some.inj hz]; exact hy
        · rw [List.getElem?_set_ne (by omega)] at hz
          exact q3 j z (by omega) hz
      have hlen : ∀ (y : Stt), y.1.length < 4294967296 → ∀ z ∈ s.set i y, z.1.length < 4294967296 := fun y hy z hz => by
        rcases List.mem_or_eq_of_mem_set hz with h | h
        · exact q2 z h
        · rw [h]; exact hy
      have hli := q2 _ (List.getElem_mem his)
      by_cases c : 0 < s[i].1.length
      · rw [if_pos (by simpa using (show ((0 : Int)) < (s[i].1.length : Int) by omega))]
        rw [show ((0 : Int)) = ((0 : Nat) : Int) from rfl, idx_nat c]
        simp only [Option.bind_some]
        rw [setI_nat c]
        simp only [Option.bind_some]
        rw [setI_nat (by simpa using his)]
        simp only [Option.bind_some, List.set_set]
        rw [w64_succ (by omega)]
        exact ⟨_, rfl, by simpa using q1, hlen _ (by simpa using hli), h99 _ rfl⟩
      · rw [if_neg (by simpa using c)]
        simp only [Option.bind_some]
        rw [w64_succ (by omega)]
        exact ⟨_, rfl, by simpa using q1, hlen _ hli, h99 _ rfl⟩)
    (fun s _ => by unfold F_dofferlaw15_NfaRight_l0; simp)
  refine ⟨s, h, h1, h2, fun x hx => ?_⟩
  obtain ⟨j, hj, rfl⟩ := List.getElem_of_mem hx
  exact h3 j _ (by omega) (List.getElem?_eq_getElem hj)
theorem copy_ok (h1 : S.length ≤ 4294967296) (h2 : E.length ≤ 4294967296) (h3 : ∀ s ∈ S, s.1.length ≤ 4294967296) : F_nfa_Copy N S E = some () := by
  unfold F_nfa_Copy
  rw [if_pos ⟨h1, h2, h3⟩]
theorem nfaRight_true : ∃ N, F_dofferlaw15_NfaRight N S E S' E' = some true := by
  refine ⟨4294967296, ?_⟩
  generalize hN' : (4294967296 : Nat) = N
  have hN : 4294967296 ≤ N := by omega
  clear hN'
  unfold F_dofferlaw15_NfaRight
  obtain ⟨p, hp, hq⟩ := of15_spec (N := N) (S := S) (E := E) (m := 100) hN (by omega)
  obtain ⟨p', hp', hq'⟩ := of15_spec (N := N) (S := S') (E := E') (m := 100) hN (by omega)
  rw [hp]
  simp only [bind, Option.bind_some]
  rw [hp']
  simp only [Option.bind_some]
  cases h2 : p.2 with
  | false => simp
  | true =>
    cases h2' : p'.2 with
    | false => simp
    | true =>
      obtain ⟨e, hl, hE, hf⟩ := hq h2
      obtain ⟨e', hl', hE', hf'⟩ := hq' h2'
      have hs : NSz S E := ⟨by omega, by omega, fun s hs => by have := hf s hs; omega⟩
      simp only [Bool.not_true, Bool.false_eq_true, if_false, e, e', Option.bind_some]
      rw [copy_ok (by omega) (by omega) (fun s hs => by have := hf s hs; omega)]
      simp only [Option.bind_some]
      rw [nfaRight_spec hN hs, nrefRight_spec hN hs]
      simp only [Option.bind_some, bne_self_eq_false, Bool.false_eq_true, if_false]
      rw [nsame_spec hN hs, nrefSame_spec hN hs]
      simp only [Option.bind_some, bne_self_eq_false, Bool.false_eq_true, if_false]
      rw [nsame_spec hN hs]
      simp only [Option.bind_some, and_self, decide_true, Bool.not_true, Bool.false_eq_true, if_false]
      obtain ⟨r, r1, r2, r3, r4⟩ := change_loop (N := N) hN hs
      rw [r1]
      simp only [Option.bind_some]
      simp only [beq_self_eq_true, if_true]
      by_cases h0 : S.length = 0
      · simp [h0]
      · have hsr : NSz r E := ⟨by omega, by omega, r3⟩
        rw [if_neg (by simpa using h0), nfaRight_spec hN hsr]
        have : rtB r E = false := by
          cases hb : rtB r E with
          | false => rfl
          | true =>
            have hR := (rtB_iff r E).1 hb
            have hm := List.getElem_mem (show 0 < r.length by omega)
            have := (hR.rul _ hm).2
            rw [r4 _ hm] at this
            omega
        rw [this]
        rfl
end
end Go.Proofs.YtchjfkdljnmmgaaGreatDoor
