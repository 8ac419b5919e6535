/-
  PLAIN LEAN, no program in sight: what the pure functions answer.
-/
import Derived.Test.YticipjjhbebegaaDoorScriptLinesD1
import Derived.LaidEql
import Derived.Lib.Bytealg
import Derived.RowKitTokens
import Derived.Stop.Asserts
import Derived.Test.YticipjjhbebegaaDoorChecked
import Derived.WalkKit
namespace Go.Proofs.YticipjjhbebegaaDoor
open Go.RowKit Go.Extern.Stop Go.Stop Go.Extern
set_option maxRecDepth 20000
theorem Is.typeOf (v : Value) (w : World) : (Extern.ReflectliteType.typeOf #[.iface 137 v]).run Tryd.prog w = .ok (.iface 100 (.agg #[.pointer (some ⟨21, 137, none⟩)])) w := by kernel_rfl
def Is.cmp : Array Value → Sem Value := Extern.ReflectliteType.method fun t => do Rtype.noPackHeld "Comparable" t; pure (.bool (← typeInfo t).comparable)
theorem Is.comparable (w : World) : (Is.cmp #[.agg #[.pointer (some ⟨21, 137, none⟩)]]).run Tryd.prog w = .ok (.bool true) w := by kernel_rfl
theorem Is.methodComparable (v : Value) (w : World) : (Go.method 271 100 v "Comparable").run Tryd.prog w = .ok (102, v) w := by kernel_rfl
theorem Is.comp : (Tryd.prog.info? 137).map (·.comparable) = some true := by kernel_rfl
theorem Is.size : (Tryd.prog.info? 160).map (·.size) = some 1 := by kernel_rfl
theorem Is.noIs (v : Value) (xT : TypeId) (w : World) : (Instr.typeAssert (.iface 137 v) xT 102 true).run Tryd.prog w = .ok (.tuple #[.nilIface, .bool false]) w := run_typeAssert_lacksB Tryd.underlying102 (by kernel_rfl) (by kernel_rfl) v xT w
theorem Is.noUnwrap (v : Value) (xT : TypeId) (w : World) : (Instr.typeAssert (.iface 137 v) xT 105 true).run Tryd.prog w = .ok (.tuple #[.nilIface, .bool false]) w := run_typeAssert_lacksB Tryd.underlying105 (by kernel_rfl) (by kernel_rfl) v xT w
theorem Is.noUnwraps (v : Value) (xT : TypeId) (w : World) : (Instr.typeAssert (.iface 137 v) xT 107 true).run Tryd.prog w = .ok (.tuple #[.nilIface, .bool false]) w := run_typeAssert_lacksB Tryd.underlying107 (by kernel_rfl) (by kernel_rfl) v xT w
theorem is_same (a : Addr) (w : World) :
    Calls Tryd.prog 24 #[.iface 137 (.pointer (some a)), .iface 137 (.pointer (some a))] w fun e w' => e = .returned (.bool true) ∧ w' = w := by
  obtain ⟨i, hi, hcmp⟩ := Option.map_eq_some_iff.1 Is.comp
  obtain ⟨j, hj, hjs⟩ := Option.map_eq_some_iff.1 Is.size
  have h8 := @run_callFunc_extern Tryd.prog 40 _ Extern.ReflectliteType.typeOf Tryd.func40 (by kernel_rfl) (by kernel_rfl) (by kernel_rfl) (by kernel_rfl)
  have h32 := @run_callFunc_extern Tryd.prog 102 _ Is.cmp Tryd.func102 (by kernel_rfl) (by kernel_rfl) (by kernel_rfl) (by kernel_rfl)
  have tT := Is.typeOf
  have cT := Is.comparable
  have mR := Is.methodComparable
  have heq := run_eql_iface_ptr_same (P := Tryd.prog) w a Tryd.underlying25 Tryd.underlying137 hi hcmp hj
  go_enter Tryd.func24, Tryd.ntmps24
  go_wp2
  refine wp_loop_rounds 1 ?_
  rw [rounds_succ]
  go_wp2
  go_ret
  exact ⟨rfl, rfl⟩
theorem is_nil (b : Addr) (w : World) :
    Calls Tryd.prog 24 #[.nilIface, .iface 137 (.pointer (some b))] w fun e w' => e = .returned (.bool false) ∧ w' = w := by
  have hn := run_eql_iface_nil_left (P := Tryd.prog) w 137 (.pointer (some b)) Tryd.underlying25
  go_enter Tryd.func24, Tryd.ntmps24
  go_wp2
  go_ret
  exact ⟨rfl, rfl⟩
theorem is_other (a b : Addr) (ca cb : Array Value) (ta tb : TypeId) (w : World) (hne : a ≠ b) (ha : w.heap[a.block]? = some (.cells ca ta (0, 0))) (hb : w.heap[b.block]? = some (.cells cb tb (0, 0))) :
    Calls Tryd.prog 24 #[.iface 137 (.pointer (some a)), .iface 137 (.pointer (some b))] w fun e w' => e = .returned (.bool false) ∧ w' = w := by
  obtain ⟨i, hi, hcmp⟩ := Option.map_eq_some_iff.1 Is.comp
  obtain ⟨j, hj, hjs⟩ := Option.map_eq_some_iff.1 Is.size
  have h8 := @run_callFunc_extern Tryd.prog 40 _ Extern.ReflectliteType.typeOf Tryd.func40 (by kernel_rfl) (by kernel_rfl) (by kernel_rfl) (by kernel_rfl)
  have h32 := @run_callFunc_extern Tryd.prog 102 _ Is.cmp Tryd.func102 (by kernel_rfl) (by kernel_rfl) (by kernel_rfl) (by kernel_rfl)
  have tT := Is.typeOf
  have cT := Is.comparable
  have mR := Is.methodComparable
  have nE := Is.noIs
  have uE := Is.noUnwrap
  have vE := Is.noUnwraps
  have heq := run_eql_iface_ptr_other (P := Tryd.prog) w Tryd.underlying25 Tryd.underlying137 hi hcmp hj (by rw [hjs]; decide) hne ha hb
  go_enter Tryd.func24, Tryd.ntmps24
  go_wp2
  refine wp_loop_rounds 1 ?_
  rw [rounds_succ]
  go_wp2
  go_ret
  exact ⟨rfl, rfl⟩
theorem isC : Go.Eng.IsC Tryd.prog 24 137 := ⟨is_same, is_nil, is_other⟩
end Go.Proofs.YticipjjhbebegaaDoor
namespace Go.Eng
open Go
theorem iterO_for {σ τ : Type} {f : σ → Option (σ ⊕ τ)} {r : τ} (st : Nat → σ) : ∀ (n : Nat) {N k : Nat}, n < N → (∀ i, k ≤ i → i < k + n → f (st i) = some (.inl (st (i + 1)))) → f (st (k + n)) = some (.inr r) → iterO N f (st k) = some r
  | 0, 0, _, h, _, _ => absurd h (Nat.not_lt_zero _)
  | 0, N + 1, k, _, _, he => by simp only [iterO]; rw [show f (st k) = _ from he]
  | n + 1, 0, _, h, _, _ => absurd h (Nat.not_lt_zero _)
  | n + 1, N + 1, k, h, hs, he => by
    simp only [iterO]
    rw [hs k (Nat.le_refl _) (by omega)]
    exact iterO_for st n (by omega) (fun i h1 h2 => hs i (by omega) (by omega)) (by rw [show k + 1 + n = k + (n + 1) by omega]; exact he)
theorem iterO_for0 {σ τ : Type} {f : σ → Option (σ ⊕ τ)} {r : τ} {s : σ} (st : Nat → σ) (n : Nat) {N : Nat} (h0 : st 0 = s) (hN : n < N) (hs : ∀ i, i < n → f (st i) = some (.inl (st (i + 1)))) (he : f (st n) = some (.inr r)) : iterO N f s = some r := by
  subst h0
  exact iterO_for st n hN (fun i _ h => hs i (by omega)) (by rw [Nat.zero_add]; exact he)
theorem iterO_while {σ τ : Type} {f : σ → Option (σ ⊕ τ)} (I : σ → Prop) (μ : σ → Nat) (Q : τ → Prop) (step : ∀ s, I s → (∃ s', f s = some (.inl s') ∧ I s' ∧ μ s' < μ s) ∨ ∃ r, f s = some (.inr r) ∧ Q r) :
    ∀ {N : Nat} {s : σ}, I s → μ s < N → ∃ r, iterO N f s = some r ∧ Q r
  | 0, _, _, h => absurd h (Nat.not_lt_zero _)
  | N + 1, s, hI, h => by
    rcases step s hI with ⟨s', h1, h2, h3⟩ | ⟨r, h1, h2⟩
    · obtain ⟨r, h4, h5⟩ := iterO_while I μ Q step (N := N) h2 (by omega)
      exact ⟨r, by simp only [iterO, h1]; exact h4, h5⟩
    · exact ⟨r, by simp only [iterO, h1], h2⟩
theorem wrap64 {x : Int} (h1 : -9223372036854775808 ≤ x) (h2 : x ≤ 9223372036854775807) : IntKind.wrap .i64 x = x := by
  simp only [IntKind.wrap, IntKind.signed, IntKind.bits]
  simp
  omega
theorem w64_succ {n : Nat} (h : n < 9223372036854775807) : w64 ((n : Int) + 1) = ((n + 1 : Nat) : Int) := by
  rw [w64, wrap64] <;> omega
theorem idx_nat {α : Type} {xs : List α} {i : Nat} (h : i < xs.length) : idx xs (i : Int) = some xs[i] := by simp [idx, h]
theorem idx_of {α : Type} {xs : List α} {i : Nat} {x : α} (h : xs[i]? = some x) : idx xs (i : Int) = some x := by simp [idx, h]
theorem setI_nat {α : Type} {xs : List α} {i : Nat} {x : α} (h : i < xs.length) : setI xs (i : Int) x = some (xs.set i x) := by simp [setI, h]
theorem app_eq {α : Type} {xs ys : List α} (h : xs.length + ys.length ≤ 4294967296) : app xs ys = some (xs ++ ys) := by simp [app, h]
theorem mk_eq {α : Type} {z : α} {n : Nat} (h : n ≤ 4294967296) : mk z (n : Int) = some (List.replicate n z) := by
  simp [mk]; omega
/-- a loop over xs that leaves with g at the first element that p fits -/
theorem loop_find {α τ : Type} {f : Int → Option (Int ⊕ (Unit ⊕ τ))} (xs : List α) (p : α → Bool) (g : Nat → τ) {N : Nat} (hN : xs.length < N)
    (hb : ∀ (i : Nat) (x : α), xs[i]? = some x → f (i : Int) = if p x then some (.inr (.inr (g i))) else some (.inl ((i + 1 : Nat) : Int))) (he : f (xs.length : Int) = some (.inr (.inl ()))) :
    iterO N f 0 = some (match xs.findIdx? p with | some i => .inr (g i) | none => .inl ()) := by
  cases h : xs.findIdx? p with
  | none =>
    have h' := List.findIdx?_eq_none_iff.1 h
    refine iterO_for0 (fun i => (i : Int)) xs.length rfl hN (fun i hi => ?_) he
    rw [hb i xs[i] (List.getElem?_eq_getElem hi), h' _ (List.getElem_mem hi)]
    simp
  | some k =>
    obtain ⟨hk, hp, hlt⟩ := List.findIdx?_eq_some_iff_getElem.1 h
    refine iterO_for0 (fun i => (i : Int)) k rfl (by omega) (fun i hi => ?_) ?_
    · rw [hb i _ (List.getElem?_eq_getElem (by omega))]
      have := hlt i hi
      simp [this]
    · rw [hb k _ (List.getElem?_eq_getElem hk)]
      simp [hp]
end Go.Eng
namespace Go.Proofs.YticipjjhbebegaaDoor
open Go Go.Eng
set_option maxRecDepth 100000
/-- bytes -/
def Bys (l : List Int) : Prop := ∀ c ∈ l, 0 ≤ c ∧ c < 256
theorem ba_ext {a b : ByteArray} (h : a.data.toList = b.data.toList) : a = b := by
  obtain ⟨⟨a⟩⟩ := a
  obtain ⟨⟨b⟩⟩ := b
  simp at h
  rw [h]
theorem ba_toList (b : ByteArray) : b.toList = b.data.toList := by
  have go : ∀ (k i : Nat) (r : List UInt8), i + k = b.size → ByteArray.toList.loop b i r = r.reverse ++ b.data.toList.drop i := by
    intro k
    induction k with
    | zero =>
      intro i r h
      unfold ByteArray.toList.loop
      rw [if_neg (by omega), List.drop_of_length_le (by have : b.data.toList.length = b.size := by rw [Array.length_toList]; rfl
                                                        omega), List.append_nil]
    | succ k ih =>
      intro i r h
      unfold ByteArray.toList.loop
      have hl : b.data.toList.length = b.size := by rw [Array.length_toList]; rfl
      have hi : i < b.data.toList.length := by omega
      rw [if_pos (by omega), ih (i + 1) _ (by omega), List.drop_eq_getElem_cons hi, List.reverse_cons, List.append_assoc]
      have : b.get! i = b.data.toList[i] := by
        have hi' : i < b.data.size := by simpa using hi
        show b.data[i]! = _
        rw [getElem!_pos b.data i hi']
        simp
      rw [this]
      rfl
  have := go b.size 0 [] (by omega)
  simpa [ByteArray.toList] using this
theorem bstr_data (l : List Int) : (bstr l).data.toList = l.map fun c => UInt8.ofNat c.toNat := by
  have go : ∀ (l : List Int) (r : ByteArray), (l.foldl (fun r n => r.push (UInt8.ofNat n.toNat)) r).data.toList = r.data.toList ++ l.map fun c => UInt8.ofNat c.toNat := by
    intro l
    induction l with
    | nil => intro r; simp
    | cons c l ih =>
      intro r
      rw [List.foldl_cons, ih]
      simp [ByteArray.push]
  have := go l ByteArray.empty
  simpa [bstr] using this
theorem u8_back {c : Int} (h : 0 ≤ c ∧ c < 256) : (((UInt8.ofNat c.toNat).toNat : Nat) : Int) = c := by
  rw [UInt8.toNat_ofNat']
  omega
theorem sby_bstr {l : List Int} (h : Bys l) : sby (bstr l) = l := by
  unfold sby
  rw [bstr_data, List.map_map]
  have : ∀ c ∈ l, ((fun u : UInt8 => ((u.toNat : Nat) : Int)) ∘ fun c : Int => UInt8.ofNat c.toNat) c = c := fun c hc => u8_back (h c hc)
  rw [List.map_congr_left this]
  simp
theorem bys_sby (b : ByteArray) : Bys (sby b) := by
  intro c hc
  obtain ⟨u, _, rfl⟩ := List.mem_map.1 hc
  have := u.toNat_lt
  omega
theorem bstr_sby (b : ByteArray) : bstr (sby b) = b := by
  refine ba_ext ?_
  rw [bstr_data, sby, List.map_map]
  have : ∀ u ∈ b.data.toList, ((fun c : Int => UInt8.ofNat c.toNat) ∘ fun u : UInt8 => ((u.toNat : Nat) : Int)) u = u := fun u _ => by simp
  rw [List.map_congr_left this]
  simp
theorem bstr_size (l : List Int) : (bstr l).size = l.length := by
  have : (bstr l).size = (bstr l).data.toList.length := by rw [Array.length_toList]; rfl
  rw [this, bstr_data, List.length_map]
theorem bstr_append (a b : List Int) : bstr a ++ bstr b = bstr (a ++ b) := by
  refine ba_ext ?_
  rw [ByteArray.data_append, Array.toList_append, bstr_data, bstr_data, bstr_data, List.map_append]
theorem bstr_inj {a b : List Int} (ha : Bys a) (hb : Bys b) : (bstr a).toList = (bstr b).toList ↔ a = b := by
  rw [ba_toList, ba_toList]
  constructor
  · intro h
    have := ba_ext h
    rw [← sby_bstr ha, ← sby_bstr hb, this]
  · rintro rfl; rfl
theorem scat_bstr {a b : List Int} (h : a.length + b.length ≤ 4294967296) : scat (bstr a) (bstr b) = some (bstr (a ++ b)) := by
  unfold scat
  rw [bstr_size, bstr_size, if_pos h, bstr_append]
theorem sidx_bstr {l : List Int} (h : Bys l) (i : Int) : sidx (bstr l) i = idx l i := by
  unfold sidx idx
  split
  · rw [bstr_data, List.getElem?_map, Option.map_map]
    cases hx : l[i.toNat]? with
    | none => rfl
    | some c => simp only [Option.map_some, Function.comp_def]; rw [u8_back (h c (List.mem_of_getElem? hx))]
  · rfl
theorem sslc_bstr {l : List Int} {lo hi : Nat} (h1 : lo ≤ hi) (h2 : hi ≤ l.length) : sslc (bstr l) (lo : Int) (hi : Int) = some (bstr ((l.take hi).drop lo)) := by
  unfold sslc
  rw [bstr_size, if_pos (by omega)]
  refine congrArg some (ba_ext ?_)
  rw [bstr_data]
  show ((bstr l).extract lo hi).data.toList = _
  rw [ByteArray.data_extract, Array.toList_extract, List.extract_eq_take_drop, bstr_data]
  rw [← List.map_drop, ← List.map_take, List.drop_take]
theorem bstr_nil : bstr [] = ByteArray.empty := rfl
end Go.Proofs.YticipjjhbebegaaDoor
namespace Go.Proofs.YticipjjhbebegaaDoor
open Go Go.Eng
set_option maxRecDepth 100000
/-- a number's figures -/
def dg (m : Nat) : List Int := if m < 10 then [48 + (m : Int)] else dg (m / 10) ++ [48 + ((m % 10 : Nat) : Int)]
termination_by m
decreasing_by omega
theorem dg_small {m : Nat} (h : m < 10) : dg m = [48 + (m : Int)] := by rw [dg, if_pos h]
theorem dg_big {m : Nat} (h : ¬ m < 10) : dg m = dg (m / 10) ++ [48 + ((m % 10 : Nat) : Int)] := by rw [dg, if_neg h]
theorem dg_digits (m : Nat) : ∀ c ∈ dg m, 48 ≤ c ∧ c ≤ 57 := by
  induction m using Nat.strongRecOn with
  | ind m ih =>
    intro c hc
    by_cases h : m < 10
    · rw [dg_small h] at hc; simp at hc; omega
    · rw [dg_big h] at hc
      rcases List.mem_append.1 hc with hc | hc
      · exact ih _ (by omega) c hc
      · simp at hc; omega
theorem dg_len {m k : Nat} : m < 10 ^ (k + 1) → (dg m).length ≤ k + 1 := by
  induction k generalizing m with
  | zero => intro h; rw [dg_small (by simpa using h)]; simp
  | succ k ih =>
    intro h
    by_cases hm : m < 10
    · rw [dg_small hm]; simp
    · rw [dg_big hm, List.length_append, List.length_singleton]
      have := ih (m := m / 10) (by rw [Nat.pow_succ] at h; omega)
      omega
theorem dg_pos (m : Nat) : 1 ≤ (dg m).length := by
  by_cases h : m < 10
  · rw [dg_small h]; simp
  · rw [dg_big h]; simp
/-- with its sign -/
def num (n : Int) : List Int := if n < 0 then 45 :: dg n.natAbs else dg n.natAbs
theorem num_bys (n : Int) : Bys (num n) := by
  intro c hc
  unfold num at hc
  split at hc
  · rcases List.mem_cons.1 hc with rfl | hc
    · omega
    · have := dg_digits _ c hc; omega
  · have := dg_digits _ c hc; omega
/-- what is still to come, the least figure first -/
def rdg (k : Int) : List Int := if k = 0 then [] else (dg k.natAbs).reverse
theorem natAbs_tdiv (k : Int) : (k.tdiv 10).natAbs = k.natAbs / 10 := Int.natAbs_tdiv k 10
theorem natAbs_tmod (k : Int) : (k.tmod 10).natAbs = k.natAbs % 10 := by rw [Int.natAbs_tmod]; rfl
theorem rdg_step (k : Int) : (dg k.natAbs).reverse = (48 + ((k.tmod 10).natAbs : Int)) :: rdg (k.tdiv 10) := by
  rw [natAbs_tmod]
  unfold rdg
  have h0 : k.tdiv 10 = 0 ↔ k.natAbs < 10 := by rw [← Int.natAbs_eq_zero, natAbs_tdiv]; omega
  by_cases h : k.natAbs < 10
  · rw [if_pos (h0.2 h), dg_small h, Nat.mod_eq_of_lt h]; rfl
  · rw [if_neg (fun q => h (h0.1 q)), natAbs_tdiv, dg_big h, List.reverse_append]; rfl
section
variable {N : Nat}
theorem digit_spec (d : Int) (h : d.natAbs < 10) : F_script_Numeral_1 N d = some (48 + (d.natAbs : Int)) := by
  unfold F_script_Numeral_1
  have e1 : w64 (0 - d) = -d := by rw [w64, wrap64] <;> omega
  have e2 : imax d (-d) = (d.natAbs : Int) := by
    unfold imax
    first
      | (split <;> omega)
      | omega
  rw [e1, e2]
  have e3 : w64 (48 + (d.natAbs : Int)) = 48 + (d.natAbs : Int) := by rw [w64, wrap64] <;> omega
  rw [e3]
  congr 1
  simp [IntKind.wrap, IntKind.signed, IntKind.bits]
  omega
theorem numeral_loop (hN : 4294967296 ≤ N) {n : Int} (h1 : -9223372036854775808 ≤ n) (h2 : n ≤ 9223372036854775807) :
    iterO N (fun s => F_script_Numeral_l0 N s.1 s.2) ([48 + ((n.tmod 10).natAbs : Int)], w64 (n.tdiv 10)) = some (dg n.natAbs).reverse := by
  have hlen : (dg n.natAbs).length ≤ 20 := dg_len (k := 19) (by omega)
  have hd : n.tdiv 10 ≤ 922337203685477580 ∧ -922337203685477580 ≤ n.tdiv 10 := by
    have := natAbs_tdiv n
    omega
  have ew : w64 (n.tdiv 10) = n.tdiv 10 := by rw [w64, wrap64] <;> omega
  rw [ew]
  obtain ⟨r, hr, hq⟩ := iterO_while (f := fun s => F_script_Numeral_l0 N s.1 s.2) (fun s => s.1 ++ rdg s.2 = (dg n.natAbs).reverse ∧ s.2.natAbs ≤ 922337203685477580) (fun s => s.2.natAbs * 0 + (20 - s.1.length) + (if s.2 = 0 then 0 else 1)) (fun r => r = (dg n.natAbs).reverse) (fun s hI => by
      obtain ⟨out, k⟩ := s
      obtain ⟨i1, i2⟩ := hI
      simp only at i1 i2
      by_cases hk : k = 0
      · right
        subst hk
        refine ⟨out, by unfold F_script_Numeral_l0; simp, ?_⟩
        simpa [rdg] using i1
      · left
        have hkb : (k != 0) = true := by simpa using hk
        have htm : (k.tmod 10).natAbs < 10 := by rw [natAbs_tmod]; omega
        have hl := congrArg List.length i1
        rw [List.length_append, List.length_reverse] at hl
        have hrl : 1 ≤ (rdg k).length := by rw [rdg, if_neg hk, List.length_reverse]; exact dg_pos _
        have htd : (k.tdiv 10).natAbs ≤ 922337203685477580 := by rw [natAbs_tdiv]; omega
        have ew2 : w64 (k.tdiv 10) = k.tdiv 10 := by rw [w64, wrap64] <;> omega
        refine ⟨(out ++ [48 + ((k.tmod 10).natAbs : Int)], k.tdiv 10), ?_, ⟨?_, htd⟩, ?_⟩
        · unfold F_script_Numeral_l0
          simp only [hkb, if_true, digit_spec _ htm, bind, Option.bind_some]
          rw [app_eq (by rw [List.length_singleton]; omega)]
          simp only [Option.bind_some, ew2]
        · show (out ++ [48 + ((k.tmod 10).natAbs : Int)]) ++ rdg (k.tdiv 10) = _
          have : rdg k = (dg k.natAbs).reverse := by rw [rdg, if_neg hk]
          rw [← i1, this, rdg_step, List.append_assoc]; rfl
        · simp only [List.length_append, List.length_singleton, if_neg hk]
          split <;> omega)
    (N := N) (s := ([48 + ((n.tmod 10).natAbs : Int)], n.tdiv 10)) ⟨by rw [rdg_step]; rfl, by simp only; omega⟩ (by simp only; split <;> omega)
  rw [hr, hq]
/-- a list is turned about in its place -/
theorem rev_spec {xs : List Int} (hN : 4294967296 ≤ N) (hl : xs.length < 2147483648) : F_slices_Reverse_byte_byte_1 N xs = some xs.reverse := by
  unfold F_slices_Reverse_byte_byte_1
  have key : ∃ r, iterO N (fun s => F_slices_Reverse_byte_byte_1_l0 N s.1 s.2.1 s.2.2) (xs, 0, w64 ((xs.length : Int) - 1)) = some r ∧ r = xs.reverse := by
    have ew : w64 ((xs.length : Int) - 1) = (xs.length : Int) - 1 := by rw [w64, wrap64] <;> omega
    rw [ew]
    refine iterO_while (f := fun s => F_slices_Reverse_byte_byte_1_l0 N s.1 s.2.1 s.2.2)
      (fun s => ∃ i : Nat, s.2.1 = (i : Int) ∧ s.2.2 = (xs.length : Int) - 1 - (i : Int) ∧ 2 * i ≤ xs.length + 1 ∧ s.1.length = xs.length ∧ ∀ p : Nat, p < xs.length → s.1[p]? = if p < i ∨ xs.length ≤ p + i then xs[xs.length - 1 - p]? else xs[p]?)
      (fun s => xs.length + 1 - s.2.1.toNat) (fun r => r = xs.reverse) (fun s hI => ?_) (N := N) (s := (xs, 0, (xs.length : Int) - 1)) ⟨0, rfl, by simp, by omega, rfl, fun p hp => by rw [if_neg (by omega)]⟩ (by simp; omega)
    obtain ⟨ys, a, b⟩ := s
    obtain ⟨i, rfl, rfl, i3, i4, i5⟩ := hI
    simp only at i4 i5
    by_cases hlt : (i : Int) < (xs.length : Int) - 1 - (i : Int)
    · left
      have hi : i < ys.length := by omega
      have hj : xs.length - 1 - i < ys.length := by omega
      have ej : (xs.length : Int) - 1 - (i : Int) = ((xs.length - 1 - i : Nat) : Int) := by omega
      rw [ej]
      have v1 : ys[i]? = xs[i]? := by rw [i5 i (by omega), if_neg (by omega)]
      have v2 : ys[xs.length - 1 - i]? = xs[xs.length - 1 - i]? := by rw [i5 _ (by omega), if_neg (by omega)]
      have x1 : ys[i]? = some ys[i] := List.getElem?_eq_getElem hi
      have x2 : ys[xs.length - 1 - i]? = some ys[xs.length - 1 - i] := List.getElem?_eq_getElem hj
      have hj2 : xs.length - 1 - i < (ys.set i ys[xs.length - 1 - i]).length := by simpa using hj
      refine ⟨((ys.set i ys[xs.length - 1 - i]).set (xs.length - 1 - i) ys[i], ((i + 1 : Nat) : Int), ((xs.length - 1 - i : Nat) : Int) - 1), ?_, ⟨i + 1, rfl, by simp only; omega, by omega, by simpa using i4, fun p hp => ?_⟩, by simp only; omega⟩
      · unfold F_slices_Reverse_byte_byte_1_l0
        simp only [show (i : Int) < ((xs.length - 1 - i : Nat) : Int) by omega, decide_true, if_true, idx_nat hi, idx_nat hj, setI_nat hi, idx_nat hj2, setI_nat hj2, bind, Option.bind_some]
        rw [w64_succ (by omega), show w64 (((xs.length - 1 - i : Nat) : Int) - 1) = ((xs.length - 1 - i : Nat) : Int) - 1 by rw [w64, wrap64] <;> omega]
      · by_cases h1 : p = xs.length - 1 - i
        · subst h1
          rw [List.getElem?_set_self hj2, if_pos (by omega), ← x1, v1, show xs.length - 1 - (xs.length - 1 - i) = i by omega]
        · rw [List.getElem?_set_ne (by omega)]
          by_cases h2 : p = i
          · subst h2
            rw [List.getElem?_set_self hi, if_pos (by omega), ← x2, v2]
          · rw [List.getElem?_set_ne (by omega), i5 p hp]
            by_cases h3 : p < i ∨ xs.length ≤ p + i
            · rw [if_pos h3, if_pos (by omega)]
            · rw [if_neg h3, if_neg (by omega)]
    · right
      refine ⟨ys, by unfold F_slices_Reverse_byte_byte_1_l0; simp [hlt], List.ext_getElem? fun p => ?_⟩
      by_cases hp : p < xs.length
      · rw [i5 p hp, List.getElem?_reverse hp]
        by_cases h3 : p < i ∨ xs.length ≤ p + i
        · rw [if_pos h3]
        · rw [if_neg h3, show xs.length - 1 - p = p by omega]
      · rw [List.getElem?_eq_none (by omega), List.getElem?_eq_none (by simp; omega)]
  obtain ⟨r, hr, rfl⟩ := key
  rw [hr]
  rfl
theorem numeral_spec (hN : 4294967296 ≤ N) {n : Int} (h1 : -9223372036854775808 ≤ n) (h2 : n ≤ 9223372036854775807) : F_script_Numeral N n = some (bstr (num n)) := by
  have hlen : (dg n.natAbs).length ≤ 20 := dg_len (k := 19) (by omega)
  unfold F_script_Numeral
  have htm : (n.tmod 10).natAbs < 10 := by rw [natAbs_tmod]; omega
  simp only [digit_spec _ htm, bind, Option.bind_some]
  rw [numeral_loop hN h1 h2]
  simp only [Option.bind_some]
  by_cases hn : n < 0
  · simp only [hn, decide_true, if_true]
    rw [app_eq (by rw [List.length_reverse, List.length_singleton]; omega)]
    simp only [Option.bind_some]
    rw [rev_spec hN (by rw [List.length_append, List.length_reverse, List.length_singleton]; omega)]
    simp [num, hn]
  · simp only [hn, decide_false, Bool.false_eq_true, if_false, Option.bind_some]
    rw [rev_spec hN (by rw [List.length_reverse]; omega)]
    simp [num, hn]
end
end Go.Proofs.YticipjjhbebegaaDoor
namespace Go.Proofs.YticipjjhbebegaaDoor
open Go Go.Eng
set_option maxRecDepth 100000
/-- the number of figures -/
def vl (l : List Int) : Nat := l.foldl (fun a c => 10 * a + (c.toNat - 48)) 0
theorem vl_snoc (l : List Int) (c : Int) : vl (l ++ [c]) = 10 * vl l + (c.toNat - 48) := by simp [vl]
def Dgs (l : List Int) : Prop := ∀ c ∈ l, 48 ≤ c ∧ c ≤ 57
theorem Dgs.take {l : List Int} (h : Dgs l) (k : Nat) : Dgs (l.take k) := fun c hc => h c (List.mem_of_mem_take hc)
theorem snoc_rec {P : List Int → Prop} (h0 : P []) (h1 : ∀ t c, P t → P (t ++ [c])) : ∀ t, P t := by
  have key : ∀ (n : Nat) (t : List Int), t.length = n → P t := by
    intro n
    induction n with
    | zero => intro t h; rw [List.length_eq_zero_iff.1 h]; exact h0
    | succ n ih =>
      intro t h
      have hne : t ≠ [] := fun e => by subst e; simp at h
      rw [← List.dropLast_concat_getLast hne]
      exact h1 _ _ (ih _ (by rw [List.length_dropLast]; omega))
  exact fun t => key _ t rfl
theorem vl_lt {l : List Int} : Dgs l → vl l < 10 ^ l.length := by
  refine snoc_rec (P := fun l => Dgs l → vl l < 10 ^ l.length) (fun _ => by simp [vl]) (fun t c ih h => ?_) l
  have h1 := ih fun x hx => h x (by simp [hx])
  have h2 := h c (by simp)
  rw [vl_snoc, List.length_append, List.length_singleton, Nat.pow_succ]
  omega
/-- no needless nought ahead -/
def Can (l : List Int) : Prop := l ≠ [] ∧ (l[0]? = some 48 → l.length = 1)
theorem can_dg (m : Nat) : Can (dg m) ∧ (0 < m → (dg m)[0]? ≠ some 48) := by
  induction m using Nat.strongRecOn with
  | ind m ih =>
    by_cases h : m < 10
    · rw [dg_small h]
      refine ⟨⟨by simp, fun _ => rfl⟩, fun h0 q => ?_⟩
      simp at q
      omega
    · obtain ⟨h1, h2⟩ := ih (m / 10) (by omega)
      have hp := dg_pos (m / 10)
      have e : (dg m)[0]? = (dg (m / 10))[0]? := by rw [dg_big h, List.getElem?_append_left (by omega)]
      have h3 := h2 (by omega)
      refine ⟨⟨fun q => by have := dg_pos m; rw [q] at this; simp at this, fun q => ?_⟩, fun _ => by rw [e]; exact h3⟩
      rw [e] at q
      exact absurd q h3
/-- figures without a needless nought are their number's -/
theorem dg_vl {l : List Int} : Dgs l → Can l → dg (vl l) = l := by
  refine snoc_rec (P := fun l => Dgs l → Can l → dg (vl l) = l) (fun _ h => absurd rfl h.1) (fun t c ih hd hc => ?_) l
  have h2 := hd c (by simp)
  have hd' : Dgs t := fun x hx => hd x (by simp [hx])
  by_cases ht : t = []
  · subst ht
    have e : vl ([] ++ [c]) = c.toNat - 48 := by simp [vl]
    rw [e, dg_small (by omega)]
    simp
    omega
  · have hl : 0 < t.length := List.length_pos_iff.2 ht
    have h0 : (t ++ [c])[0]? = t[0]? := List.getElem?_append_left hl
    have hne : t[0]? ≠ some 48 := fun q => by
      have := hc.2 (h0.trans q)
      rw [List.length_append, List.length_singleton] at this
      omega
    have ih' := ih hd' ⟨ht, fun q => absurd q hne⟩
    have hv : 1 ≤ vl t := by
      refine Classical.byContradiction fun q => ?_
      have h3 : vl t = 0 := by omega
      rw [h3] at ih'
      have : (dg 0)[0]? = some 48 := by rw [dg_small (by decide)]; rfl
      rw [ih'] at this
      exact hne this
    rw [vl_snoc, dg_big (by omega), show (10 * vl t + (c.toNat - 48)) / 10 = vl t by omega, ih', show (10 * vl t + (c.toNat - 48)) % 10 = c.toNat - 48 by omega]
    congr 2
    omega
/-- a word that is a number: a sign that may be, figures -/
def neg (s : List Int) : Bool := s[0]? == some 45
def rest (s : List Int) : List Int := if neg s = true then s.drop 1 else s
/-- which words are numbers -/
def IsNum (s : List Int) : Prop := Dgs (rest s) ∧ Can (rest s) ∧ (rest s).length ≤ 9 ∧ (neg s = true → (rest s)[0]? ≠ some 48)
def nval (s : List Int) : Int := if neg s = true then -(vl (rest s) : Int) else (vl (rest s) : Int)
theorem neg_cons {s : List Int} (h : neg s = true) : s = 45 :: s.drop 1 := by
  cases s with
  | nil => simp [neg] at h
  | cons a s => simp [neg] at h; subst h; rfl
/-- a word of at most nine figures is the numeral of its value just if it is a number -/
theorem num_iff {s : List Int} (hd : Dgs (rest s)) (h9 : (rest s).length ≤ 9) : (rest s ≠ [] ∧ num (nval s) = s) ↔ IsNum s := by
  unfold nval IsNum
  cases hn : neg s with
  | false =>
    have er : rest s = s := by rw [rest, if_neg (by simp [hn])]
    simp only [Bool.false_eq_true, if_false]
    rw [er] at hd h9 ⊢
    have e : num (vl s : Int) = dg (vl s) := by rw [num, if_neg (by omega), Int.natAbs_natCast]
    rw [e]
    constructor
    · rintro ⟨h1, h2⟩
      exact ⟨hd, h2 ▸ (can_dg _).1, h9, fun q => by cases q⟩
    · rintro ⟨_, h2, _, _⟩
      exact ⟨h2.1, dg_vl hd h2⟩
  | true =>
    have ec := neg_cons hn
    have er : rest s = s.drop 1 := by rw [rest, if_pos hn]
    simp only [if_true]
    rw [er] at hd h9 ⊢
    generalize s.drop 1 = r at *
    subst ec
    constructor
    · rintro ⟨h1, h2⟩
      have hv : 0 < vl r := by
        refine Classical.byContradiction fun q => ?_
        have h3 : vl r = 0 := by omega
        rw [h3] at h2
        have e0 : num (-((0 : Nat) : Int)) = [48] := by simp [num, dg_small]
        rw [e0] at h2
        injection h2 with h4 _
        omega
      have e : num (-(vl r : Int)) = 45 :: dg (vl r) := by rw [num, if_pos (by omega), Int.natAbs_neg, Int.natAbs_natCast]
      rw [e] at h2
      injection h2 with _ h2
      exact ⟨hd, h2 ▸ (can_dg _).1, h9, fun _ => h2 ▸ (can_dg _).2 hv⟩
    · rintro ⟨_, h2, _, h4⟩
      have hv : 0 < vl r := by
        refine Classical.byContradiction fun q => ?_
        have h3 : vl r = 0 := by omega
        have := dg_vl hd h2
        rw [h3] at this
        have h5 : (dg 0)[0]? = some 48 := by rw [dg_small (by decide)]; rfl
        rw [this] at h5
        exact h4 trivial h5
      have e : num (-(vl r : Int)) = 45 :: dg (vl r) := by rw [num, if_pos (by omega), Int.natAbs_neg, Int.natAbs_natCast]
      rw [e, dg_vl hd h2]
      exact ⟨h2.1, rfl⟩
end Go.Proofs.YticipjjhbebegaaDoor
namespace Go.Proofs.YticipjjhbebegaaDoor
open Go Go.Eng
set_option maxRecDepth 100000
theorem least' {P : Nat → Prop} : ∀ {n : Nat}, P n → ∃ k, k ≤ n ∧ P k ∧ ∀ j, j < k → ¬ P j := by
  intro n
  induction n using Nat.strongRecOn with
  | ind n ih =>
    intro h
    by_cases hc : ∃ j, j < n ∧ P j
    · obtain ⟨j, h1, h2⟩ := hc
      obtain ⟨k, k1, k2, k3⟩ := ih j h1 h2
      exact ⟨k, by omega, k2, k3⟩
    · exact ⟨n, Nat.le_refl _, h, fun j hj hp => hc ⟨j, hj, hp⟩⟩
theorem bys_rest {l : List Int} (h : Bys l) : Bys (rest l) := by
  unfold rest
  split
  · exact fun c hc => h c (List.mem_of_mem_drop hc)
  · exact h
theorem vl_take {r : List Int} {i : Nat} {c : Int} (hx : r[i]? = some c) : vl (r.take (i + 1)) = 10 * vl (r.take i) + (c.toNat - 48) := by
  rw [List.take_add_one, hx]
  exact vl_snoc _ _
section
variable {N : Nat}
theorem cut_spec {l : List Int} (h : Bys l) : F_strings_CutPrefix N (bstr l) = some (bstr (rest l), neg l) := by
  unfold F_strings_CutPrefix F_internal_stringslite_CutPrefix F_internal_stringslite_HasPrefix
  rw [bstr_size]
  cases l with
  | nil => simp [rest, neg]
  | cons a l =>
    have e1 : sslc (bstr (a :: l)) 0 1 = some (bstr [a]) := by
      have := sslc_bstr (l := a :: l) (lo := 0) (hi := 1) (by omega) (by simp)
      simpa using this
    have e2 : sslc (bstr (a :: l)) 1 ((a :: l).length : Int) = some (bstr l) := by
      have := sslc_bstr (l := a :: l) (lo := 1) (hi := (a :: l).length) (by simp) (Nat.le_refl _)
      rw [List.take_length] at this
      exact this
    have e3 : ((bstr [a]).toList == (⟨#[45]⟩ : ByteArray).toList) = (a == 45) := by
      rw [show (⟨#[45]⟩ : ByteArray) = bstr [45] from ba_ext (by rw [bstr_data]; rfl)]
      rw [Bool.eq_iff_iff, beq_iff_eq, beq_iff_eq, bstr_inj (fun c hc => by simp at hc; subst hc; exact h c (by simp)) (fun c hc => by simp at hc; omega)]
      simp
    have hl : ((a :: l).length : Int) ≥ 1 := by simp only [List.length_cons]; omega
    simp only [hl, decide_true, if_true, e1, e3, bind, Option.bind_some]
    by_cases ha : a = 45
    · subst ha
      simp only [beq_self_eq_true, Bool.not_true, Bool.false_eq_true, if_false, e2, Option.bind_some]
      simp [rest, neg]
    · have : (a == 45) = false := by simpa using ha
      simp only [this, Bool.not_false, if_true]
      simp [rest, neg, ha]
open Classical in
theorem number_loop {r : List Int} (hN : 4294967296 ≤ N) (h : Bys r) (hl : r.length < 1000000) :
    iterO N (fun s => F_script_Number_l0 N (bstr r) s.1 s.2) (0, 0) = some (if Dgs r ∧ r.length ≤ 9 then .inl (vl r : Int) else .inr (0, 1)) := by
  have step : ∀ (i : Nat) (c : Int), r[i]? = some c → F_script_Number_l0 N (bstr r) (i : Int) (vl (r.take i) : Int) = if 48 ≤ c ∧ c ≤ 57 ∧ i < 9 then (if vl (r.take i) < 1000000000 then some (.inl (((i + 1 : Nat) : Int), (vl (r.take (i + 1)) : Int))) else F_script_Number_l0 N (bstr r) (i : Int) (vl (r.take i) : Int)) else some (.inr (.inr (0, 1))) := by
    intro i c hx
    have hi := (List.getElem?_eq_some_iff.1 hx).1
    have hcb := h c (List.mem_of_getElem? hx)
    have gs : sidx (bstr r) (i : Int) = some c := by rw [sidx_bstr h]; exact idx_of hx
    by_cases hc : 48 ≤ c ∧ c ≤ 57 ∧ i < 9
    · rw [if_pos hc]
      by_cases hv : vl (r.take i) < 1000000000
      · rw [if_pos hv]
        unfold F_script_Number_l0
        have e1 : IntKind.wrap .u8 (c - 48) = c - 48 := by simp [IntKind.wrap, IntKind.signed, IntKind.bits]; omega
        have e2 : IntKind.wrap .i64 (c - 48) = c - 48 := by rw [wrap64] <;> omega
        have e3 : w64 (10 * (vl (r.take i) : Int)) = 10 * (vl (r.take i) : Int) := by rw [w64, wrap64] <;> omega
        simp only [bstr_size, show ((i : Int) < (r.length : Int)) by omega, decide_true, if_true, gs, show ¬ c < 48 by omega, show ¬ c > 57 by omega, show ¬ (i : Int) ≥ 9 by omega, decide_false, Bool.false_eq_true, if_false, bind, Option.bind_some, e1, e2, e3]
        rw [w64_succ (by omega), show w64 (10 * (vl (r.take i) : Int) + (c - 48)) = 10 * (vl (r.take i) : Int) + (c - 48) by rw [w64, wrap64] <;> omega, vl_take hx]
        congr 4
        omega
      · rw [if_neg hv]
    · rw [if_neg hc]
      unfold F_script_Number_l0
      simp only [bstr_size, show ((i : Int) < (r.length : Int)) by omega, decide_true, if_true, gs, bind, Option.bind_some]
      by_cases h1 : c < 48
      · simp [h1]
      by_cases h2 : c > 57
      · simp [h1, h2]
      have h3 : (i : Int) ≥ 9 := by omega
      simp [h1, h2, h3]
  by_cases hg : Dgs r ∧ r.length ≤ 9
  · rw [if_pos hg]
    refine iterO_for0 (fun i => ((i : Int), (vl (r.take i) : Int))) r.length (by simp [vl]) (by omega) (fun i hi => ?_) ?_
    · have hx : r[i]? = some r[i] := List.getElem?_eq_getElem hi
      have hc := hg.1 _ (List.getElem_mem hi)
      have hv := vl_lt (hg.1.take i)
      have h9 : 10 ^ (r.take i).length ≤ 10 ^ 9 := Nat.pow_le_pow_right (by decide) (by rw [List.length_take]; omega)
      rw [step i _ hx, if_pos ⟨hc.1, hc.2, by omega⟩, if_pos (by omega)]
    · rw [List.take_length]
      unfold F_script_Number_l0
      simp [bstr_size]
  · rw [if_neg hg]
    have hex : ∃ p, p < r.length ∧ ¬ (48 ≤ r.getD p 0 ∧ r.getD p 0 ≤ 57 ∧ p < 9) := by
      refine Classical.byContradiction fun q => hg ⟨fun c hc => ?_, ?_⟩
      · obtain ⟨p, hp, rfl⟩ := List.getElem_of_mem hc
        refine Classical.byContradiction fun q2 => q ⟨p, hp, fun q3 => q2 ?_⟩
        rw [List.getD, List.getElem?_eq_getElem hp] at q3
        exact ⟨q3.1, q3.2.1⟩
      · refine Classical.byContradiction fun q2 => q ⟨9, by omega, fun q3 => ?_⟩
        omega
    obtain ⟨p0, hp0⟩ := hex
    obtain ⟨p, _, ⟨hp1, hp2⟩, hp3⟩ := least' (P := fun p => p < r.length ∧ ¬ (48 ≤ r.getD p 0 ∧ r.getD p 0 ≤ 57 ∧ p < 9)) hp0
    have gd : ∀ i, (hi : i < r.length) → r.getD i 0 = r[i] := fun i hi => by rw [List.getD, List.getElem?_eq_getElem hi]; rfl
    have good : ∀ i, i < p → 48 ≤ r.getD i 0 ∧ r.getD i 0 ≤ 57 ∧ i < 9 := fun i hi => Classical.byContradiction fun q => hp3 i hi ⟨by omega, q⟩
    refine iterO_for0 (fun i => ((i : Int), (vl (r.take i) : Int))) p (by simp [vl]) (by omega) (fun i hi => ?_) ?_
    · have hil : i < r.length := by omega
      have hx : r[i]? = some r[i] := List.getElem?_eq_getElem hil
      have hc := good i hi
      rw [gd i hil] at hc
      have hdg : Dgs (r.take i) := fun c hc => by
        obtain ⟨j, hj, rfl⟩ := List.getElem_of_mem hc
        rw [List.length_take] at hj
        have := good j (by omega)
        rw [gd j (by omega)] at this
        rw [List.getElem_take]
        exact ⟨this.1, this.2.1⟩
      have hv := vl_lt hdg
      have h9 : 10 ^ (r.take i).length ≤ 10 ^ 9 := Nat.pow_le_pow_right (by decide) (by rw [List.length_take]; omega)
      rw [step i _ hx, if_pos ⟨hc.1, hc.2.1, hc.2.2⟩, if_pos (by omega)]
    · have hx : r[p]? = some r[p] := List.getElem?_eq_getElem hp1
      rw [gd p hp1] at hp2
      rw [step p _ hx, if_neg hp2]
theorem nval_rng {l : List Int} (hd : Dgs (rest l)) (h9 : (rest l).length ≤ 9) : -1000000000 < nval l ∧ nval l < 1000000000 := by
  have hv := vl_lt hd
  have h9' : 10 ^ (rest l).length ≤ 10 ^ 9 := Nat.pow_le_pow_right (by decide) h9
  unfold nval
  split <;> omega
open Classical in
theorem number_spec {l : List Int} (hN : 4294967296 ≤ N) (h : Bys l) (hl : l.length < 1000000) : F_script_Number N (bstr l) = some (if IsNum l then (nval l, 0) else (0, 1)) := by
  have hrl : (rest l).length ≤ l.length := by
    unfold rest
    split
    · rw [List.length_drop]; omega
    · omega
  unfold F_script_Number
  simp only [cut_spec h, bind, Option.bind_some]
  rw [number_loop hN (bys_rest h) (by omega)]
  by_cases hg : Dgs (rest l) ∧ (rest l).length ≤ 9
  · obtain ⟨hd, h9⟩ := hg
    have hv := nval_rng hd h9
    rw [if_pos ⟨hd, h9⟩]
    simp only [Option.bind_some]
    have e1 : (if neg l = true then some (w64 (0 - (vl (rest l) : Int))) else some ((vl (rest l) : Int))) = some (nval l) := by
      unfold nval at hv ⊢
      split
      · rename_i hn
        rw [if_pos hn] at hv
        rw [show w64 (0 - (vl (rest l) : Int)) = -(vl (rest l) : Int) by rw [w64, wrap64] <;> omega]
      · rfl
    rw [e1]
    simp only [Option.bind_some, numeral_spec hN (n := nval l) (by omega) (by omega)]
    have e2 : (bstr (rest l)).toList = ByteArray.empty.toList ↔ rest l = [] := by
      rw [← bstr_nil, bstr_inj (bys_rest h) (fun c hc => by simp at hc)]
    have e3 : ((bstr (num (nval l))).toList != (bstr l).toList) = decide (num (nval l) ≠ l) := by
      rw [Bool.eq_iff_iff, bne_iff_ne, decide_eq_true_iff, Ne, bstr_inj (num_bys _) h]
    by_cases h0 : rest l = []
    · have hni : ¬ IsNum l := fun q => q.2.1.1 h0
      rw [if_pos (by rw [beq_iff_eq, e2]; exact h0), if_neg hni]
      rfl
    · rw [if_neg (by rw [beq_iff_eq, e2]; exact h0)]
      simp only [e3, Option.bind_some]
      have := num_iff hd h9
      by_cases hn : num (nval l) = l
      · rw [if_neg (by simpa using hn), if_pos (this.1 ⟨h0, hn⟩)]
      · rw [if_pos (by simpa using hn), if_neg (fun q => hn (this.2 q).2)]
  · have hni : ¬ IsNum l := fun q => hg ⟨q.1, q.2.2.1⟩
    rw [if_neg hg, if_neg hni]
    rfl
open Classical in
theorem refNumber_loop {l : List Int} {a : Nat} (hN : 4294967296 ≤ N) (h : Bys l) (hl : l.length < 1000000) (ha : a ≤ l.length) (h9 : l.length - a ≤ 9) :
    iterO N (fun s => F_dofferref36_Number_l0 N (bstr l) s.1 s.2) (0, (a : Int)) = some (if Dgs (l.drop a) then .inl (vl (l.drop a) : Int) else .inr (0, false)) := by
  have hdl : (l.drop a).length = l.length - a := List.length_drop
  have step : ∀ (i : Nat) (c : Int), (l.drop a)[i]? = some c → Dgs ((l.drop a).take i) → F_dofferref36_Number_l0 N (bstr l) (vl ((l.drop a).take i) : Int) ((a + i : Nat) : Int) = if 48 ≤ c ∧ c ≤ 57 then some (.inl ((vl ((l.drop a).take (i + 1)) : Int), ((a + (i + 1) : Nat) : Int))) else some (.inr (.inr (0, false))) := by
    intro i c hx hdt
    have hi := (List.getElem?_eq_some_iff.1 hx).1
    have hx' : l[a + i]? = some c := by rw [List.getElem?_drop] at hx; exact hx
    have hcb := h c (List.mem_of_getElem? hx')
    have gs : sidx (bstr l) ((a + i : Nat) : Int) = some c := by rw [sidx_bstr h]; exact idx_of hx'
    have hv := vl_lt hdt
    have h9' : 10 ^ ((l.drop a).take i).length ≤ 10 ^ 9 := Nat.pow_le_pow_right (by decide) (by rw [List.length_take]; omega)
    unfold F_dofferref36_Number_l0
    simp only [bstr_size, show (((a + i : Nat) : Int) < (l.length : Int)) by omega, decide_true, if_true, gs, bind, Option.bind_some]
    by_cases h1 : c < 48
    · simp [h1]
      intro
      omega
    by_cases h2 : c > 57
    · simp [h1, h2]
    have e1 : w64 ((vl ((l.drop a).take i) : Int) * 10) = (vl ((l.drop a).take i) : Int) * 10 := by rw [w64, wrap64] <;> omega
    have e2 : IntKind.wrap .i64 c = c := by rw [wrap64] <;> omega
    have e3 : w64 ((vl ((l.drop a).take i) : Int) * 10 + c) = (vl ((l.drop a).take i) : Int) * 10 + c := by rw [w64, wrap64] <;> omega
    simp only [h1, h2, decide_false, Bool.false_eq_true, if_false, Option.bind_some, e1, e2, e3]
    rw [if_pos (by omega), w64_succ (n := a + i) (by omega), show w64 ((vl ((l.drop a).take i) : Int) * 10 + c - 48) = (vl ((l.drop a).take i) : Int) * 10 + c - 48 by rw [w64, wrap64] <;> omega, vl_take hx]
    congr 3
    omega
  by_cases hg : Dgs (l.drop a)
  · rw [if_pos hg]
    refine iterO_for0 (fun i => ((vl ((l.drop a).take i) : Int), ((a + i : Nat) : Int))) (l.drop a).length (by simp [vl]) (by omega) (fun i hi => ?_) ?_
    · have hx : (l.drop a)[i]? = some (l.drop a)[i] := List.getElem?_eq_getElem hi
      have hc := hg _ (List.getElem_mem hi)
      rw [step i _ hx (hg.take i), if_pos hc]
    · rw [List.take_length]
      unfold F_dofferref36_Number_l0
      have : ¬ (((a + (l.drop a).length : Nat) : Int) < (l.length : Int)) := by omega
      simp only [bstr_size, this, decide_false, Bool.false_eq_true, if_false]
  · rw [if_neg hg]
    have hex : ∃ p, p < (l.drop a).length ∧ ¬ (48 ≤ (l.drop a).getD p 0 ∧ (l.drop a).getD p 0 ≤ 57) := by
      refine Classical.byContradiction fun q => hg fun c hc => ?_
      obtain ⟨p, hp, rfl⟩ := List.getElem_of_mem hc
      refine Classical.byContradiction fun q2 => q ⟨p, hp, fun q3 => q2 ?_⟩
      rw [List.getD, List.getElem?_eq_getElem hp] at q3
      exact q3
    obtain ⟨p0, hp0⟩ := hex
    obtain ⟨p, _, ⟨hp1, hp2⟩, hp3⟩ := least' (P := fun p => p < (l.drop a).length ∧ ¬ (48 ≤ (l.drop a).getD p 0 ∧ (l.drop a).getD p 0 ≤ 57)) hp0
    have gd : ∀ i, (hi : i < (l.drop a).length) → (l.drop a).getD i 0 = (l.drop a)[i] := fun i hi => by rw [List.getD, List.getElem?_eq_getElem hi]; rfl
    have good : ∀ i, i < p → 48 ≤ (l.drop a).getD i 0 ∧ (l.drop a).getD i 0 ≤ 57 := fun i hi => Classical.byContradiction fun q => hp3 i hi ⟨by omega, q⟩
    have hdt : ∀ i, i ≤ p → Dgs ((l.drop a).take i) := fun i hi c hc => by
      obtain ⟨j, hj, rfl⟩ := List.getElem_of_mem hc
      rw [List.length_take] at hj
      have := good j (by omega)
      rw [gd j (by omega)] at this
      rw [List.getElem_take]
      exact this
    refine iterO_for0 (fun i => ((vl ((l.drop a).take i) : Int), ((a + i : Nat) : Int))) p (by simp [vl]) (by omega) (fun i hi => ?_) ?_
    · have hil : i < (l.drop a).length := by omega
      have hx : (l.drop a)[i]? = some (l.drop a)[i] := List.getElem?_eq_getElem hil
      have hc := good i hi
      rw [gd i hil] at hc
      rw [step i _ hx (hdt i (by omega)), if_pos hc]
    · have hx : (l.drop a)[p]? = some (l.drop a)[p] := List.getElem?_eq_getElem hp1
      rw [gd p hp1] at hp2
      rw [step p _ hx (hdt p (Nat.le_refl _)), if_neg hp2]
open Classical in
theorem refNumber_spec {l : List Int} (hN : 4294967296 ≤ N) (h : Bys l) (hl : l.length < 1000000) : F_dofferref36_Number N (bstr l) = some (if IsNum l then (nval l, true) else (0, false)) := by
  have h0 : (if decide (((bstr l).size : Int) > 0) = true then (sidx (bstr l) 0).bind fun x => some (x == 45) else some false) = some (neg l) := by
    rw [bstr_size]
    cases l with
    | nil => rfl
    | cons a l =>
      have : sidx (bstr (a :: l)) 0 = some a := by
        have e := sidx_bstr h 0
        rw [e]
        rfl
      rw [if_pos (by simp only [List.length_cons, decide_eq_true_eq]; omega), this]
      simp [neg]
  unfold F_dofferref36_Number
  simp only [bind]
  rw [h0]
  simp only [Option.bind_some]
  -- the place behind the sign
  have main : ∀ (a : Nat) (sg : Int), rest l = l.drop a → a ≤ l.length → a = (if neg l = true then 1 else 0) → sg = (if neg l = true then -1 else 1) →
      ((if decide (w64 ((l.length : Int) - (a : Int)) < 1) = true then some true else if decide (w64 ((l.length : Int) - (a : Int)) > 9) = true then some true else
        (sidx (bstr l) (a : Int)).bind fun x101 => if (x101 == 48) = true then (if decide (w64 ((l.length : Int) - (a : Int)) > 1) = true then some true else some (decide (sg < 0))) else some false).bind fun x99 =>
        if x99 = true then some ((0 : Int), false) else (iterO N (fun s => F_dofferref36_Number_l0 N (bstr l) s.1 s.2) (0, (a : Int))).bind fun z => match z with
          | .inr z => some z
          | .inl x137 => some (w64 (x137 * sg), true)) = some (if IsNum l then (nval l, true) else (0, false)) := by
    intro a sg hr ha hna hsg
    have ew : w64 ((l.length : Int) - (a : Int)) = ((l.length - a : Nat) : Int) := by rw [w64, wrap64] <;> omega
    rw [ew]
    have hrl : (rest l).length = l.length - a := by rw [hr, List.length_drop]
    by_cases h1 : l.length - a < 1
    · have hni : ¬ IsNum l := fun q => by
        have := List.length_pos_iff.2 q.2.1.1
        omega
      simp only [show ((l.length - a : Nat) : Int) < 1 by omega, decide_true, if_true, Option.bind_some, if_neg hni]
    by_cases h2 : l.length - a > 9
    · have hni : ¬ IsNum l := fun q => by have := q.2.2.1; omega
      simp only [show ¬ ((l.length - a : Nat) : Int) < 1 by omega, show ((l.length - a : Nat) : Int) > 9 by omega, decide_true, decide_false, Bool.false_eq_true, if_false, if_true, Option.bind_some, if_neg hni]
    have hal : a < l.length := by omega
    have gx : sidx (bstr l) (a : Int) = some l[a] := by rw [sidx_bstr h]; exact idx_nat hal
    have h00 : (rest l)[0]? = some l[a] := by rw [hr, List.getElem?_drop, Nat.add_zero, List.getElem?_eq_getElem hal]
    simp only [show ¬ ((l.length - a : Nat) : Int) < 1 by omega, show ¬ ((l.length - a : Nat) : Int) > 9 by omega, decide_false, Bool.false_eq_true, if_false, gx, Option.bind_some]
    have fin : (rest l)[0]? ≠ some 48 ∨ ((rest l).length = 1 ∧ neg l = false) → (iterO N (fun s => F_dofferref36_Number_l0 N (bstr l) s.1 s.2) (0, (a : Int))).bind (fun z => match z with
          | .inr z => some z
          | .inl x137 => some (w64 (x137 * sg), true)) = some (if IsNum l then (nval l, true) else (0, false)) := by
      intro hc
      rw [refNumber_loop hN h hl ha (by omega)]
      by_cases hd : Dgs (rest l)
      · have hin : IsNum l := by
          refine ⟨hd, ⟨(fun q => by rw [q] at h00; cases h00), fun q => ?_⟩, by omega, fun q => ?_⟩
          · rcases hc with hc | hc
            · exact absurd q hc
            · exact hc.1
          · rcases hc with hc | hc
            · exact hc
            · rw [hc.2] at q; cases q
        have hv := nval_rng hd (by omega)
        rw [if_pos (hr ▸ hd), if_pos hin]
        simp only [Option.bind_some]
        have : w64 ((vl (l.drop a) : Int) * sg) = nval l := by
          rw [← hr]
          unfold nval at hv ⊢
          cases hn : neg l with
          | true =>
            rw [hn] at hsg hv
            simp only [if_true] at hsg hv ⊢
            subst hsg
            rw [w64, wrap64] <;> omega
          | false =>
            rw [hn] at hsg hv
            simp only [Bool.false_eq_true, if_false] at hsg hv ⊢
            subst hsg
            rw [w64, wrap64] <;> omega
        rw [this]
      · rw [if_neg (hr ▸ hd), if_neg (fun q => hd q.1)]
        rfl
    by_cases h4 : l[a] = 48
    · have hb : (l[a] == 48) = true := by simpa using h4
      simp only [hb, if_true]
      by_cases h5 : l.length - a > 1
      · have hni : ¬ IsNum l := fun q => by have := q.2.1.2 (by rw [h00, h4]); omega
        simp only [show ((l.length - a : Nat) : Int) > 1 by omega, decide_true, if_true, Option.bind_some, if_neg hni]
      · simp only [show ¬ ((l.length - a : Nat) : Int) > 1 by omega, decide_false, Bool.false_eq_true, if_false, Option.bind_some]
        cases hn : neg l with
        | true =>
          have hni : ¬ IsNum l := fun q => q.2.2.2 hn (by rw [h00, h4])
          rw [hn] at hsg
          simp only [if_true] at hsg
          subst hsg
          simp only [show (-1 : Int) < 0 by omega, decide_true, if_true, if_neg hni]
        | false =>
          have hs1 : sg = 1 := by rw [hsg, hn]; rfl
          simp only [hs1, show ¬ (1 : Int) < 0 by omega, decide_false, Bool.false_eq_true, if_false]
          have := fin (.inr ⟨by omega, hn⟩)
          rw [hs1] at this
          exact this
    · have hb : (l[a] == 48) = false := by simpa using h4
      simp only [hb, Bool.false_eq_true, if_false, Option.bind_some]
      exact fin (.inl (by rw [h00]; intro q; exact h4 (Option.some.inj q)))
  rw [bstr_size]
  cases hn : neg l with
  | true =>
    have hlen : 1 ≤ l.length := by
      have := neg_cons hn
      rw [this]; simp
    exact main 1 (-1) (by rw [rest, if_pos hn]) hlen (by rw [hn]; rfl) (by rw [hn]; rfl)
  | false =>
    exact main 0 1 (by rw [rest, if_neg (by simp [hn])]; rfl) (by omega) (by rw [hn]; rfl) (by rw [hn]; rfl)
end
theorem alive36 : F_dofferlaw36_alive 4294967296 = some true := by kernel_rfl
end Go.Proofs.YticipjjhbebegaaDoor
namespace Go.Proofs.YticipjjhbebegaaDoor
open Go Go.Eng
set_option maxRecDepth 100000
theorem w64_id {x : Int} (h1 : -9223372036854775808 ≤ x) (h2 : x ≤ 9223372036854775807) : w64 x = x := by rw [w64]; exact wrap64 h1 h2
theorem u8_eq {a b : Int} (ha : 0 ≤ a ∧ a < 256) (hb : 0 ≤ b ∧ b < 256) : (UInt8.ofNat a.toNat == b.toNat.toUInt8) = (a == b) := by
  rw [Bool.eq_iff_iff, beq_iff_eq, beq_iff_eq]
  constructor
  · intro h
    have h1 := u8_back ha
    have h2 := u8_back hb
    have h3 : (UInt8.ofNat a.toNat).toNat = (UInt8.ofNat b.toNat).toNat := congrArg _ h
    rw [← h1, h3, h2]
  · rintro rfl; rfl
theorem bstr_get {l : List Int} {i : Nat} (hi : i < l.length) : (bstr l)[i]! = UInt8.ofNat (l[i]).toNat := by
  have hi' : i < (bstr l).data.size := by rw [show (bstr l).data.size = (bstr l).size from rfl, bstr_size]; exact hi
  rw [getElem!_pos (bstr l) i hi']
  show (bstr l).data[i] = _
  have h2 : (bstr l).data.toList[i]? = some (UInt8.ofNat (l[i]).toNat) := by rw [bstr_data]; simp [hi]
  have h3 : (bstr l).data.toList[i]? = some (bstr l).data[i] := by simp
  rw [h2] at h3
  exact (Option.some.inj h3).symm
theorem sfind_bstr {l : List Int} (h : Bys l) {c : Int} (hc : 0 ≤ c ∧ c < 256) : sfind (bstr l) c = match l.findIdx? (· == c) with | some i => (i : Int) | none => -1 := by
  have e : ∀ i, (hi : i < l.length) → ((bstr l)[i]! == c.toNat.toUInt8) = (l[i] == c) := fun i hi => by
    rw [bstr_get hi]; exact u8_eq (h _ (List.getElem_mem hi)) hc
  unfold sfind firstIdx
  rw [bstr_size]
  cases hf : l.findIdx? (· == c) with
  | none =>
    have h' := List.findIdx?_eq_none_iff.1 hf
    have : (List.range l.length).find? (fun i => (bstr l)[i]! == c.toNat.toUInt8) = none := by
      rw [List.find?_range_eq_none]
      intro i hi
      have := h' _ (List.getElem_mem hi)
      rw [e i hi]
      simpa using this
    rw [this]
  | some k =>
    obtain ⟨hk, hp, hlt⟩ := List.findIdx?_eq_some_iff_getElem.1 hf
    have : (List.range l.length).find? (fun i => (bstr l)[i]! == c.toNat.toUInt8) = some k := by
      rw [List.find?_range_eq_some]
      refine ⟨by rw [e k hk]; exact hp, by simpa using hk, fun j hj => ?_⟩
      rw [e j (by omega)]
      have := hlt j hj
      simpa using this
    rw [this]
theorem scount_bstr {l : List Int} (h : Bys l) {c : Int} (hc : 0 ≤ c ∧ c < 256) : scount (bstr l) c = (l.count c : Int) := by
  unfold scount
  rw [Lib.foldl_data, bstr_data]
  have go : ∀ (l : List Int) (n : Nat), Bys l → (l.map fun c => UInt8.ofNat c.toNat).foldl (fun (n : Int) x => if x == c.toNat.toUInt8 then n + 1 else n) (n : Int) = ((n + l.count c : Nat) : Int) := by
    intro l
    induction l with
    | nil => intro n _; simp
    | cons a l ih =>
      intro n hb
      have hl : Bys l := fun x hx => hb x (by simp [hx])
      rw [List.map_cons, List.foldl_cons, u8_eq (hb a (by simp)) hc]
      by_cases ha : a = c
      · subst ha
        rw [if_pos (by simp), show ((n : Int) + 1) = ((n + 1 : Nat) : Int) by omega, ih _ hl]
        simp; omega
      · rw [if_neg (by simpa using ha), ih _ hl, List.count_cons_of_ne ha]
  simpa using go l 0 h
def splitB : List Int → List (List Int)
  | [] => [[]]
  | c :: r => if c = 32 then [] :: splitB r else match splitB r with
    | [] => [[c]]
    | w :: ws => (c :: w) :: ws
theorem splitB_ne (l : List Int) : splitB l ≠ [] := by
  cases l with
  | nil => simp [splitB]
  | cons c r =>
    simp only [splitB]
    split
    · simp
    · split <;> simp
theorem splitB_len (l : List Int) : (splitB l).length = l.count 32 + 1 := by
  induction l with
  | nil => rfl
  | cons c r ih =>
    simp only [splitB]
    split
    · rename_i hc; subst hc; simp [ih]
    · rename_i hc
      rw [List.count_cons_of_ne hc]
      split
      · rename_i h; exact absurd h (splitB_ne r)
      · rename_i w ws h; rw [h] at ih; simpa using ih
theorem splitB_mem {l w : List Int} (hw : w ∈ splitB l) : ∀ c ∈ w, c ∈ l := by
  induction l generalizing w with
  | nil => simp [splitB] at hw; subst hw; simp
  | cons c r ih =>
    simp only [splitB] at hw
    split at hw
    · rcases List.mem_cons.1 hw with rfl | hw
      · simp
      · intro x hx; exact List.mem_cons_of_mem _ (ih hw x hx)
    · split at hw
      · rename_i h; exact absurd h (splitB_ne r)
      · rename_i v vs h
        rcases List.mem_cons.1 hw with rfl | hw
        · intro x hx
          rcases List.mem_cons.1 hx with rfl | hx
          · simp
          · exact List.mem_cons_of_mem _ (ih (by rw [h]; simp) x hx)
        · intro x hx; exact List.mem_cons_of_mem _ (ih (by rw [h]; simp [hw]) x hx)
theorem splitB_bys {l : List Int} (h : Bys l) : ∀ w ∈ splitB l, Bys w := fun _ hw c hc => h c (splitB_mem hw c hc)
/-- ahead of the first blank, and behind it -/
theorem splitB_cut {a b : List Int} (ha : 32 ∉ a) : splitB (a ++ 32 :: b) = a :: splitB b := by
  induction a with
  | nil => simp [splitB]
  | cons c a ih =>
    have hc : c ≠ 32 := fun e => ha (by simp [e])
    have h2 := ih (fun e => ha (by simp [e]))
    simp only [List.cons_append, splitB, if_neg hc, h2]
theorem splitB_one {a : List Int} (ha : 32 ∉ a) : splitB a = [a] := by
  induction a with
  | nil => simp [splitB]
  | cons c a ih =>
    have hc : c ≠ 32 := fun e => ha (by simp [e])
    have h2 := ih (fun e => ha (by simp [e]))
    simp only [splitB, if_neg hc, h2]
/-- one byte more -/
theorem splitB_snoc_blank (l : List Int) : splitB (l ++ [32]) = splitB l ++ [[]] := by
  induction l with
  | nil => simp [splitB]
  | cons c r ih =>
    simp only [List.cons_append, splitB]
    split
    · rw [ih]; rfl
    · rw [ih]
      cases h : splitB r with
      | nil => exact absurd h (splitB_ne r)
      | cons w ws => rfl
def snocL (ws : List (List Int)) (c : Int) : List (List Int) := ws.set (ws.length - 1) (ws.getD (ws.length - 1) [] ++ [c])
theorem snocL_cons {w : List Int} {ws : List (List Int)} (c : Int) (h : ws ≠ []) : snocL (w :: ws) c = w :: snocL ws c := by
  cases ws with
  | nil => exact absurd rfl h
  | cons v vs => simp [snocL]
theorem splitB_snoc (l : List Int) {c : Int} (hc : c ≠ 32) : splitB (l ++ [c]) = snocL (splitB l) c := by
  induction l with
  | nil => simp [splitB, hc, snocL]
  | cons a r ih =>
    simp only [List.cons_append, splitB]
    split
    · rw [ih, snocL_cons _ (splitB_ne r)]
    · rw [ih]
      cases h : splitB r with
      | nil => exact absurd h (splitB_ne r)
      | cons w ws =>
        cases ws with
        | nil => simp [snocL]
        | cons v vs => rw [snocL_cons c (List.cons_ne_nil v vs), snocL_cons c (List.cons_ne_nil v vs)]
section
variable {N : Nat}
theorem index_spec {l : List Int} (h : Bys l) : F_strings_Index_1 N (bstr l) = some (match l.findIdx? (· == 32) with | some i => (i : Int) | none => -1) := by
  unfold F_strings_Index_1 F_internal_stringslite_Index_1
  have e : ((⟨#[32]⟩ : ByteArray).toList == (bstr l).toList) = decide (l = [32]) := by
    rw [show (⟨#[32]⟩ : ByteArray) = bstr [32] from ba_ext (by rw [bstr_data]; rfl)]
    rw [Bool.eq_iff_iff, beq_iff_eq, decide_eq_true_iff, bstr_inj (fun c hc => by simp at hc; omega) h]
    exact eq_comm
  simp only [bind, Option.bind_some, e, F_internal_stringslite_IndexByte_1]
  by_cases hl : l = [32]
  · subst hl; rfl
  · simp only [hl, decide_false, Bool.false_eq_true, if_false, Option.bind_some]
    rw [sfind_bstr h (by omega)]
end
end Go.Proofs.YticipjjhbebegaaDoor
namespace Go.Proofs.YticipjjhbebegaaDoor
open Go Go.Eng
set_option maxRecDepth 100000
theorem splitB_short : ∀ (l w : List Int), w ∈ splitB l → w.length ≤ l.length := by
  intro l
  induction l with
  | nil => intro w hw; simp [splitB] at hw; subst hw; simp
  | cons c r ih =>
    intro w hw
    simp only [splitB] at hw
    split at hw
    · rcases List.mem_cons.1 hw with rfl | hw
      · simp
      · have := ih _ hw; simp; omega
    · split at hw
      · rename_i hh; exact absurd hh (splitB_ne r)
      · rename_i v vs hh
        rcases List.mem_cons.1 hw with rfl | hw
        · have := ih v (by rw [hh]; simp); simp; omega
        · have := ih w (by rw [hh]; simp [hw]); simp; omega
section
variable {N : Nat}
theorem split_e0 {l : List Int} (h : Bys l) (hl : l.length ≤ 1000000) : imin (w64 (scount (bstr l) 32 + 1)) (w64 (((bstr l).size : Int) + 1)) = ((l.count 32 + 1 : Nat) : Int) := by
  have hcl : l.count 32 ≤ l.length := List.count_le_length
  rw [scount_bstr h (by omega), bstr_size, w64_succ (by omega), w64_succ (by omega)]
  unfold imin
  split <;> omega
theorem split_e1 {l : List Int} (hl : l.length ≤ 1000000) : w64 (((l.count 32 + 1 : Nat) : Int) - 1) = (l.count 32 : Int) := by
  have hcl : l.count 32 ≤ l.length := List.count_le_length
  rw [w64_id] <;> omega
theorem split_step0 {l : List Int} (h : Bys l) (hl : l.length ≤ 1000000) (s : ByteArray) (a : List ByteArray) : F_strings_genSplit_1_l0 N (bstr l) s (l.count 32 : Int) a = some (.inr (s, (l.count 32 : Int), a)) := by
  unfold F_strings_genSplit_1_l0
  rw [split_e0 h hl, split_e1 hl, if_neg (by simp)]
theorem split_step1 {l a b : List Int} {pre : List (List Int)} {k : Nat} (h : Bys l) (hl : l.length ≤ 1000000) (hp : pre.length < l.count 32) (hs : Bys (a ++ 32 :: b)) (hsl : (a ++ 32 :: b).length ≤ l.length) (hna : 32 ∉ a) :
    F_strings_genSplit_1_l0 N (bstr l) (bstr (a ++ 32 :: b)) (pre.length : Int) (pre.map bstr ++ List.replicate (k + 1) ByteArray.empty) = some (.inl (bstr b, ((pre ++ [a]).length : Int), (pre ++ [a]).map bstr ++ List.replicate k ByteArray.empty)) := by
  have hcl : l.count 32 ≤ l.length := List.count_le_length
  unfold F_strings_genSplit_1_l0
  rw [split_e0 h hl, split_e1 hl, if_pos (by simp; omega)]
  have hf : (a ++ 32 :: b).findIdx? (· == 32) = some a.length := by
    rw [List.findIdx?_append, List.findIdx?_eq_none_iff.2 (fun x hx => by simp; rintro rfl; exact hna hx)]
    simp [List.findIdx?_cons]
  rw [index_spec hs, hf]
  have hal : a.length ≤ l.length := by simp at hsl; omega
  simp only [Option.bind_some, bind]
  rw [if_neg (by simp), show w64 ((a.length : Int) + 0) = (a.length : Int) by rw [w64_id] <;> omega]
  have s1 : sslc (bstr (a ++ 32 :: b)) 0 (a.length : Int) = some (bstr a) := by
    have := sslc_bstr (l := a ++ 32 :: b) (lo := 0) (hi := a.length) (by omega) (by simp)
    simpa using this
  have s2 : sslc (bstr (a ++ 32 :: b)) (w64 ((a.length : Int) + 1)) ((bstr (a ++ 32 :: b)).size : Int) = some (bstr b) := by
    rw [w64_succ (by omega), bstr_size]
    have := sslc_bstr (l := a ++ 32 :: b) (lo := a.length + 1) (hi := (a ++ 32 :: b).length) (by simp) (Nat.le_refl _)
    rw [List.take_length] at this
    rw [this]
    congr 2
    rw [show a ++ 32 :: b = (a ++ [32]) ++ b by simp, List.drop_left' (by simp)]
  have s3 : idx (pre.map bstr ++ List.replicate (k + 1) ByteArray.empty) (pre.length : Int) = some ByteArray.empty := idx_of (by rw [List.getElem?_append_right (by simp)]; simp)
  have s4 : setI (pre.map bstr ++ List.replicate (k + 1) ByteArray.empty) (pre.length : Int) (bstr a) = some ((pre ++ [a]).map bstr ++ List.replicate k ByteArray.empty) := by
    rw [setI_nat (by simp)]
    congr 1
    rw [List.set_append_right _ _ (by rw [List.length_map]; exact Nat.le_refl _), List.length_map, Nat.sub_self, List.replicate_succ, List.set_cons_zero, List.map_append, List.append_assoc]
    rfl
  simp only [s1, s2, s3, s4, Option.bind_some]
  rw [w64_succ (by omega)]
  simp
theorem split_loop {l : List Int} (h : Bys l) (hl : l.length ≤ 1000000) : ∀ (k : Nat) (pre : List (List Int)) (s : List Int), Bys s → s.length ≤ l.length → s.count 32 = k → pre.length + k = l.count 32 → ∀ M, k < M →
      iterO M (fun t => F_strings_genSplit_1_l0 N (bstr l) t.1 t.2.1 t.2.2) (bstr s, (pre.length : Int), pre.map bstr ++ List.replicate (k + 1) ByteArray.empty) =
        some (bstr ((splitB s).getD k []), ((l.count 32 : Nat) : Int), (pre ++ (splitB s).take k).map bstr ++ [ByteArray.empty]) := by
  intro k
  induction k with
  | zero =>
    intro pre s hs hsl hk hp M hM
    obtain ⟨M, rfl⟩ : ∃ m, M = m + 1 := ⟨M - 1, by omega⟩
    simp only [iterO]
    rw [show pre.length = l.count 32 by omega, split_step0 h hl]
    have hn : 32 ∉ s := List.count_eq_zero.1 hk
    rw [splitB_one hn]
    simp
  | succ k ih =>
    intro pre s hs hsl hk hp M hM
    obtain ⟨M, rfl⟩ : ∃ m, M = m + 1 := ⟨M - 1, by omega⟩
    have hm : 32 ∈ s := List.count_pos_iff.1 (by omega)
    obtain ⟨a, b, rfl, hna⟩ := List.eq_append_cons_of_mem hm
    simp only [iterO]
    rw [split_step1 h hl (by omega) hs hsl hna]
    have hcb : b.count 32 = k := by
      rw [List.count_append, List.count_eq_zero.2 hna] at hk
      simpa using hk
    have hbl : b.length ≤ l.length := by simp at hsl; omega
    simp only []
    rw [ih (pre ++ [a]) b (fun c hc => hs c (by simp [hc])) hbl hcb (by simp; omega) M (by omega), splitB_cut hna]
    simp
theorem split_spec {l : List Int} (hN : 4294967296 ≤ N) (h : Bys l) (hl : l.length ≤ 1000000) : F_strings_Split_1 N (bstr l) = some ((splitB l).map bstr) := by
  have hc := splitB_len l
  have hcl : l.count 32 ≤ l.length := List.count_le_length
  unfold F_strings_Split_1 F_strings_genSplit_1
  rw [split_e0 h hl, mk_eq (by omega)]
  have h0 := split_loop (N := N) h hl (l.count 32) [] l h (Nat.le_refl _) rfl (by simp) N (by omega)
  rw [List.length_nil, List.map_nil, List.nil_append, List.nil_append] at h0
  simp only [F_strings_Count_1, bind, Option.bind_some]
  rw [show ((0 : Nat) : Int) = 0 from rfl] at h0
  rw [h0]
  simp only [Option.bind_some]
  clear h0
  have hlen : ((splitB l).take (l.count 32)).length = l.count 32 := by rw [List.length_take]; omega
  have hlast : splitB l = (splitB l).take (l.count 32) ++ [(splitB l).getD (l.count 32) []] := by
    have : (splitB l)[l.count 32]? = some ((splitB l).getD (l.count 32) []) := by
      rw [List.getD, List.getElem?_eq_getElem (by omega)]; rfl
    have h3 := List.take_add_one (l := splitB l) (i := l.count 32)
    rw [this, ← hc, List.take_length] at h3
    exact h3
  generalize hT : (splitB l).take (l.count 32) = T at *
  generalize (splitB l).getD (l.count 32) [] = z at *
  rw [hlast]
  have hm : (T.map bstr).length = l.count 32 := by rw [List.length_map, hlen]
  have t1 : idx (T.map bstr ++ [ByteArray.empty]) ((l.count 32 : Nat) : Int) = some ByteArray.empty := idx_of (by rw [List.getElem?_append_right (by omega), hm]; simp)
  have t2 : setI (T.map bstr ++ [ByteArray.empty]) ((l.count 32 : Nat) : Int) (bstr z) = some ((T ++ [z]).map bstr) := by
    rw [setI_nat (by rw [List.length_append, hm]; simp)]
    congr 1
    rw [List.set_append_right _ _ (by omega), hm]
    simp
  have t3 : ((T ++ [z]).map bstr).length = l.count 32 + 1 := by rw [List.length_map, List.length_append, hlen]; rfl
  have t4 : slc ((T ++ [z]).map bstr) 0 ((l.count 32 + 1 : Nat) : Int) = some ((T ++ [z]).map bstr) := by
    unfold slc
    rw [if_pos (by rw [t3]; omega), show ((l.count 32 + 1 : Nat) : Int).toNat = ((T ++ [z]).map bstr).length by omega, List.take_length]
    rfl
  simp only [t1, t2, Option.bind_some]
  rw [w64_succ (by omega), t4]
  rfl
theorem words_step {l : List Int} (h : Bys l) (hl : l.length ≤ 1000000) {i : Nat} (hi : i < l.length) :
    F_dofferref36_words_l0 N (bstr l) ((splitB (l.take i)).map bstr) (i : Int) = some (.inl ((splitB (l.take (i + 1))).map bstr, ((i + 1 : Nat) : Int))) := by
  have hx : l[i]? = some l[i] := List.getElem?_eq_getElem hi
  have hlen := splitB_len (l.take i)
  have hcl : (l.take i).count 32 ≤ (l.take i).length := List.count_le_length
  have htl : (l.take i).length = i := by rw [List.length_take]; omega
  have gs : sidx (bstr l) (i : Int) = some l[i] := by rw [sidx_bstr h]; exact idx_of hx
  unfold F_dofferref36_words_l0
  rw [bstr_size, if_pos (by simp; omega), gs, w64_succ (by omega), List.take_add_one, hx]
  simp only [bind, Option.bind_some, Option.toList_some]
  by_cases hb : l[i] = 32
  · rw [if_pos (by simpa using hb), hb, app_eq (by simp; omega)]
    simp only [Option.bind_some, splitB_snoc_blank]
    simp [bstr_nil]
  · rw [if_neg (by simpa using hb)]
    have e1 : sslc (bstr l) (i : Int) ((i + 1 : Nat) : Int) = some (bstr [l[i]]) := by
      rw [sslc_bstr (by omega) (by omega), List.take_add_one, hx, List.drop_left' (by rw [List.length_take]; omega)]
      rfl
    have hpos : 0 < (splitB (l.take i)).length := by omega
    rw [splitB_snoc _ hb]
    have e3 : (splitB (l.take i))[(splitB (l.take i)).length - 1]? = some ((splitB (l.take i)).getD ((splitB (l.take i)).length - 1) []) := by
      rw [List.getD, List.getElem?_eq_getElem (by omega)]; rfl
    have hml := splitB_short _ _ (List.mem_of_getElem? e3)
    unfold snocL
    generalize hz : (splitB (l.take i)).getD ((splitB (l.take i)).length - 1) [] = z at *
    generalize splitB (l.take i) = ws at *
    have e2 : w64 (((List.map bstr ws).length : Int) - 1) = ((ws.length - 1 : Nat) : Int) := by
      rw [List.length_map, w64_id] <;> omega
    have e4 : idx (List.map bstr ws) ((ws.length - 1 : Nat) : Int) = some (bstr z) := idx_of (by rw [List.getElem?_map, e3]; rfl)
    have e5 : scat (bstr z) (bstr [l[i]]) = some (bstr (z ++ [l[i]])) := scat_bstr (by simp; omega)
    have e6 : setI (List.map bstr ws) ((ws.length - 1 : Nat) : Int) (bstr (z ++ [l[i]])) = some (List.map bstr (ws.set (ws.length - 1) (z ++ [l[i]]))) := by
      rw [setI_nat (by rw [List.length_map]; omega), List.map_set]
    simp only [e1, e2, e4, e5, e6, Option.bind_some]
theorem words_spec {l : List Int} (hN : 4294967296 ≤ N) (h : Bys l) (hl : l.length ≤ 1000000) : F_dofferref36_words N (bstr l) = some ((splitB l).map bstr) := by
  unfold F_dofferref36_words
  have e : iterO N (fun s => F_dofferref36_words_l0 N (bstr l) s.1 s.2) ([ByteArray.empty], 0) = some ((splitB l).map bstr) := by
    refine iterO_for0 (fun i => ((splitB (l.take i)).map bstr, (i : Int))) l.length (by simp [splitB, bstr_nil]) (by omega) (fun i hi => words_step h hl hi) ?_
    rw [List.take_length]
    unfold F_dofferref36_words_l0
    simp [bstr_size]
  rw [e]
  rfl
end
end Go.Proofs.YticipjjhbebegaaDoor
namespace Go.Proofs.YticipjjhbebegaaDoor
open Go Go.Eng
set_option maxRecDepth 100000
/-- a figure's number; -1: it is none -/
def fgv (c : Int) : Int := if 48 ≤ c ∧ c ≤ 57 then c - 48 else if 97 ≤ c ∧ c ≤ 102 then c - 87 else if 65 ≤ c ∧ c ≤ 70 then c - 55 else -1
def isMk (c : Int) : Bool := decide (33 ≤ c ∧ c ≤ 47 ∨ 58 ≤ c ∧ c ≤ 64 ∨ 91 ≤ c ∧ c ≤ 96 ∨ 123 ≤ c ∧ c ≤ 126)
/-- the code's number of the document's error -/
def ce : Nat → Int
  | 0 => 0
  | 1 => 2
  | 2 => 3
  | 3 => 4
  | 4 => 1
  | n => n
/-- a spelled byte: the byte, the place behind, the document's error -/
def rdB (l : List Int) (at_ : Nat) : Int × Nat × Nat :=
  match l.drop at_ with
  | [] => (0, l.length, 2)
  | c :: r => if c ≠ 92 then (c, at_ + 1, 0) else
    match r with
    | [] => (0, l.length, 2)
    | d :: r2 =>
      if d = 110 then (10, at_ + 2, 0) else if d = 116 then (9, at_ + 2, 0) else if d = 114 then (13, at_ + 2, 0) else if d = 115 then (32, at_ + 2, 0) else
      if d = 120 then
        match r2 with
        | [] => (0, l.length, 2)
        | e :: r3 => if fgv e < 0 then (0, at_ + 2, 4) else
          match r3 with
          | [] => (0, l.length, 2)
          | f :: _ => if fgv f < 0 then (0, at_ + 3, 4) else (16 * fgv e + fgv f, at_ + 4, 0)
      else if isMk d then (d, at_ + 2, 0) else (0, at_ + 1, 4)
theorem fgv_rng (c : Int) : -1 ≤ fgv c ∧ fgv c ≤ 15 := by unfold fgv; repeat' split <;> omega
section
variable {N : Nat}
theorem byte_eq {α : Type} (f g : Int → α) (h : ∀ k : Fin 256, f ((k.val : Nat) : Int) = g ((k.val : Nat) : Int)) {c : Int} (hc : 0 ≤ c ∧ c < 256) : f c = g c := by
  have := h ⟨c.toNat, by omega⟩
  rwa [show ((c.toNat : Nat) : Int) = c by omega] at this
theorem byte_all {P : Int → Prop} (h : ∀ k : Fin 256, P ((k.val : Nat) : Int)) {c : Int} (hc : 0 ≤ c ∧ c < 256) : P c := by
  have := h ⟨c.toNat, by omega⟩
  rwa [show ((c.toNat : Nat) : Int) = c by omega] at this
theorem refFigure_spec {c : Int} (hc : 0 ≤ c ∧ c < 256) : F_dofferref05_figure N c = some (fgv c) := by
  have : ∀ k : Fin 256, F_dofferref05_figure 0 ((k.val : Nat) : Int) = some (fgv ((k.val : Nat) : Int)) := by decide +kernel
  exact byte_all (P := fun c => F_dofferref05_figure 0 c = some (fgv c)) this hc
theorem figure_spec {c : Int} (hc : 0 ≤ c ∧ c < 256) : F_spell_figure N c = some (fgv c, decide (fgv c ≥ 0)) := by
  have : ∀ k : Fin 256, F_spell_figure 0 ((k.val : Nat) : Int) = some (fgv ((k.val : Nat) : Int), decide (fgv ((k.val : Nat) : Int) ≥ 0)) := by decide +kernel
  exact byte_all (P := fun c => F_spell_figure 0 c = some (fgv c, decide (fgv c ≥ 0))) this hc
theorem mark_spec {c : Int} (hc : 0 ≤ c ∧ c < 256) : F_spell_mark N c = some (isMk c) := by
  have : ∀ k : Fin 256, F_spell_mark 0 ((k.val : Nat) : Int) = some (isMk ((k.val : Nat) : Int)) := by decide +kernel
  exact byte_all (P := fun c => F_spell_mark 0 c = some (isMk c)) this hc
/-- the letters behind a backslash -/
theorem named_spec {c : Int} (hc : 0 ≤ c ∧ c < 256) : (if decide (sfind (⟨#[110, 116, 114, 115]⟩ : ByteArray) c ≥ 0) = true then (sidx (⟨#[10, 9, 13, 32]⟩ : ByteArray) (sfind (⟨#[110, 116, 114, 115]⟩ : ByteArray) c)) else some (-1)) = some (if c = 110 then 10 else if c = 116 then 9 else if c = 114 then 13 else if c = 115 then 32 else -1) :=
  byte_eq (fun c => if decide (sfind (⟨#[110, 116, 114, 115]⟩ : ByteArray) c ≥ 0) = true then (sidx (⟨#[10, 9, 13, 32]⟩ : ByteArray) (sfind (⟨#[110, 116, 114, 115]⟩ : ByteArray) c)) else some (-1)) (fun c => some (if c = 110 then 10 else if c = 116 then 9 else if c = 114 then 13 else if c = 115 then 32 else -1)) (by decide +kernel) hc
theorem named_ge {c : Int} (hc : 0 ≤ c ∧ c < 256) : decide (sfind (⟨#[110, 116, 114, 115]⟩ : ByteArray) c ≥ 0) = decide (c = 110 ∨ c = 116 ∨ c = 114 ∨ c = 115) :=
  byte_eq (fun c => decide (sfind (⟨#[110, 116, 114, 115]⟩ : ByteArray) c ≥ 0)) (fun c => decide (c = 110 ∨ c = 116 ∨ c = 114 ∨ c = 115)) (by decide +kernel) hc
theorem sidx_at {p q : List Int} (h : Bys (p ++ q)) (j : Nat) : sidx (bstr (p ++ q)) ((p.length + j : Nat) : Int) = q[j]? := by
  rw [sidx_bstr h]
  unfold idx
  rw [if_pos (by omega), show ((p.length + j : Nat) : Int).toNat = p.length + j by omega, List.getElem?_append_right (by omega)]
  congr 1
  omega
theorem w64_add {n j : Nat} (h : n + j < 9223372036854775807) : w64 ((n : Int) + (j : Int)) = ((n + j : Nat) : Int) := by rw [w64_id] <;> omega
theorem wrap8 {x : Int} (h : 0 ≤ x ∧ x < 256) : IntKind.wrap .u8 x = x := by simp [IntKind.wrap, IntKind.signed, IntKind.bits]; omega
theorem pair_spec {p q : List Int} (hN : 4294967296 ≤ N) (h : Bys (p ++ q)) (hl : (p ++ q).length ≤ 1000000) :
    F_spell_pair N (bstr (p ++ q)) ((p.length : Nat) : Int) = some (match (generalizing := false) q with
      | [] => (0, (((p ++ q).length : Nat) : Int), 3)
      | e :: r => if fgv e < 0 then (0, ((p.length : Nat) : Int), 1) else match (generalizing := false) r with
        | [] => (0, (((p ++ q).length : Nat) : Int), 3)
        | f :: _ => if fgv f < 0 then (0, ((p.length + 1 : Nat) : Int), 1) else (16 * fgv e + fgv f, ((p.length + 2 : Nat) : Int), 0)) := by
  obtain ⟨M, rfl⟩ : ∃ m, N = m + 1 + 1 + 1 := ⟨N - 3, by omega⟩
  have hpl : (p ++ q).length = p.length + q.length := List.length_append
  unfold F_spell_pair
  rw [iterO]
  have s0 : F_spell_pair_l0 (M + 1 + 1 + 1) (bstr (p ++ q)) ((p.length : Nat) : Int) 0 0 = match (generalizing := false) q with
      | [] => some (.inr (.inr (0, (((p ++ q).length : Nat) : Int), 3)))
      | e :: _ => if fgv e < 0 then some (.inr (.inr (0, ((p.length : Nat) : Int), 1))) else some (.inl (((p.length + 1 : Nat) : Int), 1, fgv e)) := by
    unfold F_spell_pair_l0
    rw [if_pos (by decide), bstr_size]
    cases q with
    | nil => rw [if_pos (by simp)]; simp
    | cons e r =>
      rw [if_neg (by simp; omega)]
      have := sidx_at h 0
      rw [Nat.add_zero] at this
      have he := h e (by simp)
      have hf := fgv_rng e
      rw [this]
      simp only [List.getElem?_cons_zero, bind, Option.bind_some, figure_spec he]
      by_cases hg : fgv e < 0
      · rw [if_pos (by simp; omega), if_pos hg]
      · rw [if_neg (by simp; omega), if_neg hg, w64_succ (by omega), show w64 ((0 : Int) + 1) = 1 by rfl, show w64 (16 * (0 : Int)) = 0 by rfl, w64_id (by omega) (by omega)]
        simp
  rw [s0]
  cases q with
  | nil => rfl
  | cons e r =>
    simp only []
    have hf := fgv_rng e
    by_cases hg : fgv e < 0
    · rw [if_pos hg, if_pos hg]; rfl
    · rw [if_neg hg, if_neg hg]
      simp only []
      rw [iterO]
      have s1 : F_spell_pair_l0 (M + 1 + 1 + 1) (bstr (p ++ e :: r)) ((p.length + 1 : Nat) : Int) 1 (fgv e) = match (generalizing := false) r with
          | [] => some (.inr (.inr (0, (((p ++ e :: r).length : Nat) : Int), 3)))
          | f :: _ => if fgv f < 0 then some (.inr (.inr (0, ((p.length + 1 : Nat) : Int), 1))) else some (.inl (((p.length + 2 : Nat) : Int), 2, 16 * fgv e + fgv f)) := by
        unfold F_spell_pair_l0
        rw [if_pos (by decide), bstr_size]
        cases r with
        | nil => rw [if_pos (by simp)]; simp
        | cons f r =>
          rw [if_neg (by simp; omega)]
          have := sidx_at h 1
          have he := h f (by simp)
          have hf2 := fgv_rng f
          rw [this]
          simp only [List.getElem?_cons_succ, List.getElem?_cons_zero, bind, Option.bind_some, figure_spec he]
          by_cases hg2 : fgv f < 0
          · rw [if_pos (by simp; omega), if_pos hg2]
          · rw [if_neg (by simp; omega), if_neg hg2, w64_succ (by simp at hl; omega), show w64 ((1 : Int) + 1) = 2 by rfl, w64_id (x := 16 * fgv e) (by omega) (by omega), w64_id (by omega) (by omega)]
      rw [s1]
      cases r with
      | nil => rfl
      | cons f r =>
        simp only []
        have hf2 := fgv_rng f
        by_cases hg2 : fgv f < 0
        · rw [if_pos hg2, if_pos hg2]; rfl
        · rw [if_neg hg2, if_neg hg2]
          simp only []
          rw [iterO]
          have s2 : F_spell_pair_l0 (M + 1 + 1 + 1) (bstr (p ++ e :: f :: r)) ((p.length + 2 : Nat) : Int) 2 (16 * fgv e + fgv f) = some (.inr (.inl (((p.length + 2 : Nat) : Int), 16 * fgv e + fgv f))) := by
            unfold F_spell_pair_l0
            rw [if_neg (by decide)]
          rw [s2]
          simp only [Option.bind_some, bind]
          rw [wrap8 (by omega)]
theorem read_spec {p q : List Int} (hN : 4294967296 ≤ N) (h : Bys (p ++ q)) (hl : (p ++ q).length ≤ 1000000) :
    F_spell_Read_1 N (bstr (p ++ q)) ((p.length : Nat) : Int) = some ((rdB (p ++ q) p.length).1, (((rdB (p ++ q) p.length).2.1 : Nat) : Int), ce (rdB (p ++ q) p.length).2.2) := by
  have hpl : (p ++ q).length = p.length + q.length := List.length_append
  unfold F_spell_Read_1 rdB
  rw [List.drop_left, bstr_size, if_neg (by simp)]
  simp only [bind, Option.bind_some]
  cases q with
  | nil => rw [if_pos (by simp)]; simp [ce]
  | cons c r =>
    have g0 := sidx_at h 0
    rw [Nat.add_zero, List.getElem?_cons_zero] at g0
    rw [if_neg (by simp; omega)]
    simp only [g0, Option.bind_some]
    by_cases hc : c = 92
    · subst hc
      rw [if_neg (by decide), w64_succ (by omega)]
      simp only [ne_eq, not_true_eq_false, if_false]
      cases r with
      | nil => rw [if_pos (by simp)]; simp [ce]
      | cons d r2 =>
        have g1 := sidx_at h 1
        rw [List.getElem?_cons_succ, List.getElem?_cons_zero] at g1
        have hd := h d (by simp)
        rw [if_neg (by simp; omega)]
        have e2 : w64 (((p.length : Nat) : Int) + 2) = ((p.length + 2 : Nat) : Int) := w64_add (j := 2) (by omega)
        simp only [g1, Option.bind_some, F_strings_IndexByte, F_internal_stringslite_IndexByte_2, bind, e2]
        rw [named_ge hd]
        have hn := named_spec hd
        rw [named_ge hd] at hn
        by_cases hm : d = 110 ∨ d = 116 ∨ d = 114 ∨ d = 115
        · rw [if_pos (by simpa using hm)] at hn ⊢
          rw [hn]
          simp only [Option.bind_some]
          rcases hm with rfl | rfl | rfl | rfl <;> rfl
        · rw [if_neg (by simpa using hm)]
          have n1 : d ≠ 110 := fun e => hm (by simp [e])
          have n2 : d ≠ 116 := fun e => hm (by simp [e])
          have n3 : d ≠ 114 := fun e => hm (by simp [e])
          have n4 : d ≠ 115 := fun e => hm (by simp [e])
          simp only [n1, n2, n3, n4, if_false]
          by_cases hx : d = 120
          · subst hx
            rw [if_pos (by decide)]
            have hs := pair_spec (p := p ++ [92, 120]) (q := r2) hN (by simpa using h) (by simpa using hl)
            rw [show (p ++ [(92 : Int), 120]) ++ r2 = p ++ 92 :: 120 :: r2 by simp, show (p ++ [(92 : Int), 120]).length = p.length + 2 by simp] at hs
            rw [hs]
            simp only [Option.bind_some, if_true]
            cases r2 with
            | nil => rfl
            | cons e r3 =>
              simp only []
              by_cases hg : fgv e < 0
              · rw [if_pos hg, if_pos hg]; rfl
              · rw [if_neg hg, if_neg hg]
                cases r3 with
                | nil => rfl
                | cons f r4 =>
                  simp only []
                  by_cases hg2 : fgv f < 0
                  · rw [if_pos hg2, if_pos hg2]; rfl
                  · rw [if_neg hg2, if_neg hg2]; rfl
          · rw [if_neg (by simpa using hx), mark_spec hd]
            simp only [Option.bind_some, hx, if_false]
            cases isMk d with
            | true => rfl
            | false => rfl
    · rw [if_pos (by simpa using hc), w64_succ (by omega)]
      simp only [ne_eq, hc, not_false_eq_true, if_true]
      rfl
theorem refRead_spec {p q : List Int} (h : Bys (p ++ q)) (hl : (p ++ q).length ≤ 1000000) :
    F_dofferref05_Read_1 N (bstr (p ++ q)) ((p.length : Nat) : Int) = some ((rdB (p ++ q) p.length).1, (((rdB (p ++ q) p.length).2.1 : Nat) : Int), (((rdB (p ++ q) p.length).2.2 : Nat) : Int)) := by
  have hpl : (p ++ q).length = p.length + q.length := List.length_append
  unfold F_dofferref05_Read_1 rdB
  rw [List.drop_left, bstr_size, if_neg (by simp)]
  simp only [bind, Option.bind_some]
  cases q with
  | nil => rw [if_pos (by simp)]; simp
  | cons c r =>
    have g0 := sidx_at h 0
    rw [Nat.add_zero, List.getElem?_cons_zero] at g0
    rw [if_neg (by simp; omega)]
    simp only [g0, Option.bind_some]
    by_cases hc : c = 92
    · subst hc
      have e0 : w64 ((((p ++ 92 :: r).length : Nat) : Int) - 1) = ((p.length + r.length : Nat) : Int) := by rw [w64_id] <;> simp at hl ⊢ <;> omega
      rw [if_neg (by decide), w64_succ (by omega), e0]
      simp only [ne_eq, not_true_eq_false, if_false]
      cases r with
      | nil => rw [if_pos (by simp)]; simp
      | cons d r2 =>
        have g1 := sidx_at h 1
        rw [List.getElem?_cons_succ, List.getElem?_cons_zero] at g1
        have hd := h d (by simp)
        rw [if_neg (by simp; omega)]
        have e2 : w64 (((p.length : Nat) : Int) + 2) = ((p.length + 2 : Nat) : Int) := w64_add (j := 2) (by omega)
        have e3 : w64 (((p.length : Nat) : Int) + 3) = ((p.length + 3 : Nat) : Int) := w64_add (j := 3) (by omega)
        have e4 : w64 (((p.length : Nat) : Int) + 4) = ((p.length + 4 : Nat) : Int) := w64_add (j := 4) (by omega)
        simp only [g1, Option.bind_some, e2, e3, e4, beq_iff_eq]
        by_cases n1 : d = 110
        · subst n1; rfl
        by_cases n2 : d = 116
        · subst n2; rfl
        by_cases n3 : d = 114
        · subst n3; rfl
        by_cases n4 : d = 115
        · subst n4; rfl
        simp only [n1, n2, n3, n4, if_false]
        by_cases hx : d = 120
        · subst hx
          simp only [if_true]
          have g2 := sidx_at h 2
          have g3 := sidx_at h 3
          cases r2 with
          | nil => rw [if_pos (by simp)]; simp
          | cons e r3 =>
            have he := h e (by simp)
            have hf1 := fgv_rng e
            simp only [List.getElem?_cons_succ, List.getElem?_cons_zero] at g2 g3
            rw [if_neg (by simp; omega), g2]
            simp only [Option.bind_some, refFigure_spec he]
            by_cases hg : fgv e < 0
            · rw [if_pos (by simpa using hg), if_pos hg]; rfl
            · rw [if_neg (by simpa using hg), if_neg hg]
              cases r3 with
              | nil => rw [if_pos (by simp)]; simp
              | cons f r4 =>
                have hf := h f (by simp)
                have hf2 := fgv_rng f
                simp only [List.getElem?_cons_zero] at g3
                rw [if_neg (by simp; omega), g3]
                simp only [Option.bind_some, refFigure_spec hf]
                by_cases hg2 : fgv f < 0
                · rw [if_pos (by simpa using hg2), if_pos hg2]; rfl
                · rw [if_neg (by simpa using hg2), if_neg hg2, w64_id (x := 16 * fgv e) (by omega) (by omega), w64_id (by omega) (by omega), wrap8 (by omega)]
                  rfl
        · simp only [hx, if_false]
          have hm := byte_eq (fun x40 : Int => (if (decide (x40 ≥ 33)) = true then (if (decide (x40 ≤ 47)) = true then (some true) else (if (decide (x40 ≥ 58)) = true then (if (decide (x40 ≤ 64)) = true then (some true) else (if (decide (x40 ≥ 91)) = true then (if (decide (x40 ≤ 96)) = true then (some true) else (if (decide (x40 ≥ 123)) = true then (some (decide (x40 ≤ 126))) else (some false))) else (if (decide (x40 ≥ 123)) = true then (some (decide (x40 ≤ 126))) else (some false)))) else (if (decide (x40 ≥ 91)) = true then (if (decide (x40 ≤ 96)) = true then (some true) else (if (decide (x40 ≥ 123)) = true then (some (decide (x40 ≤ 126))) else (some false))) else (if (decide (x40 ≥ 123)) = true then (some (decide (x40 ≤ 126))) else (some false))))) else (if (decide (x40 ≥ 58)) = true then (if (decide (x40 ≤ 64)) = true then (some true) else (if (decide (x40 ≥ 91)) = true then (if (decide (x40 ≤ 96)) = true then (some true) else (if (decide (x40 ≥ 123)) = true then (some (decide (x40 ≤ 126))) else (some false))) else (if (decide (x40 ≥ 123)) = true then (some (decide (x40 ≤ 126))) else (some false)))) else (if (decide (x40 ≥ 91)) = true then (if (decide (x40 ≤ 96)) = true then (some true) else (if (decide (x40 ≥ 123)) = true then (some (decide (x40 ≤ 126))) else (some false))) else (if (decide (x40 ≥ 123)) = true then (some (decide (x40 ≤ 126))) else (some false)))))) (fun x40 => some (isMk x40)) (by decide +kernel) hd
          rw [hm]
          simp only [Option.bind_some]
          cases isMk d with
          | true => rfl
          | false => rfl
    · rw [if_pos (by simpa using hc), w64_succ (by omega)]
      simp only [ne_eq, hc, not_false_eq_true, if_true]
      rfl
end
end Go.Proofs.YticipjjhbebegaaDoor
namespace Go.Proofs.YticipjjhbebegaaDoor
open Go Go.Eng
set_option maxRecDepth 100000
def rdAll (l : List Int) : Nat → List Int → Nat → List Int × Nat
  | 0, out, _ => (out, 0)
  | k + 1, out, at_ => if at_ < l.length then (if (rdB l at_).2.2 ≠ 0 then ([], (rdB l at_).2.2) else rdAll l k (out ++ [(rdB l at_).1]) (rdB l at_).2.1) else (out, 0)
def rdW (w : List Int) : List Int × Nat := if w = [46] then ([], 0) else if w = [] then ([], 2) else rdAll w w.length [] 0
theorem rdB_prog {l : List Int} {a : Nat} (ha : a < l.length) : (rdB l a).2.2 ≤ 4 ∧ ((rdB l a).2.2 = 0 → a < (rdB l a).2.1 ∧ (rdB l a).2.1 ≤ l.length) := by
  have hd : (l.drop a).length = l.length - a := List.length_drop
  unfold rdB
  cases h0 : l.drop a with
  | nil => rw [h0] at hd; simp at hd; omega
  | cons c r =>
    rw [h0] at hd
    simp only [List.length_cons] at hd
    simp only []
    split
    · exact ⟨by simp, fun _ => by simp; omega⟩
    · cases r with
      | nil => exact ⟨by simp, fun h => by simp at h⟩
      | cons d r2 =>
        simp only [List.length_cons] at hd
        simp only []
        repeat' split
        all_goals first
          | exact ⟨by simp, fun _ => by simp; omega⟩
          | (simp only [List.length_cons] at hd; exact ⟨by simp, fun _ => ⟨by dsimp only; omega, by dsimp only; omega⟩⟩)
          | exact ⟨by simp, fun h => by simp at h⟩
theorem rdB_byte {l : List Int} {a : Nat} (h : Bys l) : 0 ≤ (rdB l a).1 ∧ (rdB l a).1 < 256 := by
  have hb : Bys (l.drop a) := fun c hc => h c (List.mem_of_mem_drop hc)
  unfold rdB
  cases h0 : l.drop a with
  | nil => simp
  | cons c r =>
    rw [h0] at hb
    have hc := hb c (by simp)
    simp only []
    split
    · exact hc
    · cases r with
      | nil => simp
      | cons d r2 =>
        have hd := hb d (by simp)
        simp only []
        repeat' split
        all_goals first | (simp; done) | exact hd | skip
        all_goals
          rename_i f1 hg1 _ f2 _ hg2
          have h1 := fgv_rng f1
          have h2 := fgv_rng f2
          refine ⟨?_, ?_⟩ <;> dsimp only <;> omega
theorem rdAll_bys {l : List Int} (h : Bys l) : ∀ (k : Nat) (out : List Int) (a : Nat), Bys out → Bys (rdAll l k out a).1
  | 0, out, _, ho => ho
  | k + 1, out, a, ho => by
    simp only [rdAll]
    split
    · split
      · intro c hc; simp at hc
      · refine rdAll_bys h k _ _ (fun c hc => ?_)
        rcases List.mem_append.1 hc with hc | hc
        · exact ho c hc
        · simp at hc; subst hc; exact rdB_byte h
    · exact ho
theorem rdAll_err {l : List Int} : ∀ (k : Nat) (out : List Int) (a : Nat), (rdAll l k out a).2 ≤ 4 ∧ ((rdAll l k out a).2 ≠ 0 → (rdAll l k out a).1 = [])
  | 0, out, _ => by simp [rdAll]
  | k + 1, out, a => by
    simp only [rdAll]
    split
    · rename_i ha
      split
      · exact ⟨(rdB_prog ha).1, fun _ => rfl⟩
      · exact rdAll_err k _ _
    · exact ⟨by simp, fun h => absurd rfl h⟩
theorem rdAll_len {l : List Int} : ∀ (k : Nat) (out : List Int) (a : Nat), (rdAll l k out a).1.length ≤ out.length + k
  | 0, out, _ => by simp [rdAll]
  | k + 1, out, a => by
    simp only [rdAll]
    split
    · split
      · simp
      · have := rdAll_len (l := l) k (out ++ [(rdB l a).1]) (rdB l a).2.1
        simp at this
        omega
    · simp
theorem rdW_err (w : List Int) : (rdW w).2 ≤ 4 ∧ ((rdW w).2 ≠ 0 → (rdW w).1 = []) := by
  unfold rdW
  split
  · simp
  · split
    · simp
    · exact rdAll_err _ _ _
theorem rdW_bys {w : List Int} (h : Bys w) : Bys (rdW w).1 := by
  unfold rdW
  split
  · intro c hc; simp at hc
  · split
    · intro c hc; simp at hc
    · exact rdAll_bys h _ _ _ (fun c hc => by simp at hc)
theorem rdW_len (w : List Int) : (rdW w).1.length ≤ w.length := by
  unfold rdW
  split
  · simp
  · split
    · simp
    · have := rdAll_len (l := w) w.length [] 0
      simpa using this
theorem eOk_ce {e : Nat} (h : e ≤ 4) : eOk errIds (ce e) = decide (e ≠ 0) := by
  have : e = 0 ∨ e = 1 ∨ e = 2 ∨ e = 3 ∨ e = 4 := by omega
  rcases this with rfl | rfl | rfl | rfl | rfl <;> decide
section
variable {N : Nat}
theorem read_at {l : List Int} {a : Nat} (hN : 4294967296 ≤ N) (h : Bys l) (hl : l.length ≤ 1000000) (ha : a ≤ l.length) : F_spell_Read_1 N (bstr l) (a : Int) = some ((rdB l a).1, (((rdB l a).2.1 : Nat) : Int), ce (rdB l a).2.2) := by
  have hta : (l.take a).length = a := by rw [List.length_take]; omega
  have := read_spec (N := N) (p := l.take a) (q := l.drop a) hN (by rw [List.take_append_drop]; exact h) (by rw [List.take_append_drop]; exact hl)
  rw [List.take_append_drop, hta] at this
  exact this
theorem refRead_at {l : List Int} {a : Nat} (h : Bys l) (hl : l.length ≤ 1000000) (ha : a ≤ l.length) : F_dofferref05_Read_1 N (bstr l) (a : Int) = some ((rdB l a).1, (((rdB l a).2.1 : Nat) : Int), (((rdB l a).2.2 : Nat) : Int)) := by
  have hta : (l.take a).length = a := by rw [List.length_take]; omega
  have := refRead_spec (N := N) (p := l.take a) (q := l.drop a) (by rw [List.take_append_drop]; exact h) (by rw [List.take_append_drop]; exact hl)
  rw [List.take_append_drop, hta] at this
  exact this
theorem bytes_loop {l : List Int} (hN : 4294967296 ≤ N) (h : Bys l) (hl : l.length ≤ 1000000) : ∀ (k : Nat) (out : List Int) (a M : Nat), l.length ≤ a + k → a ≤ l.length → k < M → out.length ≤ a →
    ∃ pl, iterO M (fun s => F_spell_Bytes_l0 N (bstr l) s.1 s.2) (out, (a : Int)) = some (if (rdAll l k out a).2 = 0 then .inl (rdAll l k out a).1 else .inr ([], pl, ce (rdAll l k out a).2)) := by
  intro k
  induction k with
  | zero =>
    intro out a M h1 h2 hM _
    obtain ⟨M, rfl⟩ : ∃ m, M = m + 1 := ⟨M - 1, by omega⟩
    refine ⟨0, ?_⟩
    simp only [iterO]
    unfold F_spell_Bytes_l0
    rw [bstr_size, if_neg (by simp; omega)]
    simp [rdAll]
  | succ k ih =>
    intro out a M h1 h2 hM ho
    obtain ⟨M, rfl⟩ : ∃ m, M = m + 1 := ⟨M - 1, by omega⟩
    simp only [iterO]
    by_cases ha : a < l.length
    · have hp := rdB_prog ha
      have e : F_spell_Bytes_l0 N (bstr l) out (a : Int) = if (rdB l a).2.2 ≠ 0 then some (.inr (.inr ([], (((rdB l a).2.1 : Nat) : Int), ce (rdB l a).2.2))) else some (.inl (out ++ [(rdB l a).1], (((rdB l a).2.1 : Nat) : Int))) := by
        unfold F_spell_Bytes_l0
        rw [bstr_size, if_pos (by simp; omega), read_at hN h hl h2]
        simp only [bind, Option.bind_some, eOk_ce hp.1, decide_eq_true_eq]
        split
        · rfl
        · rw [app_eq (by simp; omega)]; rfl
      rw [e]
      simp only [rdAll, ha, if_true]
      by_cases hz : (rdB l a).2.2 ≠ 0
      · simp only [hz, if_true, not_false_eq_true, ne_eq]
        exact ⟨_, rfl⟩
      · have hz' : (rdB l a).2.2 = 0 := by omega
        have hp2 := hp.2 hz'
        simp only [hz', ne_eq, not_true_eq_false, if_false]
        exact ih _ _ M (by omega) hp2.2 (by omega) (by simp; omega)
    · refine ⟨0, ?_⟩
      unfold F_spell_Bytes_l0
      rw [bstr_size, if_neg (by simp; omega)]
      simp [rdAll, ha]
theorem refBytes_loop {l : List Int} (h : Bys l) (hl : l.length ≤ 1000000) : ∀ (k : Nat) (out : List Int) (a M : Nat), l.length ≤ a + k → a ≤ l.length → k < M → out.length ≤ a →
    iterO M (fun s => F_dofferref36_bytes_l0 N (bstr l) s.1 s.2) (out, (a : Int)) = some (if (rdAll l k out a).2 = 0 then .inl (rdAll l k out a).1 else .inr ([], (((rdAll l k out a).2 : Nat) : Int))) := by
  intro k
  induction k with
  | zero =>
    intro out a M h1 h2 hM _
    obtain ⟨M, rfl⟩ : ∃ m, M = m + 1 := ⟨M - 1, by omega⟩
    simp only [iterO]
    unfold F_dofferref36_bytes_l0
    rw [bstr_size, if_neg (by simp; omega)]
    simp [rdAll]
  | succ k ih =>
    intro out a M h1 h2 hM ho
    obtain ⟨M, rfl⟩ : ∃ m, M = m + 1 := ⟨M - 1, by omega⟩
    simp only [iterO]
    by_cases ha : a < l.length
    · have hp := rdB_prog ha
      have e : F_dofferref36_bytes_l0 N (bstr l) out (a : Int) = if (rdB l a).2.2 ≠ 0 then some (.inr (.inr ([], (((rdB l a).2.2 : Nat) : Int)))) else some (.inl (out ++ [(rdB l a).1], (((rdB l a).2.1 : Nat) : Int))) := by
        unfold F_dofferref36_bytes_l0
        rw [bstr_size, if_pos (by simp; omega), refRead_at h hl h2]
        simp only [bind, Option.bind_some]
        by_cases hz : (rdB l a).2.2 ≠ 0
        · rw [if_pos (by simpa using hz), if_pos hz]
        · rw [if_neg (by simpa using hz), if_neg hz, app_eq (by simp; omega)]; rfl
      rw [e]
      simp only [rdAll, ha, if_true]
      by_cases hz : (rdB l a).2.2 ≠ 0
      · simp only [hz, if_true, not_false_eq_true, ne_eq, if_false]
      · have hz' : (rdB l a).2.2 = 0 := by omega
        have hp2 := hp.2 hz'
        simp only [hz', ne_eq, not_true_eq_false, if_false]
        exact ih _ _ M (by omega) hp2.2 (by omega) (by simp; omega)
    · unfold F_dofferref36_bytes_l0
      rw [bstr_size, if_neg (by simp; omega)]
      simp [rdAll, ha]
theorem is_dot {w : List Int} (h : Bys w) : ((bstr w).toList == (⟨#[46]⟩ : ByteArray).toList) = decide (w = [46]) := by
  rw [show (⟨#[46]⟩ : ByteArray) = bstr [46] from ba_ext (by rw [bstr_data]; rfl)]
  rw [Bool.eq_iff_iff, beq_iff_eq, decide_eq_true_iff, bstr_inj h (fun c hc => by simp at hc; omega)]
theorem is_emp {w : List Int} (h : Bys w) : ((bstr w).toList == ByteArray.empty.toList) = decide (w = []) := by
  rw [← bstr_nil, Bool.eq_iff_iff, beq_iff_eq, decide_eq_true_iff, bstr_inj h (fun c hc => by simp at hc)]
theorem scriptRead_spec {w : List Int} (hN : 4294967296 ≤ N) (h : Bys w) (hl : w.length ≤ 1000000) : F_script_read N (bstr w) = some ((rdW w).1, ce (rdW w).2) := by
  unfold F_script_read rdW
  rw [is_dot h, is_emp h]
  by_cases h1 : w = [46]
  · rw [if_pos (by simpa using h1), if_pos h1]; rfl
  rw [if_neg (by simpa using h1), if_neg h1]
  by_cases h2 : w = []
  · rw [if_pos (by simpa using h2), if_pos h2]; rfl
  rw [if_neg (by simpa using h2), if_neg h2]
  unfold F_spell_Bytes
  obtain ⟨pl, e⟩ := bytes_loop (N := N) hN h hl w.length [] 0 N (by omega) (by omega) (by omega) (by simp)
  rw [show ((0 : Nat) : Int) = 0 from rfl] at e
  rw [e]
  simp only [bind, Option.bind_some]
  have he := rdAll_err (l := w) w.length [] 0
  by_cases hz : (rdAll w w.length [] 0).2 = 0
  · rw [if_pos hz]; simp only [Option.bind_some, hz]; rfl
  · rw [if_neg hz]; simp only [Option.bind_some, he.2 hz]
theorem refBytes_spec {w : List Int} (hN : 4294967296 ≤ N) (h : Bys w) (hl : w.length ≤ 1000000) : F_dofferref36_bytes N (bstr w) = some ((rdW w).1, (((rdW w).2 : Nat) : Int)) := by
  unfold F_dofferref36_bytes rdW
  rw [is_dot h, is_emp h]
  by_cases h1 : w = [46]
  · rw [if_pos (by simpa using h1), if_pos h1]; rfl
  rw [if_neg (by simpa using h1), if_neg h1]
  by_cases h2 : w = []
  · rw [if_pos (by simpa using h2), if_pos h2]; rfl
  rw [if_neg (by simpa using h2), if_neg h2]
  have e := refBytes_loop (N := N) h hl w.length [] 0 N (by omega) (by omega) (by omega) (by simp)
  rw [show ((0 : Nat) : Int) = 0 from rfl] at e
  rw [e]
  simp only [bind, Option.bind_some]
  have he := rdAll_err (l := w) w.length [] 0
  by_cases hz : (rdAll w w.length [] 0).2 = 0
  · rw [if_pos hz]; simp only [hz]; rfl
  · rw [if_neg hz]; simp only [he.2 hz]
end
end Go.Proofs.YticipjjhbebegaaDoor
namespace Go.Proofs.YticipjjhbebegaaDoor
open Go Go.Eng
set_option maxRecDepth 100000
def hx (d : Int) : Int := if d < 10 then 48 + d else 87 + d
def isSp (c : Int) : Bool := [124, 42, 43, 63, 40, 41, 91, 93, 123, 125, 46, 92, 47].contains c
def spB (c : Int) : List Int :=
  if c = 10 then [92, 110] else if c = 9 then [92, 116] else if c = 13 then [92, 114] else if c = 32 then [92, 115] else
  if c < 33 ∨ c > 126 then [92, 120, hx (c / 16), hx (c % 16)] else if isSp c then [92, c] else [c]
def sp (b : List Int) : List Int := b.flatMap spB
end Go.Proofs.YticipjjhbebegaaDoor
namespace Go.Proofs.YticipjjhbebegaaDoor
open Go Go.Eng
set_option maxRecDepth 100000
/-- the forms: word, kind, letters -/
def fw : List (List Int × Int × List Int) :=
  [([111, 112, 101, 110], 1, []), ([102, 101, 101, 100], 2, [110, 98]), ([99, 108, 111, 115, 101], 3, [110]), ([105, 110, 115, 116, 97, 108, 108], 4, [110, 98]),
   ([100, 114, 97, 105, 110], 5, [110, 109]), ([116, 105, 99, 107], 6, []), ([101, 110, 100], 7, [110, 109])]
def fB (f : List Int × Int × List Int) : ByteArray × Int × ByteArray := (bstr f.1, f.2.1, bstr f.2.2)
open Classical in
noncomputable def parseF : List Int → List (List Int) → Int × Int × List Int → (Int × Int × List Int) × Nat
  | [], _, s => (s, 0)
  | _ :: _, [], s => (s, 0)
  | c :: cs, w :: ws, (n, m, b) =>
    if c = 98 then (if (rdW w).2 ≠ 0 then ((0, 0, []), (rdW w).2) else parseF cs ws (n, m, (rdW w).1))
    else if IsNum w then parseF cs ws (if c = 110 then (nval w, m, b) else (n, nval w, b)) else ((0, 0, []), 4)
noncomputable def parseAt (f : List Int × Int × List Int) (ws : List (List Int)) : (Int × Int × Int × List Int) × Nat :=
  if ws.length < f.2.2.length + 1 then ((0, 0, 0, []), 2) else if ws.length > f.2.2.length + 1 then ((0, 0, 0, []), 3) else
    if (parseF f.2.2 ws.tail (0, 0, [])).2 ≠ 0 then ((0, 0, 0, []), (parseF f.2.2 ws.tail (0, 0, [])).2) else ((f.2.1, (parseF f.2.2 ws.tail (0, 0, [])).1), 0)
noncomputable def parseP (l : List Int) : (Int × Int × Int × List Int) × Nat :=
  match fw.findIdx? (fun f => f.1 == (splitB l).headD []) with
  | none => ((0, 0, 0, []), 5)
  | some i => parseAt (fw.getD i ([], 0, [])) (splitB l)
theorem parseF_err : ∀ (cs : List Int) (ws : List (List Int)) (s : Int × Int × List Int), (parseF cs ws s).2 ≤ 4
  | [], _, s => by simp [parseF]
  | _ :: _, [], s => by simp [parseF]
  | c :: cs, w :: ws, (n, m, b) => by
    simp only [parseF]
    split
    · split
      · exact (rdW_err w).1
      · exact parseF_err cs ws _
    · split
      · exact parseF_err cs ws _
      · simp
theorem eOk_ce5 {e : Nat} (h : e ≤ 5) : eOk errIds (ce e) = decide (e ≠ 0) := by
  have : e = 0 ∨ e = 1 ∨ e = 2 ∨ e = 3 ∨ e = 4 ∨ e = 5 := by omega
  rcases this with rfl | rfl | rfl | rfl | rfl | rfl <;> decide
theorem parseP_err (l : List Int) : (parseP l).2 ≤ 5 := by
  unfold parseP
  split
  · simp
  · unfold parseAt
    split
    · simp
    · split
      · simp
      · split
        · exact Nat.le_succ_of_le (parseF_err _ _ _)
        · simp
theorem fw_ok : ∀ f ∈ fw, Bys f.1 ∧ Bys f.2.2 ∧ f.2.2.length ≤ 2 ∧ (∀ c ∈ f.2.2, c = 110 ∨ c = 109 ∨ c = 98) ∧ 1 ≤ f.2.1 ∧ f.2.1 ≤ 7 := by
  intro f hf
  simp only [fw, List.mem_cons, List.not_mem_nil, or_false] at hf
  rcases hf with rfl | rfl | rfl | rfl | rfl | rfl | rfl <;> refine ⟨by intro c hc; simp at hc; omega, by intro c hc; simp at hc; try omega, by simp, by intro c hc; simp at hc; try omega, by simp, by simp⟩
section
variable {N : Nat}
open Classical in
theorem field_spec {k n m : Int} {b w : List Int} {c : Int} (hN : 4294967296 ≤ N) (h : Bys w) (hl : w.length < 1000000) (hc : c = 110 ∨ c = 109 ∨ c = 98) :
    F_script_field_1 N k n m b c (bstr w) = some (if c = 98 then (n, m, (rdW w).1, ce (rdW w).2) else if IsNum w then (if c = 110 then (nval w, m, b, 0) else (n, nval w, b, 0)) else (if c = 110 then (0, m, b, 1) else (n, 0, b, 1))) := by
  unfold F_script_field_1
  rw [number_spec hN h hl, scriptRead_spec hN h (by omega)]
  rcases hc with rfl | rfl | rfl
  · by_cases hi : IsNum w
    · simp [hi]
    · simp [hi]
  · by_cases hi : IsNum w
    · simp [hi]
    · simp [hi]
  · simp
open Classical in
/-- the code's loop over the letters -/
theorem parse_loop {ws : List (List Int)} {f g : List Int × Int × List Int} (hN : 4294967296 ≤ N) (hw : ∀ w ∈ ws, Bys w ∧ w.length < 1000000) (hg : Bys g.2.2 ∧ g.2.2.length ≤ 2 ∧ ∀ c ∈ g.2.2, c = 110 ∨ c = 109 ∨ c = 98) (hws : ws.length = g.2.2.length + 1) :
    ∀ (cs pre : List Int) (rs pw : List (List Int)) (s : Int × Int × List Int) (M : Nat), g.2.2 = pre ++ cs → ws = pw ++ rs → pw.length = pre.length + 1 → cs.length < M →
      iterO M (fun s => F_script_Parse_1x_l0 N (ws.map bstr) (fB f) (fB g) s.1 s.2.1 s.2.2.1 s.2.2.2) ((pre.length : Int), s) =
        some (if (parseF cs rs s).2 = 0 then .inl (parseF cs rs s).1 else .inr (0, 0, 0, [], ce (parseF cs rs s).2)) := by
  intro cs
  induction cs with
  | nil =>
    intro pre rs pw s M hp hr hl hM
    obtain ⟨M, rfl⟩ : ∃ m, M = m + 1 := ⟨M - 1, by omega⟩
    simp only [iterO]
    unfold F_script_Parse_1x_l0
    simp only [fB, sby_bstr hg.1]
    rw [hp, if_neg (by simp)]
    simp [parseF]
  | cons c cs ih =>
    intro pre rs pw s M hp hr hl hM
    obtain ⟨M, rfl⟩ : ∃ m, M = m + 1 := ⟨M - 1, by omega⟩
    obtain ⟨n, m, b⟩ := s
    have hc := hg.2.2 c (by rw [hp]; simp)
    have hlen : g.2.2.length = pre.length + cs.length + 1 := by rw [hp]; simp; omega
    cases rs with
    | nil => rw [hr] at hws; simp at hws; omega
    | cons w rs =>
      have hww := hw w (by rw [hr]; simp)
      have e : F_script_Parse_1x_l0 N (ws.map bstr) (fB f) (fB g) (pre.length : Int) n m b = if c = 98 then (if (rdW w).2 ≠ 0 then some (.inr (.inr (0, 0, 0, [], ce (rdW w).2))) else some (.inl (((pre ++ [c]).length : Int), n, m, (rdW w).1)))
          else if IsNum w then some (.inl (((pre ++ [c]).length : Int), (if c = 110 then (nval w, m, b) else (n, nval w, b)))) else some (.inr (.inr (0, 0, 0, [], 1))) := by
        unfold F_script_Parse_1x_l0
        simp only [fB, sby_bstr hg.1]
        have g1 : idx g.2.2 (pre.length : Int) = some c := idx_of (by rw [hp]; simp)
        have g2 : idx (ws.map bstr) (w64 ((pre.length : Int) + 1)) = some (bstr w) := by
          rw [w64_succ (by omega)]
          exact idx_of (by rw [List.getElem?_map, hr, List.getElem?_append_right (by omega), hl]; simp)
        rw [if_pos (by simp; omega), g1]
        simp only [bind, Option.bind_some]
        rw [g2]
        simp only [Option.bind_some]
        rw [field_spec hN hww.1 hww.2 hc]
        simp only [Option.bind_some]
        rw [w64_succ (by omega), show ((pre ++ [c]).length : Int) = ((pre.length + 1 : Nat) : Int) by simp]
        by_cases h98 : c = 98
        · simp only [h98, if_true, eOk_ce (rdW_err w).1, decide_eq_true_eq]
        · simp only [h98, if_false]
          by_cases hi : IsNum w
          · simp only [hi, if_true]
            by_cases h110 : c = 110
            · simp only [h110, if_true]; rfl
            · simp only [h110, if_false]; rfl
          · simp only [hi, if_false]
            by_cases h110 : c = 110
            · simp only [h110, if_true]; rfl
            · simp only [h110, if_false]; rfl
      simp only [iterO]
      rw [e]
      simp only [parseF]
      have hp' : g.2.2 = (pre ++ [c]) ++ cs := by rw [hp]; simp
      have hr' : ws = (pw ++ [w]) ++ rs := by rw [hr]; simp
      have hl' : (pw ++ [w]).length = (pre ++ [c]).length + 1 := by simp; omega
      by_cases h98 : c = 98
      · simp only [h98, if_true]
        by_cases hz : (rdW w).2 ≠ 0
        · simp only [hz, if_true, ne_eq, not_false_eq_true, if_false]
        · simp only [hz, if_false]
          subst h98
          exact ih _ _ _ _ M hp' hr' hl' (by simp at hM; omega)
      · simp only [h98, if_false]
        by_cases hi : IsNum w
        · simp only [hi, if_true]
          exact ih _ _ _ _ M hp' hr' hl' (by simp at hM; omega)
        · simp only [hi, if_false]
          rfl
theorem findIdx?_ext {α : Type} {p q : α → Bool} : ∀ {l : List α}, (∀ x ∈ l, p x = q x) → l.findIdx? p = l.findIdx? q
  | [], _ => rfl
  | x :: l, h => by
    rw [List.findIdx?_cons, List.findIdx?_cons, h x (by simp), findIdx?_ext (l := l) (fun y hy => h y (by simp [hy]))]
theorem index_forms {ws : List (List Int)} (hw : ∀ w ∈ ws, Bys w) (hne : ws ≠ []) (hN : 4294967296 ≤ N) :
    F_slices_IndexFunc_script_form_script_form N (fw.map fB) (ws.map bstr) = some (match fw.findIdx? (fun f => f.1 == ws.headD []) with | some i => (i : Int) | none => -1) := by
  obtain ⟨w, rs, rfl⟩ := List.exists_cons_of_ne_nil hne
  unfold F_slices_IndexFunc_script_form_script_form
  have e : iterO N (fun s => F_slices_IndexFunc_script_form_script_form_l0 N (fw.map fB) ((w :: rs).map bstr) s) 0 = some (match (fw.map fB).findIdx? (fun f => f.1.toList == (bstr w).toList) with | some i => .inr (i : Int) | none => .inl ()) := by
    refine loop_find (fw.map fB) _ (fun i => (i : Int)) (by simp [fw]; omega) (fun i x hx => ?_) ?_
    · have hi := (List.getElem?_eq_some_iff.1 hx).1
      have hi2 : (fw.map fB).length = 7 := rfl
      unfold F_slices_IndexFunc_script_form_script_form_l0 F_script_Parse_1
      rw [if_pos (by simp at hi ⊢; omega), idx_of hx]
      simp only [bind, Option.bind_some]
      rw [show idx ((w :: rs).map bstr) 0 = some (bstr w) from idx_of (i := 0) rfl]
      simp only [Option.bind_some]
      rw [w64_succ (by omega)]
    · unfold F_slices_IndexFunc_script_form_script_form_l0
      rw [if_neg (by simp)]
  rw [e, List.findIdx?_map]
  have e2 : fw.findIdx? ((fun f : ByteArray × Int × ByteArray => f.1.toList == (bstr w).toList) ∘ fB) = fw.findIdx? (fun f => f.1 == (w :: rs).headD []) := by
    refine findIdx?_ext ?_
    intro f hf
    simp only [Function.comp, fB, List.headD_cons]
    rw [Bool.eq_iff_iff, beq_iff_eq, beq_iff_eq, bstr_inj (fw_ok f hf).1 (hw w (by simp))]
  rw [e2]
  cases fw.findIdx? (fun f => f.1 == (w :: rs).headD []) <;> rfl
end
end Go.Proofs.YticipjjhbebegaaDoor
namespace Go.Proofs.YticipjjhbebegaaDoor
open Go Go.Eng
set_option maxRecDepth 100000
theorem forms_lit : [((⟨#[111, 112, 101, 110]⟩ : ByteArray), (1 : Int), ByteArray.empty), ((⟨#[102, 101, 101, 100]⟩ : ByteArray), (2 : Int), (⟨#[110, 98]⟩ : ByteArray)), ((⟨#[99, 108, 111, 115, 101]⟩ : ByteArray), (3 : Int), (⟨#[110]⟩ : ByteArray)), ((⟨#[105, 110, 115, 116, 97, 108, 108]⟩ : ByteArray), (4 : Int), (⟨#[110, 98]⟩ : ByteArray)), ((⟨#[100, 114, 97, 105, 110]⟩ : ByteArray), (5 : Int), (⟨#[110, 109]⟩ : ByteArray)), ((⟨#[116, 105, 99, 107]⟩ : ByteArray), (6 : Int), ByteArray.empty), ((⟨#[101, 110, 100]⟩ : ByteArray), (7 : Int), (⟨#[110, 109]⟩ : ByteArray))] = fw.map fB := by kernel_rfl
theorem fw_len : fw.length = 7 := rfl
theorem find_fw {h : List Int} {i : Nat} (hf : fw.findIdx? (fun f => f.1 == h) = some i) : i < 7 ∧ fw[i]? = some (fw.getD i ([], 0, [])) ∧ fw.getD i ([], 0, []) ∈ fw ∧ (fw.getD i ([], 0, [])).1 = h := by
  obtain ⟨hi, hp, _⟩ := List.findIdx?_eq_some_iff_getElem.1 hf
  have e : fw[i]? = some (fw.getD i ([], 0, [])) := by rw [List.getD, List.getElem?_eq_getElem hi]; rfl
  refine ⟨hi, e, List.mem_of_getElem? e, ?_⟩
  have := (List.getElem?_eq_some_iff.1 e).2
  rw [this] at hp
  simpa using hp
theorem fw_kind {i : Nat} (hi : i < 7) : (fw.getD i ([], 0, [])).2.1 = ((i + 1 : Nat) : Int) := by
  have : i = 0 ∨ i = 1 ∨ i = 2 ∨ i = 3 ∨ i = 4 ∨ i = 5 ∨ i = 6 := by omega
  rcases this with rfl | rfl | rfl | rfl | rfl | rfl | rfl <;> rfl
section
variable {N : Nat}
theorem parse_spec {l : List Int} (hN : 4294967296 ≤ N) (h : Bys l) (hl : l.length < 1000000) :
    F_script_Parse_1x N (bstr l) = some ((parseP l).1.1, (parseP l).1.2.1, (parseP l).1.2.2.1, (parseP l).1.2.2.2, ce (parseP l).2) := by
  have hb := splitB_bys h
  have hne := splitB_ne l
  unfold F_script_Parse_1x F_script_forms
  rw [split_spec hN h (by omega), forms_lit]
  simp only [bind, Option.bind_some]
  rw [index_forms hb hne hN]
  simp only [Option.bind_some]
  unfold parseP
  cases hf : fw.findIdx? (fun f => f.1 == (splitB l).headD []) with
  | none => rfl
  | some i =>
    obtain ⟨hi, he, hm, _⟩ := find_fw hf
    simp only []
    generalize hg : fw.getD i ([], 0, []) = g at he hm ⊢
    have ok := fw_ok g hm
    rw [if_neg (by simp)]
    have ix : idx (fw.map fB) (i : Int) = some (fB g) := idx_of (by rw [List.getElem?_map, he]; rfl)
    rw [ix]
    simp only [Option.bind_some]
    have hwl : ((splitB l).map bstr).length = (splitB l).length := List.length_map _
    have hpos : 0 < (splitB l).length := List.length_pos_iff.2 hne
    have hlen := splitB_len l
    have hcl : l.count 32 ≤ l.length := List.count_le_length
    have e1 : w64 ((((splitB l).map bstr).length : Int) - 1) = (((splitB l).length - 1 : Nat) : Int) := by rw [hwl, w64_id] <;> omega
    have e2 : ((fB g).2.2.size : Int) = (g.2.2.length : Int) := by simp only [fB, bstr_size]
    rw [e1, e2]
    unfold parseAt
    by_cases h1 : (splitB l).length < g.2.2.length + 1
    · rw [if_pos (by simp; omega), if_pos h1]; rfl
    rw [if_neg (by simp; omega), if_neg h1]
    by_cases h2 : (splitB l).length > g.2.2.length + 1
    · rw [if_pos (by simp; omega), if_pos h2]; rfl
    rw [if_neg (by simp; omega), if_neg h2]
    obtain ⟨w, rs, hws⟩ := List.exists_cons_of_ne_nil hne
    have hw : ∀ w ∈ splitB l, Bys w ∧ w.length < 1000000 := fun w hw => ⟨hb w hw, by have := splitB_short _ _ hw; omega⟩
    have lp := parse_loop (N := N) (f := g) (g := g) hN hw ⟨ok.2.1, ok.2.2.1, ok.2.2.2.1⟩ (by omega) g.2.2 [] rs [w] (0, 0, []) N (by simp) (by rw [hws]; rfl) (by simp) (by have := ok.2.2.1; omega)
    rw [List.length_nil, show ((0 : Nat) : Int) = 0 from rfl] at lp
    rw [lp, hws, List.tail_cons]
    simp only [Option.bind_some]
    by_cases hz : (parseF g.2.2 rs (0, 0, [])).2 = 0
    · simp only [hz, if_true, ne_eq, not_true_eq_false, if_false, ce]
      rfl
    · simp only [hz, if_false, ne_eq, not_false_eq_true, if_true]
theorem refForm_spec {i : Nat} (hi : i < 7) : F_dofferref36_Form_1 N ((i + 1 : Nat) : Int) = some (bstr (fw.getD i ([], 0, [])).1, bstr (fw.getD i ([], 0, [])).2.2) := by
  have : i = 0 ∨ i = 1 ∨ i = 2 ∨ i = 3 ∨ i = 4 ∨ i = 5 ∨ i = 6 := by omega
  rcases this with rfl | rfl | rfl | rfl | rfl | rfl | rfl <;> rfl
open Classical in
theorem refNum_spec {w : List Int} (hN : 4294967296 ≤ N) (h : Bys w) (hl : w.length < 1000000) : F_dofferref36_Number N (bstr w) = some (if IsNum w then (nval w, true) else (0, false)) := refNumber_spec hN h hl
open Classical in
/-- the document's loop over the letters -/
theorem refParse_loop {ws : List (List Int)} {g : List Int × Int × List Int} (hN : 4294967296 ≤ N) (hw : ∀ w ∈ ws, Bys w ∧ w.length < 1000000) (hg : Bys g.2.2 ∧ g.2.2.length ≤ 2 ∧ ∀ c ∈ g.2.2, c = 110 ∨ c = 109 ∨ c = 98) (hws : ws.length = g.2.2.length + 1) :
    ∀ (cs pre : List Int) (rs pw : List (List Int)) (n m : Int) (b : List Int) (M : Nat), g.2.2 = pre ++ cs → ws = pw ++ rs → pw.length = pre.length + 1 → cs.length < M →
      iterO M (fun s => F_dofferref36_Parse_l1 N (ws.map bstr) (bstr g.2.2) s.1 s.2.1 s.2.2.1 s.2.2.2) (n, m, b, (pre.length : Int)) =
        some (if (parseF cs rs (n, m, b)).2 = 0 then .inl (parseF cs rs (n, m, b)).1 else .inr (.inr (.inr (0, 0, 0, [], (((parseF cs rs (n, m, b)).2 : Nat) : Int))))) := by
  intro cs
  induction cs with
  | nil =>
    intro pre rs pw n m b M hp hr hl hM
    obtain ⟨M, rfl⟩ : ∃ m, M = m + 1 := ⟨M - 1, by omega⟩
    simp only [iterO]
    unfold F_dofferref36_Parse_l1
    rw [bstr_size, hp, if_neg (by simp)]
    simp [parseF]
  | cons c cs ih =>
    intro pre rs pw n m b M hp hr hl hM
    obtain ⟨M, rfl⟩ : ∃ m, M = m + 1 := ⟨M - 1, by omega⟩
    have hc := hg.2.2 c (by rw [hp]; simp)
    have hlen : g.2.2.length = pre.length + cs.length + 1 := by rw [hp]; simp; omega
    cases rs with
    | nil => rw [hr] at hws; simp at hws; omega
    | cons w rs =>
      have hww := hw w (by rw [hr]; simp)
      have e : F_dofferref36_Parse_l1 N (ws.map bstr) (bstr g.2.2) n m b (pre.length : Int) = if c = 98 then (if (rdW w).2 ≠ 0 then some (.inr (.inr (.inr (.inr (0, 0, 0, [], (((rdW w).2 : Nat) : Int)))))) else some (.inl (n, m, (rdW w).1, ((pre ++ [c]).length : Int))))
          else if IsNum w then some (.inl ((if c = 110 then nval w else n), (if c = 110 then m else nval w), b, ((pre ++ [c]).length : Int))) else some (.inr (.inr (.inr (.inr (0, 0, 0, [], 4))))) := by
        unfold F_dofferref36_Parse_l1
        have g1 : sidx (bstr g.2.2) (pre.length : Int) = some c := by rw [sidx_bstr hg.1]; exact idx_of (by rw [hp]; simp)
        have g2 : idx (ws.map bstr) (w64 ((pre.length : Int) + 1)) = some (bstr w) := by
          rw [w64_succ (by omega)]
          exact idx_of (by rw [List.getElem?_map, hr, List.getElem?_append_right (by omega), hl]; simp)
        rw [bstr_size, if_pos (by simp; omega), g1, g2]
        simp only [bind, Option.bind_some]
        rw [refBytes_spec hN hww.1 (by omega), refNum_spec hN hww.1 hww.2]
        simp only [Option.bind_some]
        rw [w64_succ (by omega), show ((pre ++ [c]).length : Int) = ((pre.length + 1 : Nat) : Int) by simp]
        by_cases h98 : c = 98
        · simp only [h98, beq_self_eq_true, if_true]
          by_cases hz : (rdW w).2 = 0
          · simp [hz]
          · simp [hz]
        · rw [if_neg (by simpa using h98)]
          simp only [h98, if_false]
          by_cases hi : IsNum w
          · by_cases h110 : c = 110
            · simp [hi, h110]
            · simp [hi, h110]
          · simp [hi]
      simp only [iterO]
      rw [e]
      simp only [parseF]
      have hp' : g.2.2 = (pre ++ [c]) ++ cs := by rw [hp]; simp
      have hr' : ws = (pw ++ [w]) ++ rs := by rw [hr]; simp
      have hl' : (pw ++ [w]).length = (pre ++ [c]).length + 1 := by simp; omega
      by_cases h98 : c = 98
      · simp only [h98, if_true]
        by_cases hz : (rdW w).2 ≠ 0
        · simp only [hz, if_true, ne_eq, not_false_eq_true, if_false]
        · simp only [hz, if_false]
          subst h98
          exact ih _ _ _ _ _ _ M hp' hr' hl' (by simp at hM; omega)
      · simp only [h98, if_false]
        by_cases hi : IsNum w
        · simp only [hi, if_true]
          by_cases h110 : c = 110
          · subst h110
            simp only [if_true]
            exact ih _ _ _ _ _ _ M hp' hr' hl' (by simp at hM; omega)
          · simp only [h110, if_false]
            exact ih _ _ _ _ _ _ M hp' hr' hl' (by simp at hM; omega)
        · simp only [hi, if_false]
          rfl
theorem refParse_spec {l : List Int} (hN : 4294967296 ≤ N) (h : Bys l) (hl : l.length < 1000000) :
    F_dofferref36_Parse N (bstr l) = some ((parseP l).1.1, (parseP l).1.2.1, (parseP l).1.2.2.1, (parseP l).1.2.2.2, (((parseP l).2 : Nat) : Int)) := by
  have hb := splitB_bys h
  have hne := splitB_ne l
  obtain ⟨w, rs, hws⟩ := List.exists_cons_of_ne_nil hne
  have hw : ∀ w ∈ splitB l, Bys w ∧ w.length < 1000000 := fun w hw => ⟨hb w hw, by have := splitB_short _ _ hw; omega⟩
  have hlen := splitB_len l
  have hcl : l.count 32 ≤ l.length := List.count_le_length
  unfold F_dofferref36_Parse
  rw [words_spec hN h (by omega)]
  simp only [bind, Option.bind_some]
  have step : ∀ i, i < 7 → F_dofferref36_Parse_l0 N ((splitB l).map bstr) ((i + 1 : Nat) : Int) = if (fw.getD i ([], 0, [])).1 == w then some (.inr (.inr ((parseAt (fw.getD i ([], 0, [])) (splitB l)).1.1, (parseAt (fw.getD i ([], 0, [])) (splitB l)).1.2.1, (parseAt (fw.getD i ([], 0, [])) (splitB l)).1.2.2.1, (parseAt (fw.getD i ([], 0, [])) (splitB l)).1.2.2.2, (((parseAt (fw.getD i ([], 0, [])) (splitB l)).2 : Nat) : Int)))) else some (.inl ((i + 1 + 1 : Nat) : Int)) := by
    intro i hi
    have he : fw[i]? = some (fw.getD i ([], 0, [])) := by rw [List.getD, List.getElem?_eq_getElem (by rw [fw_len]; omega)]; rfl
    have hk := fw_kind hi
    unfold F_dofferref36_Parse_l0
    rw [if_pos (by simp; omega), refForm_spec hi]
    generalize hg : fw.getD i ([], 0, []) = g at he hk ⊢
    have ok := fw_ok g (List.mem_of_getElem? he)
    simp only [bind, Option.bind_some]
    rw [show idx ((splitB l).map bstr) 0 = some (bstr w) from idx_of (i := 0) (by rw [hws]; rfl)]
    simp only [Option.bind_some]
    have e0 : ((bstr g.1).toList != (bstr w).toList) = !(g.1 == w) := by
      rw [Bool.eq_iff_iff, bne_iff_ne, Ne, bstr_inj ok.1 (hb w (by rw [hws]; simp))]
      simp
    rw [e0]
    by_cases hgw : g.1 = w
    · have hgb : (g.1 == w) = true := by simpa using hgw
      rw [hgb, if_neg (by decide), if_pos (rfl : true = true)]
      have e2 : w64 (((bstr g.2.2).size : Int) + 1) = ((g.2.2.length + 1 : Nat) : Int) := by rw [bstr_size, w64_succ (by have := ok.2.2.1; omega)]
      rw [e2, List.length_map]
      unfold parseAt
      by_cases h1 : (splitB l).length < g.2.2.length + 1
      · rw [if_pos (by simp; omega), if_pos h1]; rfl
      rw [if_neg (by simp; omega), if_neg h1]
      by_cases h2 : (splitB l).length > g.2.2.length + 1
      · rw [if_pos (by simp; omega), if_pos h2]; rfl
      rw [if_neg (by simp; omega), if_neg h2]
      have lp := refParse_loop (N := N) (g := g) hN hw ⟨ok.2.1, ok.2.2.1, ok.2.2.2.1⟩ (by omega) g.2.2 [] rs [w] 0 0 [] N (by simp) (by rw [hws]; rfl) (by simp) (by have := ok.2.2.1; omega)
      rw [List.length_nil, show ((0 : Nat) : Int) = 0 from rfl] at lp
      rw [lp, hws, List.tail_cons]
      simp only [Option.bind_some]
      by_cases hz : (parseF g.2.2 rs (0, 0, [])).2 = 0
      · simp only [hz, if_true, ne_eq, not_true_eq_false, if_false]
        rw [hk]
        rfl
      · simp only [hz, if_false, ne_eq, not_false_eq_true, if_true]
    · rw [if_pos (by simpa using hgw), if_neg (by simpa using hgw), w64_succ (by omega)]
  have hd : (splitB l).headD [] = w := by rw [hws]; rfl
  unfold parseP
  rw [hd]
  have e : iterO N (fun s => F_dofferref36_Parse_l0 N ((splitB l).map bstr) s) 1 = some (match fw.findIdx? (fun f => f.1 == w) with | none => .inl () | some i => .inr ((parseAt (fw.getD i ([], 0, [])) (splitB l)).1.1, (parseAt (fw.getD i ([], 0, [])) (splitB l)).1.2.1, (parseAt (fw.getD i ([], 0, [])) (splitB l)).1.2.2.1, (parseAt (fw.getD i ([], 0, [])) (splitB l)).1.2.2.2, (((parseAt (fw.getD i ([], 0, [])) (splitB l)).2 : Nat) : Int))) := by
    cases hf : fw.findIdx? (fun f => f.1 == w) with
    | none =>
      have h' := List.findIdx?_eq_none_iff.1 hf
      refine iterO_for0 (fun i => ((i + 1 : Nat) : Int)) 7 rfl (by omega) (fun i hi => ?_) ?_
      · have he : fw[i]? = some (fw.getD i ([], 0, [])) := by rw [List.getD, List.getElem?_eq_getElem (by rw [fw_len]; omega)]; rfl
        have := h' _ (List.mem_of_getElem? he)
        rw [step i hi, if_neg (by simpa using this)]
      · unfold F_dofferref36_Parse_l0
        rw [if_neg (by decide)]
    | some k =>
      obtain ⟨hk, hp, hlt⟩ := List.findIdx?_eq_some_iff_getElem.1 hf
      rw [fw_len] at hk
      have gd : ∀ i, (hi : i < 7) → fw.getD i ([], 0, []) = fw[i] := fun i hi => by rw [List.getD, List.getElem?_eq_getElem (by rw [fw_len]; omega)]; rfl
      refine iterO_for0 (fun i => ((i + 1 : Nat) : Int)) k rfl (by omega) (fun i hi => ?_) ?_
      · have := hlt i hi
        rw [step i (by omega), if_neg (by rw [gd i (by omega)]; exact this)]
      · rw [step k hk, if_pos (by rw [gd k hk]; exact hp)]
  rw [e]
  simp only [Option.bind_some]
  cases fw.findIdx? (fun f => f.1 == w) with
  | none => rfl
  | some i => rfl
end
end Go.Proofs.YticipjjhbebegaaDoor
namespace Go.Proofs.YticipjjhbebegaaDoor
open Go Go.Eng
set_option maxRecDepth 100000
def TextOk (f : List Int × Int × List Int) (n m : Int) (b : List Int) : Prop :=
  n.natAbs < 1000000000 ∧ m.natAbs < 1000000000 ∧ (110 ∉ f.2.2 → n = 0) ∧ (109 ∉ f.2.2 → m = 0) ∧ (98 ∉ f.2.2 → b = [])
instance (f : List Int × Int × List Int) (n m : Int) (b : List Int) : Decidable (TextOk f n m b) := by unfold TextOk; infer_instance
theorem fw_letters {f : List Int × Int × List Int} (hf : f ∈ fw) : (f.2.2 = [] ∨ f.2.2 = [110, 98] ∨ f.2.2 = [110] ∨ f.2.2 = [110, 109]) ∧ 32 ∉ f.1 ∧ f.1.length ≤ 7 := by
  simp only [fw, List.mem_cons, List.not_mem_nil, or_false] at hf
  rcases hf with rfl | rfl | rfl | rfl | rfl | rfl | rfl <;> simp
end Go.Proofs.YticipjjhbebegaaDoor
namespace Go.Proofs.YticipjjhbebegaaDoor
open Go Go.Eng
set_option maxRecDepth 100000
open Classical in
theorem parseF_ok {f : List Int × Int × List Int} {ws : List (List Int)} {n m : Int} {b : List Int} (hf : f ∈ fw) (hw : ∀ w ∈ ws, Bys w) (hl : ws.length = f.2.2.length) (h : parseF f.2.2 ws (0, 0, []) = ((n, m, b), 0)) :
    TextOk f n m b ∧ Bys b ∧ ∀ k, (∀ w ∈ ws, w.length ≤ k) → b.length ≤ k := by
  have fl := (fw_letters hf).1
  obtain ⟨w0, k0, ls⟩ := f
  simp only at fl hl h ⊢
  have rng : ∀ w, IsNum w → (nval w).natAbs < 1000000000 := fun w hi => by have := nval_rng hi.1 hi.2.2.1; omega
  rcases fl with rfl | rfl | rfl | rfl
  · obtain rfl : ws = [] := List.length_eq_zero_iff.1 hl
    simp only [parseF, Prod.mk.injEq] at h
    obtain ⟨⟨rfl, rfl, rfl⟩, _⟩ := h
    exact ⟨⟨by decide, by decide, fun _ => rfl, fun _ => rfl, fun _ => rfl⟩, fun c hc => by simp at hc, fun k _ => by simp⟩
  · obtain ⟨u, v, rfl⟩ : ∃ u v, ws = [u, v] := by
      match ws, hl with
      | [u, v], _ => exact ⟨u, v, rfl⟩
    simp only [parseF] at h
    rw [if_neg (by decide)] at h
    by_cases hi : IsNum u
    · simp only [hi, if_true] at h
      by_cases hz : (rdW v).2 ≠ 0
      · rw [if_pos hz] at h
        simp only [Prod.mk.injEq] at h
        exact absurd h.2 hz
      · rw [if_neg hz] at h
        simp only [Prod.mk.injEq] at h
        obtain ⟨⟨rfl, rfl, rfl⟩, _⟩ := h
        exact ⟨⟨rng u hi, by decide, fun h => by simp at h, fun _ => rfl, fun h => by simp at h⟩, rdW_bys (hw v (by simp)), fun k hk => Nat.le_trans (rdW_len v) (hk v (by simp))⟩
    · simp [hi] at h
  · obtain ⟨u, rfl⟩ : ∃ u, ws = [u] := by
      match ws, hl with
      | [u], _ => exact ⟨u, rfl⟩
    simp only [parseF] at h
    rw [if_neg (by decide)] at h
    by_cases hi : IsNum u
    · simp only [hi, if_true, Prod.mk.injEq] at h
      obtain ⟨⟨rfl, rfl, rfl⟩, _⟩ := h
      exact ⟨⟨rng u hi, by decide, fun h => by simp at h, fun _ => rfl, fun _ => rfl⟩, fun c hc => by simp at hc, fun k _ => by simp⟩
    · simp [hi] at h
  · obtain ⟨u, v, rfl⟩ : ∃ u v, ws = [u, v] := by
      match ws, hl with
      | [u, v], _ => exact ⟨u, v, rfl⟩
    simp only [parseF] at h
    rw [if_neg (by decide)] at h
    by_cases hi : IsNum u
    · by_cases hi2 : IsNum v
      · simp [hi, hi2] at h
        obtain ⟨rfl, rfl, rfl⟩ := h
        exact ⟨⟨rng u hi, rng v hi2, fun h => by simp at h, fun h => by simp at h, fun _ => rfl⟩, fun c hc => by simp at hc, fun k _ => by simp⟩
      · simp [hi, hi2] at h
    · simp [hi] at h
theorem parseP_ok {l : List Int} {k n m : Int} {b : List Int} (h : Bys l) (hp : parseP l = ((k, n, m, b), 0)) :
    ∃ i, i < 7 ∧ k = ((i + 1 : Nat) : Int) ∧ TextOk (fw.getD i ([], 0, [])) n m b ∧ Bys b ∧ b.length ≤ l.length := by
  unfold parseP at hp
  cases hf : fw.findIdx? (fun f => f.1 == (splitB l).headD []) with
  | none => rw [hf] at hp; simp at hp
  | some i =>
    rw [hf] at hp
    obtain ⟨hi, he, hm, _⟩ := find_fw hf
    simp only [parseAt] at hp
    refine ⟨i, hi, ?_⟩
    rw [← fw_kind hi]
    split at hp
    · simp at hp
    · split at hp
      · simp at hp
      · rename_i h1 h2
        split at hp
        · rename_i hz
          simp only [Prod.mk.injEq] at hp
          exact absurd hp.2 hz
        · rename_i hz
          have hz : (parseF (fw.getD i ([], 0, [])).2.2 (splitB l).tail (0, 0, [])).2 = 0 := by omega
          simp only [Prod.mk.injEq] at hp
          obtain ⟨⟨rfl, hp⟩, _⟩ := hp
          have hpf : parseF (fw.getD i ([], 0, [])).2.2 (splitB l).tail (0, 0, []) = ((n, m, b), 0) := by
            rw [← hz, ← hp]
          obtain ⟨r1, r2, r3⟩ := parseF_ok hm (fun w hw => splitB_bys h w (List.mem_of_mem_tail hw)) (by rw [List.length_tail]; omega) hpf
          exact ⟨rfl, r1, r2, r3 _ (fun w hw => splitB_short _ _ (List.mem_of_mem_tail hw))⟩
section
variable {N : Nat}
theorem same_spec {k n m k' n' m' : Int} {b b' : List Int} (hb : Bys b) (hb' : Bys b') : F_dofferref36_Same N k n m b k' n' m' b' = some (decide (k = k' ∧ n = n' ∧ m = m' ∧ b = b')) := by
  unfold F_dofferref36_Same
  have e : ((bstr b).toList == (bstr b').toList) = decide (b = b') := by
    rw [Bool.eq_iff_iff, beq_iff_eq, decide_eq_true_iff, bstr_inj hb hb']
  rw [e]
  by_cases h1 : k = k'
  · by_cases h2 : n = n'
    · by_cases h3 : m = m'
      · simp [h1, h2, h3]
      · simp [h1, h2, h3]
    · simp [h1, h2]
  · simp [h1]
end
theorem num_all (e : Nat) (h : e ≤ 5) : F_doffernum_Num 4294967296 (ce e) = some ((e : Nat) : Int) := by
  have : e = 0 ∨ e = 1 ∨ e = 2 ∨ e = 3 ∨ e = 4 ∨ e = 5 := by omega
  rcases this with rfl | rfl | rfl | rfl | rfl | rfl
  · exact (by kernel_rfl : F_doffernum_Num 4294967296 0 = some 0)
  · exact (by kernel_rfl : F_doffernum_Num 4294967296 2 = some 1)
  · exact (by kernel_rfl : F_doffernum_Num 4294967296 3 = some 2)
  · exact (by kernel_rfl : F_doffernum_Num 4294967296 4 = some 3)
  · exact (by kernel_rfl : F_doffernum_Num 4294967296 1 = some 4)
  · exact (by kernel_rfl : F_doffernum_Num 4294967296 5 = some 5)
end Go.Proofs.YticipjjhbebegaaDoor
namespace Go.Proofs.YticipjjhbebegaaDoor
open Go Go.Eng
set_option maxRecDepth 100000
def joinN : List (List Int) → List Int
  | [] => []
  | [w] => w
  | w :: v :: ws => w ++ 10 :: joinN (v :: ws)
theorem joinN_snoc : ∀ (ws : List (List Int)) (w : List Int), ws ≠ [] → joinN (ws ++ [w]) = joinN ws ++ 10 :: w
  | [], _, h => absurd rfl h
  | [v], w, _ => by simp [joinN]
  | v :: u :: ws, w, _ => by
    have := joinN_snoc (u :: ws) w (by simp)
    simp only [List.cons_append, joinN] at this ⊢
    rw [this]
    simp
theorem joinN_bys : ∀ (ws : List (List Int)), (∀ w ∈ ws, Bys w) → Bys (joinN ws)
  | [], _ => by intro c hc; simp [joinN] at hc
  | [w], h => by simp only [joinN]; exact h w (by simp)
  | w :: v :: ws, h => by
    simp only [joinN]
    intro c hc
    rcases List.mem_append.1 hc with hc | hc
    · exact h w (by simp) c hc
    · rcases List.mem_cons.1 hc with rfl | hc
      · omega
      · exact joinN_bys (v :: ws) (fun x hx => h x (by simp at hx ⊢; right; exact hx)) c hc
theorem joinN_len {k : Nat} : ∀ (ws : List (List Int)), (∀ w ∈ ws, w.length ≤ k) → (joinN ws).length ≤ ws.length * (k + 1)
  | [], _ => by simp [joinN]
  | [w], h => by have := h w (by simp); simp [joinN]; omega
  | w :: v :: ws, h => by
    have h1 := h w (by simp)
    have h2 := joinN_len (v :: ws) (fun x hx => h x (by simp at hx ⊢; right; exact hx))
    simp only [joinN, List.length_append, List.length_cons] at h2 ⊢
    have e : (ws.length + 1 + 1) * (k + 1) = (ws.length + 1) * (k + 1) + (k + 1) := by rw [Nat.add_mul (ws.length + 1) 1 (k + 1), Nat.one_mul]
    rw [e]
    omega
noncomputable def scr : List (List Int) → Nat → List (Int × Int × Int × List Int) → List (Int × Int × Int × List Int) × Nat × Nat
  | [], _, out => (out, 0, 0)
  | l :: ls, i, out => if l = [] then scr ls (i + 1) out else if (parseP l).2 ≠ 0 then (out, (parseP l).2, i) else scr ls (i + 1) (out ++ [(parseP l).1])
theorem scr_snoc (l : List Int) : ∀ (ls : List (List Int)) (i : Nat) (out : List (Int × Int × Int × List Int)), scr (ls ++ [l]) i out =
    if (scr ls i out).2.1 ≠ 0 then scr ls i out else if l = [] then ((scr ls i out).1, 0, 0) else if (parseP l).2 ≠ 0 then ((scr ls i out).1, (parseP l).2, i + ls.length) else ((scr ls i out).1 ++ [(parseP l).1], 0, 0)
  | [], i, out => by simp [scr]
  | v :: ls, i, out => by
    simp only [List.cons_append, scr]
    by_cases hv : v = []
    · simp only [hv, if_true]
      rw [scr_snoc l ls]
      simp only [List.length_cons, Nat.add_assoc, Nat.add_comm 1]
    · simp only [hv, if_false]
      by_cases hz : (parseP v).2 ≠ 0
      · simp only [hz, if_true, ne_eq, not_false_eq_true]
      · simp only [hz, if_false]
        rw [scr_snoc l ls]
        simp only [List.length_cons, Nat.add_assoc, Nat.add_comm 1]
theorem scr_err : ∀ (ls : List (List Int)) (i : Nat) (out : List (Int × Int × Int × List Int)), (scr ls i out).2.1 ≤ 5
  | [], _, _ => by simp [scr]
  | v :: ls, i, out => by
    simp only [scr]
    split
    · exact scr_err ls _ _
    · split
      · exact parseP_err v
      · exact scr_err ls _ _
theorem scr_at : ∀ (ls : List (List Int)) (i : Nat) (out : List (Int × Int × Int × List Int)), (scr ls i out).2.2 ≤ i + ls.length ∧ ((scr ls i out).2.1 = 0 → (scr ls i out).2.2 = 0)
  | [], _, _ => by simp [scr]
  | v :: ls, i, out => by
    simp only [scr, List.length_cons]
    split
    · have := scr_at ls (i + 1) out; exact ⟨by omega, this.2⟩
    · split
      · rename_i h; exact ⟨by simp, fun hz => absurd hz h⟩
      · have := scr_at ls (i + 1) (out ++ [(parseP v).1]); exact ⟨by omega, this.2⟩
theorem scr_len : ∀ (ls : List (List Int)) (i : Nat) (out : List (Int × Int × Int × List Int)), (scr ls i out).1.length ≤ out.length + ls.length
  | [], _, _ => by simp [scr]
  | v :: ls, i, out => by
    simp only [scr, List.length_cons]
    split
    · have := scr_len ls (i + 1) out; omega
    · split
      · simp
      · have := scr_len ls (i + 1) (out ++ [(parseP v).1]); simp at this; omega
theorem parseP_bys {l : List Int} (h : Bys l) (hz : (parseP l).2 = 0) : Bys (parseP l).1.2.2.2 := by
  rcases hpp : parseP l with ⟨⟨k, n, m, b⟩, e⟩
  rw [hpp] at hz
  simp only at hz
  subst hz
  obtain ⟨i, _, _, _, hb, _⟩ := parseP_ok h hpp
  exact hb
theorem scr_bys : ∀ (ls : List (List Int)) (i : Nat) (out : List (Int × Int × Int × List Int)), (∀ l ∈ ls, Bys l) → (∀ o ∈ out, Bys o.2.2.2) → ∀ o ∈ (scr ls i out).1, Bys o.2.2.2
  | [], _, _, _, h => by simpa [scr] using h
  | v :: ls, i, out, hl, h => by
    simp only [scr]
    have hv := hl v (by simp)
    have hl' : ∀ l ∈ ls, Bys l := fun l hm => hl l (by simp [hm])
    split
    · exact scr_bys ls _ _ hl' h
    · split
      · exact h
      · rename_i hz
        refine scr_bys ls _ _ hl' (fun o ho => ?_)
        rcases List.mem_append.1 ho with ho | ho
        · exact h o ho
        · rw [List.mem_singleton] at ho
          subst ho
          exact parseP_bys hv (by omega)
section
variable {N : Nat}
theorem index10_spec {l : List Int} (h : Bys l) : F_strings_Index_2 N (bstr l) = some (match l.findIdx? (· == 10) with | some i => (i : Int) | none => -1) := by
  unfold F_strings_Index_2 F_internal_stringslite_Index_2
  have e : ((⟨#[10]⟩ : ByteArray).toList == (bstr l).toList) = decide (l = [10]) := by
    rw [show (⟨#[10]⟩ : ByteArray) = bstr [10] from ba_ext (by rw [bstr_data]; rfl)]
    rw [Bool.eq_iff_iff, beq_iff_eq, decide_eq_true_iff, bstr_inj (fun c hc => by simp at hc; omega) h]
    exact eq_comm
  simp only [bind, Option.bind_some, e, F_internal_stringslite_IndexByte_6]
  by_cases hl : l = [10]
  · subst hl; rfl
  · simp only [hl, decide_false, Bool.false_eq_true, if_false, Option.bind_some]
    rw [sfind_bstr h (by omega)] <;> rfl
theorem round_spec {w : List Int} {i : Nat} {out : List (Int × Int × Int × List Int)} (hN : 4294967296 ≤ N) (h : Bys w) (hl : w.length < 1000000) (hi : i < 1000000) (ho : out.length < 1000000) :
    F_script_Script_r0 N (bstr w) out (i : Int) = some (if w = [] then (.inl (out, ((i + 1 : Nat) : Int)), true) else if (parseP w).2 ≠ 0 then (.inr (out, (i : Int), ce (parseP w).2), false) else (.inl (out ++ [(parseP w).1], ((i + 1 : Nat) : Int)), true)) := by
  unfold F_script_Script_r0
  have e : ((bstr w).toList != ByteArray.empty.toList) = !decide (w = []) := by
    rw [← bstr_nil, Bool.eq_iff_iff, bne_iff_ne, Ne, bstr_inj h (fun c hc => by simp at hc)]
    simp
  rw [e]
  by_cases hw : w = []
  · subst hw
    simp only [decide_true, Bool.not_true, Bool.false_eq_true, if_false, if_true, bind, Option.bind_some]
    rw [w64_succ (by omega)]
  · simp only [hw, decide_false, Bool.not_false, if_true, if_false]
    rw [parse_spec hN h hl]
    simp only [bind, Option.bind_some]
    rw [eOk_ce5 (parseP_err w)]
    by_cases hz : (parseP w).2 = 0
    · simp only [hz, ne_eq, not_true_eq_false, decide_false, Bool.false_eq_true, if_false]
      rw [app_eq (by simp; omega)]
      simp only [Option.bind_some]
      rw [w64_succ (by omega)]
    · simp only [hz, ne_eq, not_false_eq_true, decide_true, if_true, Option.bind_some]
theorem cut_first : ∀ {w : List Int} (r : List Int), 10 ∉ w → (w ++ 10 :: r).findIdx? (· == 10) = some w.length
  | [], r, _ => by simp [List.findIdx?_cons]
  | c :: w, r, h => by
    have hc : c ≠ 10 := fun e => h (by simp [e])
    have := cut_first (w := w) r (fun e => h (by simp [e]))
    rw [List.cons_append, List.findIdx?_cons, this]
    simp [hc]
theorem index10_none {w : List Int} (h : Bys w) (h10 : 10 ∉ w) : F_strings_Index_2 N (bstr w) = some (-1) := by
  rw [index10_spec h, List.findIdx?_eq_none_iff.2 (fun x hx => by simpa using fun (e : x = 10) => h10 (e ▸ hx))]
theorem index10_cut {w r : List Int} (h : Bys (w ++ 10 :: r)) (h10 : 10 ∉ w) : F_strings_Index_2 N (bstr (w ++ 10 :: r)) = some (w.length : Int) := by
  rw [index10_spec h, cut_first _ h10]
theorem script_loop (hN : 4294967296 ≤ N) : ∀ (ws : List (List Int)) (i : Nat) (out : List (Int × Int × Int × List Int)) (M : Nat), ws ≠ [] → (∀ w ∈ ws, Bys w ∧ 10 ∉ w ∧ w.length < 1000000) → (joinN ws).length ≤ 1000000 → out.length + ws.length ≤ 1000000 → i + ws.length ≤ 1000000 → ws.length ≤ M →
    ((iterO M (fun s => F_strings_splitSeq_1_l0 N (YS (σ1 := (List (Int × Int × Int × (List Int))) × Int) (σ2 := (List (Int × Int × Int × (List Int))) × Int × Int) (fun x s => F_script_Script_r0 N x s.1 s.2)) s.1 s.2) (.inl (out, (i : Int)), bstr (joinN ws))) >>= fun z => match z with
      | .inr z => some z
      | .inl (x181, x183) => (YS (σ1 := (List (Int × Int × Int × (List Int))) × Int) (σ2 := (List (Int × Int × Int × (List Int))) × Int × Int) (fun x s => F_script_Script_r0 N x s.1 s.2)) x183 x181 >>= fun q240 => some (q240.1, q240.2)) =
      some (if (scr ws i out).2.1 = 0 then (.inl ((scr ws i out).1, ((i + ws.length : Nat) : Int)), true) else (.inr ((scr ws i out).1, ((scr ws i out).2.2 : Int), ce (scr ws i out).2.1), false)) := by
  intro ws
  induction ws with
  | nil => intro _ _ _ h; exact absurd rfl h
  | cons w ws ih =>
    intro i out M _ hw hj ho hi hM
    obtain ⟨M, rfl⟩ : ∃ m, M = m + 1 := ⟨M - 1, by simp at hM; omega⟩
    obtain ⟨hb, h10, hl⟩ := hw w (by simp)
    have hb' := joinN_bys (w :: ws) (fun x hx => (hw x hx).1)
    simp only [List.length_cons] at ho hi hM
    have rs := round_spec (N := N) (w := w) (i := i) (out := out) hN hb hl (by omega) (by omega)
    simp only [iterO]
    unfold F_strings_splitSeq_1_l0
    cases ws with
    | nil =>
      simp only [joinN]
      rw [index10_none hb h10]
      simp only [bind, Option.bind_some, show decide ((-1 : Int) < 0) = true from rfl, if_true, YS, Option.bind_some]
      rw [rs]
      simp only [scr, Option.bind_some, List.length_cons, List.length_nil]
      by_cases h0 : w = []
      · simp [h0]
      · by_cases hz : (parseP w).2 = 0
        · simp [h0, hz]
        · simp [h0, hz]
    | cons v ws =>
      simp only [joinN] at hj hb' ⊢
      rw [index10_cut hb' h10]
      simp only [bind, Option.bind_some]
      have hjl : (w ++ 10 :: joinN (v :: ws)).length = w.length + (joinN (v :: ws)).length + 1 := by simp; omega
      rw [if_neg (by simp), Int.add_zero, w64_id (by omega) (by omega)]
      rw [show sslc (bstr (w ++ 10 :: joinN (v :: ws))) 0 (w.length : Int) = some (bstr w) by
        have := sslc_bstr (l := w ++ 10 :: joinN (v :: ws)) (lo := 0) (hi := w.length) (by omega) (by omega)
        simpa using this]
      rw [bstr_size, w64_succ (by omega)]
      rw [show sslc (bstr (w ++ 10 :: joinN (v :: ws))) ((w.length + 1 : Nat) : Int) ((w ++ 10 :: joinN (v :: ws)).length : Int) = some (bstr (joinN (v :: ws))) by
        rw [sslc_bstr (by omega) (by omega), List.take_length]
        congr 2
        rw [List.drop_append]
        simp]
      simp only [Option.bind_some, YS]
      rw [rs]
      simp only [Option.bind_some]
      have ih' := fun out' (ho' : out'.length + (ws.length + 1) ≤ 1000000) => ih (i + 1) out' M (by simp) (fun x hx => hw x (by simp at hx ⊢; right; exact hx)) (by omega) (by simpa using ho') (by simp at hi ⊢; omega) (by simp at hM ⊢; omega)
      have el : i + 1 + (v :: ws).length = i + (w :: v :: ws).length := by simp; omega
      rw [el] at ih'
      by_cases h0 : w = []
      · simp only [h0, if_true, Bool.not_true, Bool.false_eq_true, if_false, scr]
        have := ih' out (by simp at ho; omega)
        simp only [scr, bind, YS] at this
        rw [h0] at this
        exact this
      · by_cases hz : (parseP w).2 = 0
        · have := ih' (out ++ [(parseP w).1]) (by simp at ho ⊢; omega)
          simp only [h0, hz, if_false, ne_eq, not_true_eq_false, Bool.not_true, Bool.false_eq_true]
          rw [show scr (w :: v :: ws) i out = scr (v :: ws) (i + 1) (out ++ [(parseP w).1]) by rw [scr]; simp only [h0, hz, ne_eq, not_true_eq_false, if_false]]
          exact this
        · simp only [h0, hz, if_false, ne_eq, not_false_eq_true, if_true, Bool.not_false, Option.bind_some]
          rw [show scr (w :: v :: ws) i out = (out, (parseP w).2, i) by rw [scr]; simp only [h0, hz, ne_eq, not_false_eq_true, if_false, if_true]]
          simp only [hz, if_false]
theorem script_spec {ws : List (List Int)} (hN : 4294967296 ≤ N) (hw : ∀ w ∈ ws, Bys w ∧ 10 ∉ w ∧ w.length < 1000000) (hj : (joinN ws).length ≤ 1000000) (hl : ws.length < 1000000) :
    F_script_Script N (bstr (joinN ws)) = some ((scr ws 0 []).1, ((scr ws 0 []).2.2 : Int), ce (scr ws 0 []).2.1) := by
  have key : ∀ vs : List (List Int), vs ≠ [] → (∀ w ∈ vs, Bys w ∧ 10 ∉ w ∧ w.length < 1000000) → (joinN vs).length ≤ 1000000 → vs.length ≤ 1000000 → F_script_Script N (bstr (joinN vs)) = some ((scr vs 0 []).1, ((scr vs 0 []).2.2 : Int), ce (scr vs 0 []).2.1) := by
    intro vs hne hw hj hl
    have key2 : F_strings_splitSeq_1 N (YS (σ1 := (List (Int × Int × Int × (List Int))) × Int) (σ2 := (List (Int × Int × Int × (List Int))) × Int × Int) (fun x s => F_script_Script_r0 N x s.1 s.2)) (.inl ([], 0)) (bstr (joinN vs)) = some (if (scr vs 0 []).2.1 = 0 then (.inl ((scr vs 0 []).1, ((0 + vs.length : Nat) : Int)), true) else (.inr ((scr vs 0 []).1, ((scr vs 0 []).2.2 : Int), ce (scr vs 0 []).2.1), false)) := by
      unfold F_strings_splitSeq_1
      have this := script_loop hN vs 0 [] N hne hw hj (by simpa using hl) (by omega) (by omega)
      rw [show ((0 : Nat) : Int) = 0 from rfl] at this
      refine Eq.trans ?_ this
      refine congrArg (Option.bind _) (funext fun z => ?_)
      rcases z with ⟨a, b⟩ | z
      · rfl
      · rfl
    unfold F_script_Script F_strings_SplitSeq F_strings_splitSeq
    simp only [bind, Option.bind_some]
    rw [key2]
    by_cases hz : (scr vs 0 []).2.1 = 0
    · have := (scr_at vs 0 []).2 hz
      simp only [hz, if_true, Option.bind_some, this]
      rfl
    · simp only [hz, if_false, Option.bind_some]
  cases ws with
  | nil =>
    have := key [[]] (by simp) (by intro w hw; simp at hw; subst hw; exact ⟨fun c hc => by simp at hc, by simp, by simp⟩) (by simp [joinN]) (by simp)
    simpa [joinN, scr] using this
  | cons w ws => exact key _ (by simp) hw hj (by omega)
theorem no10_loop {l : List Int} (h : Bys l) (hl : l.length ≤ 200) (hN : 4294967296 ≤ N) : iterO N (fun s => F_dofferlaw36_ScriptLines_l1 N (bstr l) s) 0 = some (if 10 ∈ l then .inr (.inr (.inr (.inr true))) else .inl ()) := by
  by_cases h10 : 10 ∈ l
  · obtain ⟨k, hk, hp, hlt⟩ : ∃ k, ∃ _ : k < l.length, l[k]? = some 10 ∧ ∀ j, j < k → l[j]? ≠ some 10 := by
      obtain ⟨k0, hk0, e0⟩ := List.getElem_of_mem h10
      obtain ⟨k, _, h1, h2⟩ := least' (P := fun k => l[k]? = some 10) (n := k0) (by rw [List.getElem?_eq_getElem hk0, e0])
      exact ⟨k, (List.getElem?_eq_some_iff.1 h1).1, h1, h2⟩
    rw [if_pos h10]
    refine iterO_for0 (fun i => (i : Int)) k rfl (by omega) (fun i hi => ?_) ?_
    · unfold F_dofferlaw36_ScriptLines_l1
      have hx : l[i]? = some l[i] := List.getElem?_eq_getElem (by omega)
      have hne : l[i] ≠ 10 := fun e => hlt i hi (by rw [hx, e])
      rw [bstr_size, if_pos (by simp; omega), sidx_bstr h, idx_of hx]
      simp only [bind, Option.bind_some]
      rw [if_neg (by simpa using hne), w64_succ (by omega)]
    · unfold F_dofferlaw36_ScriptLines_l1
      rw [bstr_size, if_pos (by simp; omega), sidx_bstr h, idx_of hp]
      rfl
  · rw [if_neg h10]
    refine iterO_for0 (fun i => (i : Int)) l.length rfl (by omega) (fun i hi => ?_) ?_
    · unfold F_dofferlaw36_ScriptLines_l1
      have hx : l[i]? = some l[i] := List.getElem?_eq_getElem (by omega)
      have hne : l[i] ≠ 10 := fun e => h10 (e ▸ List.getElem_mem hi)
      rw [bstr_size, if_pos (by simp; omega), sidx_bstr h, idx_of hx]
      simp only [bind, Option.bind_some]
      rw [if_neg (by simpa using hne), w64_succ (by omega)]
    · unfold F_dofferlaw36_ScriptLines_l1
      rw [bstr_size, if_neg (by simp)]
def LineOk (l : List Int) : Prop := l.length ≤ 200 ∧ 10 ∉ l
instance (l : List Int) : Decidable (LineOk l) := by unfold LineOk; infer_instance
theorem lines_step {ls : List (List Int)} {i : Nat} {l : List Int} (hN : 4294967296 ≤ N) (hb : ∀ l ∈ ls, Bys l) (hl : ls.length ≤ 40) (hi : ls[i]? = some l) (hok : ∀ w ∈ ls.take i, LineOk w) :
    F_dofferlaw36_ScriptLines_l0 N (ls.map bstr) (i : Int) (bstr (joinN (ls.take i))) (scr (ls.take i) 0 []).1 ((scr (ls.take i) 0 []).2.1 : Int) ((scr (ls.take i) 0 []).2.2 : Int) =
      some (if LineOk l then .inl (((i + 1 : Nat) : Int), bstr (joinN (ls.take (i + 1))), (scr (ls.take (i + 1)) 0 []).1, ((scr (ls.take (i + 1)) 0 []).2.1 : Int), ((scr (ls.take (i + 1)) 0 []).2.2 : Int)) else .inr (.inr true)) := by
  have hil : i < ls.length := (List.getElem?_eq_some_iff.1 hi).1
  have hbl := hb l (List.mem_of_getElem? hi)
  unfold F_dofferlaw36_ScriptLines_l0
  rw [List.length_map, if_pos (by simp; omega), show idx (ls.map bstr) (i : Int) = some (bstr l) from idx_of (by rw [List.getElem?_map, hi]; rfl)]
  simp only [bind, Option.bind_some]
  rw [bstr_size]
  by_cases h2 : l.length > 200
  · rw [if_pos (by simp; omega), if_neg (show ¬ LineOk l by unfold LineOk; omega)]; rfl
  rw [if_neg (by simp; omega), no10_loop hbl (by omega) hN]
  by_cases h10 : 10 ∈ l
  · rw [if_pos h10, if_neg (show ¬ LineOk l from fun h => h.2 h10)]; rfl
  rw [if_neg h10, if_pos (show LineOk l from ⟨by omega, h10⟩)]
  simp only [Option.bind_some]
  have jl : (joinN (ls.take i)).length ≤ 40 * 201 := by
    refine Nat.le_trans (joinN_len (k := 200) _ (fun w hw => (hok w hw).1)) (Nat.mul_le_mul_right _ ?_)
    rw [List.length_take]; omega
  have elen : (ls.take i).length = i := by rw [List.length_take]; omega
  have et : ls.take (i + 1) = ls.take i ++ [l] := by rw [List.take_add_one, hi]; rfl
  have e1 : ((if (decide ((i : Int) > 0)) = true then (scat (bstr (joinN (ls.take i))) (⟨#[10]⟩ : ByteArray)).bind fun x => some x else some (bstr (joinN (ls.take i)))) : Option ByteArray) = some (bstr (if i = 0 then [] else joinN (ls.take i) ++ [10])) := by
    by_cases h0 : i = 0
    · subst h0; rfl
    · rw [if_pos (by simp; omega), if_neg h0, show (⟨#[10]⟩ : ByteArray) = bstr [10] from ba_ext (by rw [bstr_data]; rfl), scat_bstr (by simp; omega)]; rfl
  rw [e1]
  simp only [Option.bind_some]
  rw [scat_bstr (by
    by_cases h0 : i = 0
    · rw [if_pos h0, List.length_nil]; omega
    · rw [if_neg h0, List.length_append, List.length_singleton]; omega)]
  simp only [Option.bind_some]
  have ej : (if i = 0 then [] else joinN (ls.take i) ++ [10]) ++ l = joinN (ls.take (i + 1)) := by
    rw [et]
    by_cases h0 : i = 0
    · subst h0; simp [joinN]
    · rw [if_neg h0, joinN_snoc _ _ (by intro e; rw [e, List.length_nil] at elen; omega)]; simp
  rw [ej]
  have sn := scr_snoc l (ls.take i) 0 []
  rw [← et, elen, Nat.zero_add] at sn
  have e5 : ((bstr l).toList == ByteArray.empty.toList) = decide (l = []) := by
    rw [← bstr_nil, Bool.eq_iff_iff, beq_iff_eq, decide_eq_true_iff, bstr_inj hbl (fun c hc => by simp at hc)]
  rw [e5]
  by_cases hz : (scr (ls.take i) 0 []).2.1 = 0
  · have hat := (scr_at (ls.take i) 0 []).2 hz
    simp only [hz, ne_eq, not_true_eq_false, if_false] at sn
    simp only [hz, show (((0 : Nat) : Int) != 0) = false from rfl, Bool.false_eq_true, if_false, Option.bind_some]
    by_cases h0 : l = []
    · simp only [h0, decide_true, if_true, Option.bind_some] at sn ⊢
      rw [sn, w64_succ (by omega), hat]
    · simp only [h0, decide_false, Bool.false_eq_true, if_false] at sn ⊢
      rw [refParse_spec hN hbl (by omega)]
      simp only [Option.bind_some]
      by_cases hp : (parseP l).2 = 0
      · simp only [hp, not_true_eq_false, if_false] at sn
        simp only [hp, show (((0 : Nat) : Int) != 0) = false from rfl, Bool.false_eq_true, if_false]
        have sl := scr_len (ls.take i) 0 []
        rw [elen] at sl
        rw [app_eq (by simp at sl ⊢; omega)]
        simp only [Option.bind_some]
        rw [sn, w64_succ (by omega), hat]
      · simp only [hp, not_false_eq_true, if_true] at sn
        rw [if_pos (by simpa using hp)]
        simp only [Option.bind_some]
        rw [sn, w64_succ (by omega)]
  · simp only [hz, ne_eq, not_false_eq_true, if_true] at sn
    rw [if_pos (by simpa using hz)]
    simp only [Option.bind_some, if_true]
    rw [sn, w64_succ (by omega)]
theorem lines_loop {ls : List (List Int)} (hN : 4294967296 ≤ N) (hb : ∀ l ∈ ls, Bys l) (hl : ls.length ≤ 40) :
    iterO N (fun s => F_dofferlaw36_ScriptLines_l0 N (ls.map bstr) s.1 s.2.1 s.2.2.1 s.2.2.2.1 s.2.2.2.2) (0, ByteArray.empty, [], 0, 0) =
      some (if ∀ l ∈ ls, LineOk l then .inl (bstr (joinN ls), (scr ls 0 []).1, ((scr ls 0 []).2.1 : Int), ((scr ls 0 []).2.2 : Int)) else .inr true) := by
  by_cases hall : ∀ l ∈ ls, LineOk l
  · rw [if_pos hall]
    refine iterO_for0 (fun i => ((i : Int), bstr (joinN (ls.take i)), (scr (ls.take i) 0 []).1, ((scr (ls.take i) 0 []).2.1 : Int), ((scr (ls.take i) 0 []).2.2 : Int))) ls.length rfl (by omega) (fun i hi => ?_) ?_
    · have hx : ls[i]? = some ls[i] := List.getElem?_eq_getElem hi
      have := lines_step hN hb hl hx (fun w hw => hall w (List.mem_of_mem_take hw))
      rw [if_pos (hall _ (List.getElem_mem hi))] at this
      exact this
    · unfold F_dofferlaw36_ScriptLines_l0
      rw [List.length_map, if_neg (by simp), List.take_length]
  · rw [if_neg hall]
    obtain ⟨l0, hm, hn⟩ : ∃ l, l ∈ ls ∧ ¬ LineOk l := by
      refine Classical.byContradiction fun hc => hall fun l hl => Classical.byContradiction fun h => hc ⟨l, hl, h⟩
    obtain ⟨k0, hk0, e0⟩ := List.getElem_of_mem hm
    obtain ⟨k, hk, ⟨l, h1, h1n⟩, h2⟩ := least' (P := fun k => ∃ l, ls[k]? = some l ∧ ¬ LineOk l) (n := k0) ⟨l0, by rw [List.getElem?_eq_getElem hk0, e0], hn⟩
    have hok : ∀ i, i < k → ∀ l, ls[i]? = some l → LineOk l := fun i hi l hl => Classical.byContradiction fun h => h2 i hi ⟨l, hl, h⟩
    have htk : ∀ i, i ≤ k → ∀ w ∈ ls.take i, LineOk w := fun i hi w hw => by
      obtain ⟨j, hj, e⟩ := List.getElem_of_mem hw
      have hj' : j < i := by rw [List.length_take] at hj; omega
      refine hok j (by omega) w ?_
      rw [← e, List.getElem_take, List.getElem?_eq_getElem]
    refine iterO_for0 (fun i => ((i : Int), bstr (joinN (ls.take i)), (scr (ls.take i) 0 []).1, ((scr (ls.take i) 0 []).2.1 : Int), ((scr (ls.take i) 0 []).2.2 : Int))) k rfl (by omega) (fun i hi => ?_) ?_
    · have hx : ls[i]? = some ls[i] := List.getElem?_eq_getElem (by omega)
      have := lines_step hN hb hl hx (htk i (by omega))
      rw [if_pos (hok i hi _ hx)] at this
      exact this
    · have := lines_step hN hb hl h1 (htk k (by omega))
      rw [if_neg h1n] at this
      exact this
theorem lines_main {ls : List (List Int)} (hN : 4294967296 ≤ N) (hal : F_dofferlaw36_alive N = some true) (hnum : ∀ e, e ≤ 5 → F_doffernum_Num N (ce e) = some ((e : Nat) : Int)) (hb : ∀ l ∈ ls, Bys l) :
    F_dofferlaw36_ScriptLines N (ls.map bstr) = some true := by
  unfold F_dofferlaw36_ScriptLines
  rw [hal]
  simp only [bind, Option.bind_some, Bool.not_true, Bool.false_eq_true, if_false]
  rw [List.length_map]
  by_cases h4 : ls.length > 40
  · rw [if_pos (by simp; omega)]
  rw [if_neg (by simp; omega), lines_loop hN hb (by omega)]
  by_cases hall : ∀ l ∈ ls, LineOk l
  · rw [if_pos hall]
    simp only [Option.bind_some]
    have jl : (joinN ls).length ≤ 40 * 201 := Nat.le_trans (joinN_len (k := 200) _ (fun w hw => (hall w hw).1)) (Nat.mul_le_mul_right _ (by omega))
    rw [script_spec hN (fun w hw => ⟨hb w hw, (hall w hw).2, by have := (hall w hw).1; omega⟩) (by omega) (by omega)]
    simp only [Option.bind_some]
    rw [hnum _ (scr_err _ _ _)]
    simp only [Option.bind_some, bne_self_eq_false, Bool.false_eq_true, if_false]
    have sb := scr_bys ls 0 [] hb (by simp)
    have sl := scr_len ls 0 []
    rw [List.length_nil, Nat.zero_add] at sl
    have lp : iterO N (fun s => F_dofferlaw36_ScriptLines_l2 N (scr ls 0 []).1 (scr ls 0 []).1 s) 0 = some (.inl ()) := by
      refine iterO_for0 (fun i => (i : Int)) (scr ls 0 []).1.length rfl (by omega) (fun i hi => ?_) ?_
      · have hx : (scr ls 0 []).1[i]? = some (scr ls 0 []).1[i] := List.getElem?_eq_getElem hi
        have hy := sb _ (List.getElem_mem hi)
        unfold F_dofferlaw36_ScriptLines_l2
        rw [if_pos (by simp; omega), idx_of hx]
        simp only [bind, Option.bind_some]
        rw [same_spec hy hy]
        simp only [Option.bind_some, and_self, decide_true, Bool.not_true, Bool.false_eq_true, if_false]
        rw [w64_succ (by omega)]
      · unfold F_dofferlaw36_ScriptLines_l2
        rw [if_neg (by simp)]
    rw [lp]
    rfl
  · rw [if_neg hall]
    rfl
end
theorem scriptLines_true (ls : List ByteArray) : F_dofferlaw36_ScriptLines 4294967296 ls = some true := by
  have : ls = (ls.map sby).map bstr := by
    rw [List.map_map]
    refine (List.map_id ls).symm.trans (List.map_congr_left fun b _ => ?_)
    exact (bstr_sby b).symm
  rw [this]
  exact lines_main (Nat.le_refl _) alive36 num_all (fun l hl => by obtain ⟨b, _, rfl⟩ := List.mem_map.1 hl; exact bys_sby b)
end Go.Proofs.YticipjjhbebegaaDoor
