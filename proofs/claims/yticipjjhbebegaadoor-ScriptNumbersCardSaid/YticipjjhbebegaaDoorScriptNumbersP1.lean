/-
  PLAIN LEAN, no program in sight: what the pure functions answer.
-/
import Derived.Test.YticipjjhbebegaaDoorScriptNumbersD1
import Derived.LaidEql
import Derived.RowKitTokens
import Derived.Stop.Asserts
import Derived.Test.YticipjjhbebegaaDoorChecked
import Derived.WalkKit
namespace Go.Proofs.YticipjjhbebegaaDoor
open Go.RowKit Go.Extern.Stop Go.Stop Go.Extern
set_option maxRecDepth 20000
theorem Is.typeOf (v : Value) (w : World) : (Extern.ReflectliteType.typeOf #[.iface 137 v]).run Tryd.prog w = .ok (.iface 100 (.agg #[.pointer (some ⟨21, 137, none⟩)])) w := by kernel_rfl
def Is.cmp : Array Value → Sem Value := Extern.ReflectliteType.method fun t => do Rtype.noPackHeld "Comparable" t; pure (.bool (← typeInfo t).comparable)
theorem Is.comparable (w : World) : (Is.cmp #[.agg #[.pointer (some ⟨21, 137, none⟩)]]).run Tryd.prog w = .ok (.bool true) w := by kernel_rfl
theorem Is.methodComparable (v : Value) (w : World) : (Go.method 271 100 v "Comparable").run Tryd.prog w = .ok (102, v) w := by kernel_rfl
theorem Is.comp : (Tryd.prog.info? 137).map (·.comparable) = some true := by kernel_rfl
theorem Is.size : (Tryd.prog.info? 160).map (·.size) = some 1 := by kernel_rfl
theorem Is.noIs (v : Value) (xT : TypeId) (w : World) : (Instr.typeAssert (.iface 137 v) xT 102 true).run Tryd.prog w = .ok (.tuple #[.nilIface, .bool false]) w := run_typeAssert_lacksB Tryd.underlying102 (by kernel_rfl) (by kernel_rfl) v xT w
theorem Is.noUnwrap (v : Value) (xT : TypeId) (w : World) : (Instr.typeAssert (.iface 137 v) xT 105 true).run Tryd.prog w = .ok (.tuple #[.nilIface, .bool false]) w := run_typeAssert_lacksB Tryd.underlying105 (by kernel_rfl) (by kernel_rfl) v xT w
theorem Is.noUnwraps (v : Value) (xT : TypeId) (w : World) : (Instr.typeAssert (.iface 137 v) xT 107 true).run Tryd.prog w = .ok (.tuple #[.nilIface, .bool false]) w := run_typeAssert_lacksB Tryd.underlying107 (by kernel_rfl) (by kernel_rfl) v xT w
theorem is_same (a : Addr) (w : World) :
    Calls Tryd.prog 24 #[.iface 137 (.pointer (some a)), .iface 137 (.pointer (some a))] w fun e w' => e = .returned (.bool true) ∧ w' = w := by
  obtain ⟨i, hi, hcmp⟩ := Option.map_eq_some_iff.1 Is.comp
  obtain ⟨j, hj, hjs⟩ := Option.map_eq_some_iff.1 Is.size
  have h8 := @run_callFunc_extern Tryd.prog 40 _ Extern.ReflectliteType.typeOf Tryd.func40 (by kernel_rfl) (by kernel_rfl) (by kernel_rfl) (by kernel_rfl)
  have h32 := @run_callFunc_extern Tryd.prog 102 _ Is.cmp Tryd.func102 (by kernel_rfl) (by kernel_rfl) (by kernel_rfl) (by kernel_rfl)
  have tT := Is.typeOf
  have cT := Is.comparable
  have mR := Is.methodComparable
  have heq := run_eql_iface_ptr_same (P := Tryd.prog) w a Tryd.underlying25 Tryd.underlying137 hi hcmp hj
  go_enter Tryd.func24, Tryd.ntmps24
  go_wp2
  refine wp_loop_rounds 1 ?_
  rw [rounds_succ]
  go_wp2
  go_ret
  exact ⟨rfl, rfl⟩
theorem is_nil (b : Addr) (w : World) :
    Calls Tryd.prog 24 #[.nilIface, .iface 137 (.pointer (some b))] w fun e w' => e = .returned (.bool false) ∧ w' = w := by
  have hn := run_eql_iface_nil_left (P := Tryd.prog) w 137 (.pointer (some b)) Tryd.underlying25
  go_enter Tryd.func24, Tryd.ntmps24
  go_wp2
  go_ret
  exact ⟨rfl, rfl⟩
theorem is_other (a b : Addr) (ca cb : Array Value) (ta tb : TypeId) (w : World) (hne : a ≠ b) (ha : w.heap[a.block]? = some (.cells ca ta (0, 0))) (hb : w.heap[b.block]? = some (.cells cb tb (0, 0))) :
    Calls Tryd.prog 24 #[.iface 137 (.pointer (some a)), .iface 137 (.pointer (some b))] w fun e w' => e = .returned (.bool false) ∧ w' = w := by
  obtain ⟨i, hi, hcmp⟩ := Option.map_eq_some_iff.1 Is.comp
  obtain ⟨j, hj, hjs⟩ := Option.map_eq_some_iff.1 Is.size
  have h8 := @run_callFunc_extern Tryd.prog 40 _ Extern.ReflectliteType.typeOf Tryd.func40 (by kernel_rfl) (by kernel_rfl) (by kernel_rfl) (by kernel_rfl)
  have h32 := @run_callFunc_extern Tryd.prog 102 _ Is.cmp Tryd.func102 (by kernel_rfl) (by kernel_rfl) (by kernel_rfl) (by kernel_rfl)
  have tT := Is.typeOf
  have cT := Is.comparable
  have mR := Is.methodComparable
  have nE := Is.noIs
  have uE := Is.noUnwrap
  have vE := Is.noUnwraps
  have heq := run_eql_iface_ptr_other (P := Tryd.prog) w Tryd.underlying25 Tryd.underlying137 hi hcmp hj (by rw [hjs]; decide) hne ha hb
  go_enter Tryd.func24, Tryd.ntmps24
  go_wp2
  refine wp_loop_rounds 1 ?_
  rw [rounds_succ]
  go_wp2
  go_ret
  exact ⟨rfl, rfl⟩
theorem isC : Go.Eng.IsC Tryd.prog 24 137 := ⟨is_same, is_nil, is_other⟩
end Go.Proofs.YticipjjhbebegaaDoor
namespace Go.Eng
open Go
theorem iterO_for {σ τ : Type} {f : σ → Option (σ ⊕ τ)} {r : τ} (st : Nat → σ) : ∀ (n : Nat) {N k : Nat}, n < N → (∀ i, k ≤ i → i < k + n → f (st i) = some (.inl (st (i + 1)))) → f (st (k + n)) = some (.inr r) → iterO N f (st k) = some r
  | 0, 0, _, h, _, _ => absurd h (Nat.not_lt_zero _)
  | 0, N + 1, k, _, _, he => by simp only [iterO]; rw [show f (st k) = _ from he]
  | n + 1, 0, _, h, _, _ => absurd h (Nat.not_lt_zero _)
  | n + 1, N + 1, k, h, hs, he => by
    simp only [iterO]
    rw [hs k (Nat.le_refl _) (by omega)]
    exact iterO_for st n (by omega) (fun i h1 h2 => hs i (by omega) (by omega)) (by rw [show k + 1 + n = k + (n + 1) by omega]; exact he)
theorem iterO_for0 {σ τ : Type} {f : σ → Option (σ ⊕ τ)} {r : τ} {s : σ} (st : Nat → σ) (n : Nat) {N : Nat} (h0 : st 0 = s) (hN : n < N) (hs : ∀ i, i < n → f (st i) = some (.inl (st (i + 1)))) (he : f (st n) = some (.inr r)) : iterO N f s = some r := by
  subst h0
  exact iterO_for st n hN (fun i _ h => hs i (by omega)) (by rw [Nat.zero_add]; exact he)
theorem iterO_while {σ τ : Type} {f : σ → Option (σ ⊕ τ)} (I : σ → Prop) (μ : σ → Nat) (Q : τ → Prop) (step : ∀ s, I s → (∃ s', f s = some (.inl s') ∧ I s' ∧ μ s' < μ s) ∨ ∃ r, f s = some (.inr r) ∧ Q r) :
    ∀ {N : Nat} {s : σ}, I s → μ s < N → ∃ r, iterO N f s = some r ∧ Q r
  | 0, _, _, h => absurd h (Nat.not_lt_zero _)
  | N + 1, s, hI, h => by
    rcases step s hI with ⟨s', h1, h2, h3⟩ | ⟨r, h1, h2⟩
    · obtain ⟨r, h4, h5⟩ := iterO_while I μ Q step (N := N) h2 (by omega)
      exact ⟨r, by simp only [iterO, h1]; exact h4, h5⟩
    · exact ⟨r, by simp only [iterO, h1], h2⟩
theorem wrap64 {x : Int} (h1 : -9223372036854775808 ≤ x) (h2 : x ≤ 9223372036854775807) : IntKind.wrap .i64 x = x := by
  simp only [IntKind.wrap, IntKind.signed, IntKind.bits]
  simp
  omega
theorem w64_succ {n : Nat} (h : n < 9223372036854775807) : w64 ((n : Int) + 1) = ((n + 1 : Nat) : Int) := by
  rw [w64, wrap64] <;> omega
theorem idx_nat {α : Type} {xs : List α} {i : Nat} (h : i < xs.length) : idx xs (i : Int) = some xs[i] := by simp [idx, h]
theorem idx_of {α : Type} {xs : List α} {i : Nat} {x : α} (h : xs[i]? = some x) : idx xs (i : Int) = some x := by simp [idx, h]
theorem setI_nat {α : Type} {xs : List α} {i : Nat} {x : α} (h : i < xs.length) : setI xs (i : Int) x = some (xs.set i x) := by simp [setI, h]
theorem app_eq {α : Type} {xs ys : List α} (h : xs.length + ys.length ≤ 4294967296) : app xs ys = some (xs ++ ys) := by simp [app, h]
end Go.Eng
namespace Go.Proofs.YticipjjhbebegaaDoor
open Go Go.Eng
set_option maxRecDepth 100000
/-- bytes -/
def Bys (l : List Int) : Prop := ∀ c ∈ l, 0 ≤ c ∧ c < 256
theorem ba_ext {a b : ByteArray} (h : a.data.toList = b.data.toList) : a = b := by
  obtain ⟨⟨a⟩⟩ := a
  obtain ⟨⟨b⟩⟩ := b
  simp at h
  rw [h]
theorem ba_toList (b : ByteArray) : b.toList = b.data.toList := by
  have go : ∀ (k i : Nat) (r : List UInt8), i + k = b.size → ByteArray.toList.loop b i r = r.reverse ++ b.data.toList.drop i := by
    intro k
    induction k with
    | zero =>
      intro i r h
      unfold ByteArray.toList.loop
      rw [if_neg (by omega), List.drop_of_length_le (by have : b.data.toList.length = b.size := by rw [Array.length_toList]; rfl
                                                        omega), List.append_nil]
    | succ k ih =>
      intro i r h
      unfold ByteArray.toList.loop
      have hl : b.data.toList.length = b.size := by rw [Array.length_toList]; rfl
      have hi : i < b.data.toList.length := by omega
      rw [if_pos (by omega), ih (i + 1) _ (by omega), List.drop_eq_getElem_cons hi, List.reverse_cons, List.append_assoc]
      have : b.get! i = b.data.toList[i] := by
        have hi' : i < b.data.size := by simpa using hi
        show b.data[i]! = _
        rw [getElem!_pos b.data i hi']
        simp
      rw [this]
      rfl
  have := go b.size 0 [] (by omega)
  simpa [ByteArray.toList] using this
theorem bstr_data (l : List Int) : (bstr l).data.toList = l.map fun c => UInt8.ofNat c.toNat := by
  have go : ∀ (l : List Int) (r : ByteArray), (l.foldl (fun r n => r.push (UInt8.ofNat n.toNat)) r).data.toList = r.data.toList ++ l.map fun c => UInt8.ofNat c.toNat := by
    intro l
    induction l with
    | nil => intro r; simp
    | cons c l ih =>
      intro r
      rw [List.foldl_cons, ih]
      simp [ByteArray.push]
  have := go l ByteArray.empty
  simpa [bstr] using this
theorem u8_back {c : Int} (h : 0 ≤ c ∧ c < 256) : (((UInt8.ofNat c.toNat).toNat : Nat) : Int) = c := by
  rw [UInt8.toNat_ofNat']
  omega
theorem sby_bstr {l : List Int} (h : Bys l) : sby (bstr l) = l := by
  unfold sby
  rw [bstr_data, List.map_map]
  have : ∀ c ∈ l, ((fun u : UInt8 => ((u.toNat : Nat) : Int)) ∘ fun c : Int => UInt8.ofNat c.toNat) c = c := fun c hc => u8_back (h c hc)
  rw [List.map_congr_left this]
  simp
theorem bys_sby (b : ByteArray) : Bys (sby b) := by
  intro c hc
  obtain ⟨u, _, rfl⟩ := List.mem_map.1 hc
  have := u.toNat_lt
  omega
theorem bstr_sby (b : ByteArray) : bstr (sby b) = b := by
  refine ba_ext ?_
  rw [bstr_data, sby, List.map_map]
  have : ∀ u ∈ b.data.toList, ((fun c : Int => UInt8.ofNat c.toNat) ∘ fun u : UInt8 => ((u.toNat : Nat) : Int)) u = u := fun u _ => by simp
  rw [List.map_congr_left this]
  simp
theorem bstr_size (l : List Int) : (bstr l).size = l.length := by
  have : (bstr l).size = (bstr l).data.toList.length := by rw [Array.length_toList]; rfl
  rw [this, bstr_data, List.length_map]
theorem bstr_append (a b : List Int) : bstr a ++ bstr b = bstr (a ++ b) := by
  refine ba_ext ?_
  rw [ByteArray.data_append, Array.toList_append, bstr_data, bstr_data, bstr_data, List.map_append]
theorem bstr_inj {a b : List Int} (ha : Bys a) (hb : Bys b) : (bstr a).toList = (bstr b).toList ↔ a = b := by
  rw [ba_toList, ba_toList]
  constructor
  · intro h
    have := ba_ext h
    rw [← sby_bstr ha, ← sby_bstr hb, this]
  · rintro rfl; rfl
theorem scat_bstr {a b : List Int} (h : a.length + b.length ≤ 4294967296) : scat (bstr a) (bstr b) = some (bstr (a ++ b)) := by
  unfold scat
  rw [bstr_size, bstr_size, if_pos h, bstr_append]
theorem sidx_bstr {l : List Int} (h : Bys l) (i : Int) : sidx (bstr l) i = idx l i := by
  unfold sidx idx
  split
  · rw [bstr_data, List.getElem?_map, Option.map_map]
    cases hx : l[i.toNat]? with
    | none => rfl
    | some c => simp only [Option.map_some, Function.comp_def]; rw [u8_back (h c (List.mem_of_getElem? hx))]
  · rfl
theorem sslc_bstr {l : List Int} {lo hi : Nat} (h1 : lo ≤ hi) (h2 : hi ≤ l.length) : sslc (bstr l) (lo : Int) (hi : Int) = some (bstr ((l.take hi).drop lo)) := by
  unfold sslc
  rw [bstr_size, if_pos (by omega)]
  refine congrArg some (ba_ext ?_)
  rw [bstr_data]
  show ((bstr l).extract lo hi).data.toList = _
  rw [ByteArray.data_extract, Array.toList_extract, List.extract_eq_take_drop, bstr_data]
  rw [← List.map_drop, ← List.map_take, List.drop_take]
theorem bstr_nil : bstr [] = ByteArray.empty := rfl
end Go.Proofs.YticipjjhbebegaaDoor
namespace Go.Proofs.YticipjjhbebegaaDoor
open Go Go.Eng
set_option maxRecDepth 100000
/-- a number's figures -/
def dg (m : Nat) : List Int := if m < 10 then [48 + (m : Int)] else dg (m / 10) ++ [48 + ((m % 10 : Nat) : Int)]
termination_by m
decreasing_by omega
theorem dg_small {m : Nat} (h : m < 10) : dg m = [48 + (m : Int)] := by rw [dg, if_pos h]
theorem dg_big {m : Nat} (h : ¬ m < 10) : dg m = dg (m / 10) ++ [48 + ((m % 10 : Nat) : Int)] := by rw [dg, if_neg h]
theorem dg_digits (m : Nat) : ∀ c ∈ dg m, 48 ≤ c ∧ c ≤ 57 := by
  induction m using Nat.strongRecOn with
  | ind m ih =>
    intro c hc
    by_cases h : m < 10
    · rw [dg_small h] at hc; simp at hc; omega
    · rw [dg_big h] at hc
      rcases List.mem_append.1 hc with hc | hc
      · exact ih _ (by omega) c hc
      · simp at hc; omega
theorem dg_len {m k : Nat} : m < 10 ^ (k + 1) → (dg m).length ≤ k + 1 := by
  induction k generalizing m with
  | zero => intro h; rw [dg_small (by simpa using h)]; simp
  | succ k ih =>
    intro h
    by_cases hm : m < 10
    · rw [dg_small hm]; simp
    · rw [dg_big hm, List.length_append, List.length_singleton]
      have := ih (m := m / 10) (by rw [Nat.pow_succ] at h; omega)
      omega
theorem dg_pos (m : Nat) : 1 ≤ (dg m).length := by
  by_cases h : m < 10
  · rw [dg_small h]; simp
  · rw [dg_big h]; simp
/-- with its sign -/
def num (n : Int) : List Int := if n < 0 then 45 :: dg n.natAbs else dg n.natAbs
theorem num_bys (n : Int) : Bys (num n) := by
  intro c hc
  unfold num at hc
  split at hc
  · rcases List.mem_cons.1 hc with rfl | hc
    · omega
    · have := dg_digits _ c hc; omega
  · have := dg_digits _ c hc; omega
/-- what is still to come, the least figure first -/
def rdg (k : Int) : List Int := if k = 0 then [] else (dg k.natAbs).reverse
theorem natAbs_tdiv (k : Int) : (k.tdiv 10).natAbs = k.natAbs / 10 := Int.natAbs_tdiv k 10
theorem natAbs_tmod (k : Int) : (k.tmod 10).natAbs = k.natAbs % 10 := by rw [Int.natAbs_tmod]; rfl
theorem rdg_step (k : Int) : (dg k.natAbs).reverse = (48 + ((k.tmod 10).natAbs : Int)) :: rdg (k.tdiv 10) := by
  rw [natAbs_tmod]
  unfold rdg
  have h0 : k.tdiv 10 = 0 ↔ k.natAbs < 10 := by rw [← Int.natAbs_eq_zero, natAbs_tdiv]; omega
  by_cases h : k.natAbs < 10
  · rw [if_pos (h0.2 h), dg_small h, Nat.mod_eq_of_lt h]; rfl
  · rw [if_neg (fun q => h (h0.1 q)), natAbs_tdiv, dg_big h, List.reverse_append]; rfl
section
variable {N : Nat}
theorem digit_spec (d : Int) (h : d.natAbs < 10) : F_script_Numeral_1 N d = some (48 + (d.natAbs : Int)) := by
  unfold F_script_Numeral_1
  have e1 : w64 (0 - d) = -d := by rw [w64, wrap64] <;> omega
  have e2 : imax d (-d) = (d.natAbs : Int) := by
    unfold imax
    first
      | (split <;> omega)
      | omega
  rw [e1, e2]
  have e3 : w64 (48 + (d.natAbs : Int)) = 48 + (d.natAbs : Int) := by rw [w64, wrap64] <;> omega
  rw [e3]
  congr 1
  simp [IntKind.wrap, IntKind.signed, IntKind.bits]
  omega
theorem numeral_loop (hN : 4294967296 ≤ N) {n : Int} (h1 : -9223372036854775808 ≤ n) (h2 : n ≤ 9223372036854775807) :
    iterO N (fun s => F_script_Numeral_l0 N s.1 s.2) ([48 + ((n.tmod 10).natAbs : Int)], w64 (n.tdiv 10)) = some (dg n.natAbs).reverse := by
  have hlen : (dg n.natAbs).length ≤ 20 := dg_len (k := 19) (by omega)
  have hd : n.tdiv 10 ≤ 922337203685477580 ∧ -922337203685477580 ≤ n.tdiv 10 := by
    have := natAbs_tdiv n
    omega
  have ew : w64 (n.tdiv 10) = n.tdiv 10 := by rw [w64, wrap64] <;> omega
  rw [ew]
  obtain ⟨r, hr, hq⟩ := iterO_while (f := fun s => F_script_Numeral_l0 N s.1 s.2) (fun s => s.1 ++ rdg s.2 = (dg n.natAbs).reverse ∧ s.2.natAbs ≤ 922337203685477580) (fun s => s.2.natAbs * 0 + (20 - s.1.length) + (if s.2 = 0 then 0 else 1)) (fun r => r = (dg n.natAbs).reverse) (fun s hI => by
      obtain ⟨out, k⟩ := s
      obtain ⟨i1, i2⟩ := hI
      simp only at i1 i2
      by_cases hk : k = 0
      · right
        subst hk
        refine ⟨out, by unfold F_script_Numeral_l0; simp, ?_⟩
        simpa [rdg] using i1
      · left
        have hkb : (k != 0) = true := by simpa using hk
        have htm : (k.tmod 10).natAbs < 10 := by rw [natAbs_tmod]; omega
        have hl := congrArg List.length i1
        rw [List.length_append, List.length_reverse] at hl
        have hrl : 1 ≤ (rdg k).length := by rw [rdg, if_neg hk, List.length_reverse]; exact dg_pos _
        have htd : (k.tdiv 10).natAbs ≤ 922337203685477580 := by rw [natAbs_tdiv]; omega
        have ew2 : w64 (k.tdiv 10) = k.tdiv 10 := by rw [w64, wrap64] <;> omega
        refine ⟨(out ++ [48 + ((k.tmod 10).natAbs : Int)], k.tdiv 10), ?_, ⟨?_, htd⟩, ?_⟩
        · unfold F_script_Numeral_l0
          simp only [hkb, if_true, digit_spec _ htm, bind, Option.bind_some]
          rw [app_eq (by rw [List.length_singleton]; omega)]
          simp only [Option.bind_some, ew2]
        · show (out ++ [48 + ((k.tmod 10).natAbs : Int)]) ++ rdg (k.tdiv 10) = _
          have : rdg k = (dg k.natAbs).reverse := by rw [rdg, if_neg hk]
          rw [← i1, this, rdg_step, List.append_assoc]; rfl
        · simp only [List.length_append, List.length_singleton, if_neg hk]
          split <;> omega)
    (N := N) (s := ([48 + ((n.tmod 10).natAbs : Int)], n.tdiv 10)) ⟨by rw [rdg_step]; rfl, by simp only; omega⟩ (by simp only; split <;> omega)
  rw [hr, hq]
/-- a list is turned about in its place -/
theorem rev_spec {xs : List Int} (hN : 4294967296 ≤ N) (hl : xs.length < 2147483648) : F_slices_Reverse_byte_byte_1 N xs = some xs.reverse := by
  unfold F_slices_Reverse_byte_byte_1
  have key : ∃ r, iterO N (fun s => F_slices_Reverse_byte_byte_1_l0 N s.1 s.2.1 s.2.2) (xs, 0, w64 ((xs.length : Int) - 1)) = some r ∧ r = xs.reverse := by
    have ew : w64 ((xs.length : Int) - 1) = (xs.length : Int) - 1 := by rw [w64, wrap64] <;> omega
    rw [ew]
    refine iterO_while (f := fun s => F_slices_Reverse_byte_byte_1_l0 N s.1 s.2.1 s.2.2)
      (fun s => ∃ i : Nat, s.2.1 = (i : Int) ∧ s.2.2 = (xs.length : Int) - 1 - (i : Int) ∧ 2 * i ≤ xs.length + 1 ∧ s.1.length = xs.length ∧ ∀ p : Nat, p < xs.length → s.1[p]? = if p < i ∨ xs.length ≤ p + i then xs[xs.length - 1 - p]? else xs[p]?)
      (fun s => xs.length + 1 - s.2.1.toNat) (fun r => r = xs.reverse) (fun s hI => ?_) (N := N) (s := (xs, 0, (xs.length : Int) - 1)) ⟨0, rfl, by simp, by omega, rfl, fun p hp => by rw [if_neg (by omega)]⟩ (by simp; omega)
    obtain ⟨ys, a, b⟩ := s
    obtain ⟨i, rfl, rfl, i3, i4, i5⟩ := hI
    simp only at i4 i5
    by_cases hlt : (i : Int) < (xs.length : Int) - 1 - (i : Int)
    · left
      have hi : i < ys.length := by omega
      have hj : xs.length - 1 - i < ys.length := by omega
      have ej : (xs.length : Int) - 1 - (i : Int) = ((xs.length - 1 - i : Nat) : Int) := by omega
      rw [ej]
      have v1 : ys[i]? = xs[i]? := by rw [i5 i (by omega), if_neg (by omega)]
      have v2 : ys[xs.length - 1 - i]? = xs[xs.length - 1 - i]? := by rw [i5 _ (by omega), if_neg (by omega)]
      have x1 : ys[i]? = some ys[i] := List.getElem?_eq_getElem hi
      have x2 : ys[xs.length - 1 - i]? = some ys[xs.length - 1 - i] := List.getElem?_eq_getElem hj
      have hj2 : xs.length - 1 - i < (ys.set i ys[xs.length - 1 - i]).length := by simpa using hj
      refine ⟨((ys.set i ys[xs.length - 1 - i]).set (xs.length - 1 - i) ys[i], ((i + 1 : Nat) : Int), ((xs.length - 1 - i : Nat) : Int) - 1), ?_, ⟨i + 1, rfl, by simp only; omega, by omega, by simpa using i4, fun p hp => ?_⟩, by simp only; omega⟩
      · unfold F_slices_Reverse_byte_byte_1_l0
        simp only [show (i : Int) < ((xs.length - 1 - i : Nat) : Int) by omega, decide_true, if_true, idx_nat hi, idx_nat hj, setI_nat hi, idx_nat hj2, setI_nat hj2, bind, Option.bind_some]
        rw [w64_succ (by omega), show w64 (((xs.length - 1 - i : Nat) : Int) - 1) = ((xs.length - 1 - i : Nat) : Int) - 1 by rw [w64, wrap64] <;> omega]
      · by_cases h1 : p = xs.length - 1 - i
        · subst h1
          rw [List.getElem?_set_self hj2, if_pos (by omega), ← x1, v1, show xs.length - 1 - (xs.length - 1 - i) = i by omega]
        · rw [List.getElem?_set_ne (by omega)]
          by_cases h2 : p = i
          · subst h2
            rw [List.getElem?_set_self hi, if_pos (by omega), ← x2, v2]
          · rw [List.getElem?_set_ne (by omega), i5 p hp]
            by_cases h3 : p < i ∨ xs.length ≤ p + i
            · rw [if_pos h3, if_pos (by omega)]
            · rw [if_neg h3, if_neg (by omega)]
    · right
      refine ⟨ys, by unfold F_slices_Reverse_byte_byte_1_l0; simp [hlt], List.ext_getElem? fun p => ?_⟩
      by_cases hp : p < xs.length
      · rw [i5 p hp, List.getElem?_reverse hp]
        by_cases h3 : p < i ∨ xs.length ≤ p + i
        · rw [if_pos h3]
        · rw [if_neg h3, show xs.length - 1 - p = p by omega]
      · rw [List.getElem?_eq_none (by omega), List.getElem?_eq_none (by simp; omega)]
  obtain ⟨r, hr, rfl⟩ := key
  rw [hr]
  rfl
theorem numeral_spec (hN : 4294967296 ≤ N) {n : Int} (h1 : -9223372036854775808 ≤ n) (h2 : n ≤ 9223372036854775807) : F_script_Numeral N n = some (bstr (num n)) := by
  have hlen : (dg n.natAbs).length ≤ 20 := dg_len (k := 19) (by omega)
  unfold F_script_Numeral
  have htm : (n.tmod 10).natAbs < 10 := by rw [natAbs_tmod]; omega
  simp only [digit_spec _ htm, bind, Option.bind_some]
  rw [numeral_loop hN h1 h2]
  simp only [Option.bind_some]
  by_cases hn : n < 0
  · simp only [hn, decide_true, if_true]
    rw [app_eq (by rw [List.length_reverse, List.length_singleton]; omega)]
    simp only [Option.bind_some]
    rw [rev_spec hN (by rw [List.length_append, List.length_reverse, List.length_singleton]; omega)]
    simp [num, hn]
  · simp only [hn, decide_false, Bool.false_eq_true, if_false, Option.bind_some]
    rw [rev_spec hN (by rw [List.length_reverse]; omega)]
    simp [num, hn]
/-- one figure, cut out of the ten -/
theorem fig : ∀ k : Fin 10, sslc (⟨#[48, 49, 50, 51, 52, 53, 54, 55, 56, 57]⟩ : ByteArray) (k.val : Int) ((k.val + 1 : Nat) : Int) = some (bstr [48 + (k.val : Int)]) := by
  have e : (⟨#[48, 49, 50, 51, 52, 53, 54, 55, 56, 57]⟩ : ByteArray) = bstr [48, 49, 50, 51, 52, 53, 54, 55, 56, 57] := ba_ext (by rw [bstr_data]; rfl)
  intro k
  rw [e, sslc_bstr (by omega) (by simp; omega)]
  match k with
  | 0 => rfl
  | 1 => rfl
  | 2 => rfl
  | 3 => rfl
  | 4 => rfl
  | 5 => rfl
  | 6 => rfl
  | 7 => rfl
  | 8 => rfl
  | 9 => rfl
theorem fig_of {x : Int} (h0 : 0 ≤ x) (h1 : x < 10) : sslc (⟨#[48, 49, 50, 51, 52, 53, 54, 55, 56, 57]⟩ : ByteArray) x (w64 (x + 1)) = some (bstr [48 + x]) := by
  have := fig ⟨x.toNat, by omega⟩
  simp only at this
  have e : w64 (x + 1) = ((x.toNat + 1 : Nat) : Int) := by rw [w64, wrap64] <;> omega
  rw [e]
  rwa [show ((x.toNat : Nat) : Int) = x by omega] at this
theorem refNumeral_spec : ∀ {K : Nat} {n : Int}, n.natAbs < 10 ^ (K + 1) → -9223372036854775808 ≤ n → n ≤ 9223372036854775807 → K ≤ 30 → ∀ N, K < N → F_dofferref36_Numeral N n = some (bstr (num n)) := by
  intro K
  induction K with
  | zero =>
    intro n hn h1 h2 _ N hN
    obtain ⟨N, rfl⟩ : ∃ m, N = m + 1 := ⟨N - 1, by omega⟩
    have hn' : n.natAbs < 10 := by simpa using hn
    unfold F_dofferref36_Numeral
    by_cases h0 : n < 0
    · have e1 : w64 (0 - n) = -n := by rw [w64, wrap64] <;> omega
      simp only [h0, decide_true, if_true, show n > -10 by omega, bind, Option.bind_some, e1, fig_of (show 0 ≤ -n by omega) (by omega)]
      have e2 : (⟨#[45]⟩ : ByteArray) = bstr [45] := ba_ext (by rw [bstr_data]; rfl)
      rw [e2, scat_bstr (by simp)]
      simp only [Option.bind_some]
      rw [num, if_pos h0, dg_small hn', show ((n.natAbs : Nat) : Int) = -n by omega]
      rfl
    · simp only [h0, decide_false, Bool.false_eq_true, if_false, bind, Option.bind_some, show n < 10 by omega, decide_true, if_true, fig_of (show 0 ≤ n by omega) (by omega)]
      rw [num, if_neg h0, dg_small hn', show ((n.natAbs : Nat) : Int) = n by omega]
  | succ K ih =>
    intro n hn h1 h2 hK N hN
    obtain ⟨N, rfl⟩ : ∃ m, N = m + 1 := ⟨N - 1, by omega⟩
    by_cases hs : n.natAbs < 10
    · exact ih (by
        have : 10 ≤ 10 ^ (K + 1) := by rw [Nat.pow_succ]; have : 0 < 10 ^ K := Nat.pow_pos (by decide); omega
        omega) h1 h2 (by omega) (N + 1) (by omega)
    · have hd := natAbs_tdiv n
      have hm := natAbs_tmod n
      have hpow : 10 ^ (K + 1 + 1) = 10 ^ (K + 1) * 10 := Nat.pow_succ ..
      have ew : w64 (n.tdiv 10) = n.tdiv 10 := by rw [w64, wrap64] <;> omega
      have rec_ := ih (n := n.tdiv 10) (by omega) (by omega) (by omega) (by omega) N (by omega)
      have hlen : (num (n.tdiv 10)).length ≤ 40 := by
        have := dg_len (m := (n.tdiv 10).natAbs) (k := K) (by omega)
        unfold num
        split
        · rw [List.length_cons]; omega
        · omega
      unfold F_dofferref36_Numeral
      by_cases h0 : n < 0
      · have hsg : n.tdiv 10 < 0 := by
          have h3 : n.tdiv 10 ≠ 0 := fun q => by rw [q] at hd; omega
          have h4 : n.tdiv 10 ≤ 0 := by
            have := Int.neg_tdiv (a := n) (b := 10)
            have h5 : 0 ≤ (-n).tdiv 10 := Int.tdiv_nonneg (by omega) (by omega)
            omega
          omega
        have hmn : n.tmod 10 ≤ 0 := by
          have := Int.neg_tmod n 10
          have h5 : 0 ≤ (-n).tmod 10 := Int.tmod_nonneg 10 (by omega)
          omega
        have e1 : w64 (0 - n.tmod 10) = -(n.tmod 10) := by rw [w64, wrap64] <;> omega
        simp only [h0, decide_true, if_true, show ¬ n > -10 by omega, decide_false, Bool.false_eq_true, if_false, bind, Option.bind_some, e1, fig_of (show 0 ≤ -(n.tmod 10) by omega) (by omega), ew, rec_]
        rw [scat_bstr (by rw [List.length_singleton]; omega)]
        simp only [Option.bind_some]
        rw [num, if_pos hsg, num, if_pos h0, hd, dg_big (m := n.natAbs) (by omega), ← hm, show -(n.tmod 10) = (((n.tmod 10).natAbs : Nat) : Int) by omega]
        rfl
      · have hsg : ¬ n.tdiv 10 < 0 := by
          have : 0 ≤ n.tdiv 10 := Int.tdiv_nonneg (by omega) (by omega)
          omega
        have hmn : 0 ≤ n.tmod 10 := Int.tmod_nonneg 10 (by omega)
        simp only [h0, decide_false, Bool.false_eq_true, if_false, bind, Option.bind_some, show ¬ n < 10 by omega, fig_of hmn (by omega), ew, rec_]
        rw [scat_bstr (by rw [List.length_singleton]; omega)]
        simp only [Option.bind_some]
        rw [num, if_neg hsg, num, if_neg h0, hd, dg_big (m := n.natAbs) (by omega), ← hm, show n.tmod 10 = (((n.tmod 10).natAbs : Nat) : Int) by omega]
        congr 1
end
end Go.Proofs.YticipjjhbebegaaDoor
namespace Go.Proofs.YticipjjhbebegaaDoor
open Go Go.Eng
set_option maxRecDepth 100000
/-- the number of figures -/
def vl (l : List Int) : Nat := l.foldl (fun a c => 10 * a + (c.toNat - 48)) 0
theorem vl_snoc (l : List Int) (c : Int) : vl (l ++ [c]) = 10 * vl l + (c.toNat - 48) := by simp [vl]
def Dgs (l : List Int) : Prop := ∀ c ∈ l, 48 ≤ c ∧ c ≤ 57
theorem Dgs.take {l : List Int} (h : Dgs l) (k : Nat) : Dgs (l.take k) := fun c hc => h c (List.mem_of_mem_take hc)
theorem snoc_rec {P : List Int → Prop} (h0 : P []) (h1 : ∀ t c, P t → P (t ++ [c])) : ∀ t, P t := by
  have key : ∀ (n : Nat) (t : List Int), t.length = n → P t := by
    intro n
    induction n with
    | zero => intro t h; rw [List.length_eq_zero_iff.1 h]; exact h0
    | succ n ih =>
      intro t h
      have hne : t ≠ [] := fun e => by subst e; simp at h
      rw [← List.dropLast_concat_getLast hne]
      exact h1 _ _ (ih _ (by rw [List.length_dropLast]; omega))
  exact fun t => key _ t rfl
theorem vl_lt {l : List Int} : Dgs l → vl l < 10 ^ l.length := by
  refine snoc_rec (P := fun l => Dgs l → vl l < 10 ^ l.length) (fun _ => by simp [vl]) (fun t c ih h => ?_) l
  have h1 := ih fun x hx => h x (by simp [hx])
  have h2 := h c (by simp)
  rw [vl_snoc, List.length_append, List.length_singleton, Nat.pow_succ]
  omega
theorem vl_dg (m : Nat) : vl (dg m) = m := by
  induction m using Nat.strongRecOn with
  | ind m ih =>
    by_cases h : m < 10
    · rw [dg_small h]; simp [vl]; omega
    · rw [dg_big h, vl_snoc, ih _ (by omega)]
      omega
/-- no needless nought ahead -/
def Can (l : List Int) : Prop := l ≠ [] ∧ (l[0]? = some 48 → l.length = 1)
theorem can_dg (m : Nat) : Can (dg m) ∧ (0 < m → (dg m)[0]? ≠ some 48) := by
  induction m using Nat.strongRecOn with
  | ind m ih =>
    by_cases h : m < 10
    · rw [dg_small h]
      refine ⟨⟨by simp, fun _ => rfl⟩, fun h0 q => ?_⟩
      simp at q
      omega
    · obtain ⟨h1, h2⟩ := ih (m / 10) (by omega)
      have hp := dg_pos (m / 10)
      have e : (dg m)[0]? = (dg (m / 10))[0]? := by rw [dg_big h, List.getElem?_append_left (by omega)]
      have h3 := h2 (by omega)
      refine ⟨⟨fun q => by have := dg_pos m; rw [q] at this; simp at this, fun q => ?_⟩, fun _ => by rw [e]; exact h3⟩
      rw [e] at q
      exact absurd q h3
/-- figures without a needless nought are their number's -/
theorem dg_vl {l : List Int} : Dgs l → Can l → dg (vl l) = l := by
  refine snoc_rec (P := fun l => Dgs l → Can l → dg (vl l) = l) (fun _ h => absurd rfl h.1) (fun t c ih hd hc => ?_) l
  have h2 := hd c (by simp)
  have hd' : Dgs t := fun x hx => hd x (by simp [hx])
  by_cases ht : t = []
  · subst ht
    have e : vl ([] ++ [c]) = c.toNat - 48 := by simp [vl]
    rw [e, dg_small (by omega)]
    simp
    omega
  · have hl : 0 < t.length := List.length_pos_iff.2 ht
    have h0 : (t ++ [c])[0]? = t[0]? := List.getElem?_append_left hl
    have hne : t[0]? ≠ some 48 := fun q => by
      have := hc.2 (h0.trans q)
      rw [List.length_append, List.length_singleton] at this
      omega
    have ih' := ih hd' ⟨ht, fun q => absurd q hne⟩
    have hv : 1 ≤ vl t := by
      refine Classical.byContradiction fun q => ?_
      have h3 : vl t = 0 := by omega
      rw [h3] at ih'
      have : (dg 0)[0]? = some 48 := by rw [dg_small (by decide)]; rfl
      rw [ih'] at this
      exact hne this
    rw [vl_snoc, dg_big (by omega), show (10 * vl t + (c.toNat - 48)) / 10 = vl t by omega, ih', show (10 * vl t + (c.toNat - 48)) % 10 = c.toNat - 48 by omega]
    congr 2
    omega
/-- a word that is a number: a sign that may be, figures -/
def neg (s : List Int) : Bool := s[0]? == some 45
def rest (s : List Int) : List Int := if neg s = true then s.drop 1 else s
/-- which words are numbers -/
def IsNum (s : List Int) : Prop := Dgs (rest s) ∧ Can (rest s) ∧ (rest s).length ≤ 9 ∧ (neg s = true → (rest s)[0]? ≠ some 48)
def nval (s : List Int) : Int := if neg s = true then -(vl (rest s) : Int) else (vl (rest s) : Int)
theorem neg_cons {s : List Int} (h : neg s = true) : s = 45 :: s.drop 1 := by
  cases s with
  | nil => simp [neg] at h
  | cons a s => simp [neg] at h; subst h; rfl
/-- a word of at most nine figures is the numeral of its value just if it is a number -/
theorem num_iff {s : List Int} (hd : Dgs (rest s)) (h9 : (rest s).length ≤ 9) : (rest s ≠ [] ∧ num (nval s) = s) ↔ IsNum s := by
  unfold nval IsNum
  cases hn : neg s with
  | false =>
    have er : rest s = s := by rw [rest, if_neg (by simp [hn])]
    simp only [Bool.false_eq_true, if_false]
    rw [er] at hd h9 ⊢
    have e : num (vl s : Int) = dg (vl s) := by rw [num, if_neg (by omega), Int.natAbs_natCast]
    rw [e]
    constructor
    · rintro ⟨h1, h2⟩
      exact ⟨hd, h2 ▸ (can_dg _).1, h9, fun q => by cases q⟩
    · rintro ⟨_, h2, _, _⟩
      exact ⟨h2.1, dg_vl hd h2⟩
  | true =>
    have ec := neg_cons hn
    have er : rest s = s.drop 1 := by rw [rest, if_pos hn]
    simp only [if_true]
    rw [er] at hd h9 ⊢
    generalize s.drop 1 = r at *
    subst ec
    constructor
    · rintro ⟨h1, h2⟩
      have hv : 0 < vl r := by
        refine Classical.byContradiction fun q => ?_
        have h3 : vl r = 0 := by omega
        rw [h3] at h2
        have e0 : num (-((0 : Nat) : Int)) = [48] := by simp [num, dg_small]
        rw [e0] at h2
        injection h2 with h4 _
        omega
      have e : num (-(vl r : Int)) = 45 :: dg (vl r) := by rw [num, if_pos (by omega), Int.natAbs_neg, Int.natAbs_natCast]
      rw [e] at h2
      injection h2 with _ h2
      exact ⟨hd, h2 ▸ (can_dg _).1, h9, fun _ => h2 ▸ (can_dg _).2 hv⟩
    · rintro ⟨_, h2, _, h4⟩
      have hv : 0 < vl r := by
        refine Classical.byContradiction fun q => ?_
        have h3 : vl r = 0 := by omega
        have := dg_vl hd h2
        rw [h3] at this
        have h5 : (dg 0)[0]? = some 48 := by rw [dg_small (by decide)]; rfl
        rw [this] at h5
        exact h4 trivial h5
      have e : num (-(vl r : Int)) = 45 :: dg (vl r) := by rw [num, if_pos (by omega), Int.natAbs_neg, Int.natAbs_natCast]
      rw [e, dg_vl hd h2]
      exact ⟨h2.1, rfl⟩
theorem neg_num (n : Int) : neg (num n) = decide (n < 0) := by
  unfold neg num
  by_cases h : n < 0
  · simp [h]
  · simp only [h, if_false, decide_false]
    have hp := dg_pos n.natAbs
    rw [beq_eq_false_iff_ne]
    intro q
    have := dg_digits _ _ (List.mem_of_getElem? q)
    omega
theorem rest_num (n : Int) : rest (num n) = dg n.natAbs := by
  unfold rest
  rw [neg_num]
  unfold num
  by_cases h : n < 0
  · simp [h]
  · simp [h]
theorem nval_num (n : Int) : nval (num n) = n := by
  unfold nval
  rw [neg_num, rest_num, vl_dg]
  by_cases h : n < 0
  · simp [h]; omega
  · simp [h]; omega
theorem isNum_num (n : Int) : IsNum (num n) ↔ n.natAbs < 1000000000 := by
  unfold IsNum
  rw [rest_num, neg_num]
  constructor
  · rintro ⟨_, _, h, _⟩
    have := vl_lt (l := dg n.natAbs) (dg_digits _)
    rw [vl_dg] at this
    have h2 : 10 ^ (dg n.natAbs).length ≤ 10 ^ 9 := Nat.pow_le_pow_right (by decide) h
    omega
  · intro h
    refine ⟨dg_digits _, (can_dg _).1, dg_len (k := 8) (by omega), fun hn => (can_dg _).2 ?_⟩
    have := of_decide_eq_true hn
    omega
end Go.Proofs.YticipjjhbebegaaDoor
namespace Go.Proofs.YticipjjhbebegaaDoor
open Go Go.Eng
set_option maxRecDepth 100000
theorem least' {P : Nat → Prop} : ∀ {n : Nat}, P n → ∃ k, k ≤ n ∧ P k ∧ ∀ j, j < k → ¬ P j := by
  intro n
  induction n using Nat.strongRecOn with
  | ind n ih =>
    intro h
    by_cases hc : ∃ j, j < n ∧ P j
    · obtain ⟨j, h1, h2⟩ := hc
      obtain ⟨k, k1, k2, k3⟩ := ih j h1 h2
      exact ⟨k, by omega, k2, k3⟩
    · exact ⟨n, Nat.le_refl _, h, fun j hj hp => hc ⟨j, hj, hp⟩⟩
theorem bys_rest {l : List Int} (h : Bys l) : Bys (rest l) := by
  unfold rest
  split
  · exact fun c hc => h c (List.mem_of_mem_drop hc)
  · exact h
theorem vl_take {r : List Int} {i : Nat} {c : Int} (hx : r[i]? = some c) : vl (r.take (i + 1)) = 10 * vl (r.take i) + (c.toNat - 48) := by
  rw [List.take_add_one, hx]
  exact vl_snoc _ _
section
variable {N : Nat}
theorem cut_spec {l : List Int} (h : Bys l) : F_strings_CutPrefix N (bstr l) = some (bstr (rest l), neg l) := by
  unfold F_strings_CutPrefix F_internal_stringslite_CutPrefix F_internal_stringslite_HasPrefix
  rw [bstr_size]
  cases l with
  | nil => simp [rest, neg]
  | cons a l =>
    have e1 : sslc (bstr (a :: l)) 0 1 = some (bstr [a]) := by
      have := sslc_bstr (l := a :: l) (lo := 0) (hi := 1) (by omega) (by simp)
      simpa using this
    have e2 : sslc (bstr (a :: l)) 1 ((a :: l).length : Int) = some (bstr l) := by
      have := sslc_bstr (l := a :: l) (lo := 1) (hi := (a :: l).length) (by simp) (Nat.le_refl _)
      rw [List.take_length] at this
      exact this
    have e3 : ((bstr [a]).toList == (⟨#[45]⟩ : ByteArray).toList) = (a == 45) := by
      rw [show (⟨#[45]⟩ : ByteArray) = bstr [45] from ba_ext (by rw [bstr_data]; rfl)]
      rw [Bool.eq_iff_iff, beq_iff_eq, beq_iff_eq, bstr_inj (fun c hc => by simp at hc; subst hc; exact h c (by simp)) (fun c hc => by simp at hc; omega)]
      simp
    have hl : ((a :: l).length : Int) ≥ 1 := by simp only [List.length_cons]; omega
    simp only [hl, decide_true, if_true, e1, e3, bind, Option.bind_some]
    by_cases ha : a = 45
    · subst ha
      simp only [beq_self_eq_true, Bool.not_true, Bool.false_eq_true, if_false, e2, Option.bind_some]
      simp [rest, neg]
    · have : (a == 45) = false := by simpa using ha
      simp only [this, Bool.not_false, if_true]
      simp [rest, neg, ha]
open Classical in
theorem number_loop {r : List Int} (hN : 4294967296 ≤ N) (h : Bys r) (hl : r.length < 1000000) :
    iterO N (fun s => F_script_Number_l0 N (bstr r) s.1 s.2) (0, 0) = some (if Dgs r ∧ r.length ≤ 9 then .inl (vl r : Int) else .inr (0, 1)) := by
  have step : ∀ (i : Nat) (c : Int), r[i]? = some c → F_script_Number_l0 N (bstr r) (i : Int) (vl (r.take i) : Int) = if 48 ≤ c ∧ c ≤ 57 ∧ i < 9 then (if vl (r.take i) < 1000000000 then some (.inl (((i + 1 : Nat) : Int), (vl (r.take (i + 1)) : Int))) else F_script_Number_l0 N (bstr r) (i : Int) (vl (r.take i) : Int)) else some (.inr (.inr (0, 1))) := by
    intro i c hx
    have hi := (List.getElem?_eq_some_iff.1 hx).1
    have hcb := h c (List.mem_of_getElem? hx)
    have gs : sidx (bstr r) (i : Int) = some c := by rw [sidx_bstr h]; exact idx_of hx
    by_cases hc : 48 ≤ c ∧ c ≤ 57 ∧ i < 9
    · rw [if_pos hc]
      by_cases hv : vl (r.take i) < 1000000000
      · rw [if_pos hv]
        unfold F_script_Number_l0
        have e1 : IntKind.wrap .u8 (c - 48) = c - 48 := by simp [IntKind.wrap, IntKind.signed, IntKind.bits]; omega
        have e2 : IntKind.wrap .i64 (c - 48) = c - 48 := by rw [wrap64] <;> omega
        have e3 : w64 (10 * (vl (r.take i) : Int)) = 10 * (vl (r.take i) : Int) := by rw [w64, wrap64] <;> omega
        simp only [bstr_size, show ((i : Int) < (r.length : Int)) by omega, decide_true, if_true, gs, show ¬ c < 48 by omega, show ¬ c > 57 by omega, show ¬ (i : Int) ≥ 9 by omega, decide_false, Bool.false_eq_true, if_false, bind, Option.bind_some, e1, e2, e3]
        rw [w64_succ (by omega), show w64 (10 * (vl (r.take i) : Int) + (c - 48)) = 10 * (vl (r.take i) : Int) + (c - 48) by rw [w64, wrap64] <;> omega, vl_take hx]
        congr 4
        omega
      · rw [if_neg hv]
    · rw [if_neg hc]
      unfold F_script_Number_l0
      simp only [bstr_size, show ((i : Int) < (r.length : Int)) by omega, decide_true, if_true, gs, bind, Option.bind_some]
      by_cases h1 : c < 48
      · simp [h1]
      by_cases h2 : c > 57
      · simp [h1, h2]
      have h3 : (i : Int) ≥ 9 := by omega
      simp [h1, h2, h3]
  by_cases hg : Dgs r ∧ r.length ≤ 9
  · rw [if_pos hg]
    refine iterO_for0 (fun i => ((i : Int), (vl (r.take i) : Int))) r.length (by simp [vl]) (by omega) (fun i hi => ?_) ?_
    · have hx : r[i]? = some r[i] := List.getElem?_eq_getElem hi
      have hc := hg.1 _ (List.getElem_mem hi)
      have hv := vl_lt (hg.1.take i)
      have h9 : 10 ^ (r.take i).length ≤ 10 ^ 9 := Nat.pow_le_pow_right (by decide) (by rw [List.length_take]; omega)
      rw [step i _ hx, if_pos ⟨hc.1, hc.2, by omega⟩, if_pos (by omega)]
    · rw [List.take_length]
      unfold F_script_Number_l0
      simp [bstr_size]
  · rw [if_neg hg]
    have hex : ∃ p, p < r.length ∧ ¬ (48 ≤ r.getD p 0 ∧ r.getD p 0 ≤ 57 ∧ p < 9) := by
      refine Classical.byContradiction fun q => hg ⟨fun c hc => ?_, ?_⟩
      · obtain ⟨p, hp, rfl⟩ := List.getElem_of_mem hc
        refine Classical.byContradiction fun q2 => q ⟨p, hp, fun q3 => q2 ?_⟩
        rw [List.getD, List.getElem?_eq_getElem hp] at q3
        exact ⟨q3.1, q3.2.1⟩
      · refine Classical.byContradiction fun q2 => q ⟨9, by omega, fun q3 => ?_⟩
        omega
    obtain ⟨p0, hp0⟩ := hex
    obtain ⟨p, _, ⟨hp1, hp2⟩, hp3⟩ := least' (P := fun p => p < r.length ∧ ¬ (48 ≤ r.getD p 0 ∧ r.getD p 0 ≤ 57 ∧ p < 9)) hp0
    have gd : ∀ i, (hi : i < r.length) → r.getD i 0 = r[i] := fun i hi => by rw [List.getD, List.getElem?_eq_getElem hi]; rfl
    have good : ∀ i, i < p → 48 ≤ r.getD i 0 ∧ r.getD i 0 ≤ 57 ∧ i < 9 := fun i hi => Classical.byContradiction fun q => hp3 i hi ⟨by omega, q⟩
    refine iterO_for0 (fun i => ((i : Int), (vl (r.take i) : Int))) p (by simp [vl]) (by omega) (fun i hi => ?_) ?_
    · have hil : i < r.length := by omega
      have hx : r[i]? = some r[i] := List.getElem?_eq_getElem hil
      have hc := good i hi
      rw [gd i hil] at hc
      have hdg : Dgs (r.take i) := fun c hc => by
        obtain ⟨j, hj, rfl⟩ := List.getElem_of_mem hc
        rw [List.length_take] at hj
        have := good j (by omega)
        rw [gd j (by omega)] at this
        rw [List.getElem_take]
        exact ⟨this.1, this.2.1⟩
      have hv := vl_lt hdg
      have h9 : 10 ^ (r.take i).length ≤ 10 ^ 9 := Nat.pow_le_pow_right (by decide) (by rw [List.length_take]; omega)
      rw [step i _ hx, if_pos ⟨hc.1, hc.2.1, hc.2.2⟩, if_pos (by omega)]
    · have hx : r[p]? = some r[p] := List.getElem?_eq_getElem hp1
      rw [gd p hp1] at hp2
      rw [step p _ hx, if_neg hp2]
theorem nval_rng {l : List Int} (hd : Dgs (rest l)) (h9 : (rest l).length ≤ 9) : -1000000000 < nval l ∧ nval l < 1000000000 := by
  have hv := vl_lt hd
  have h9' : 10 ^ (rest l).length ≤ 10 ^ 9 := Nat.pow_le_pow_right (by decide) h9
  unfold nval
  split <;> omega
open Classical in
theorem number_spec {l : List Int} (hN : 4294967296 ≤ N) (h : Bys l) (hl : l.length < 1000000) : F_script_Number N (bstr l) = some (if IsNum l then (nval l, 0) else (0, 1)) := by
  have hrl : (rest l).length ≤ l.length := by
    unfold rest
    split
    · rw [List.length_drop]; omega
    · omega
  unfold F_script_Number
  simp only [cut_spec h, bind, Option.bind_some]
  rw [number_loop hN (bys_rest h) (by omega)]
  by_cases hg : Dgs (rest l) ∧ (rest l).length ≤ 9
  · obtain ⟨hd, h9⟩ := hg
    have hv := nval_rng hd h9
    rw [if_pos ⟨hd, h9⟩]
    simp only [Option.bind_some]
    have e1 : (if neg l = true then some (w64 (0 - (vl (rest l) : Int))) else some ((vl (rest l) : Int))) = some (nval l) := by
      unfold nval at hv ⊢
      split
      · rename_i hn
        rw [if_pos hn] at hv
        rw [show w64 (0 - (vl (rest l) : Int)) = -(vl (rest l) : Int) by rw [w64, wrap64] <;> omega]
      · rfl
    rw [e1]
    simp only [Option.bind_some, numeral_spec hN (n := nval l) (by omega) (by omega)]
    have e2 : (bstr (rest l)).toList = ByteArray.empty.toList ↔ rest l = [] := by
      rw [← bstr_nil, bstr_inj (bys_rest h) (fun c hc => by simp at hc)]
    have e3 : ((bstr (num (nval l))).toList != (bstr l).toList) = decide (num (nval l) ≠ l) := by
      rw [Bool.eq_iff_iff, bne_iff_ne, decide_eq_true_iff, Ne, bstr_inj (num_bys _) h]
    by_cases h0 : rest l = []
    · have hni : ¬ IsNum l := fun q => q.2.1.1 h0
      rw [if_pos (by rw [beq_iff_eq, e2]; exact h0), if_neg hni]
      rfl
    · rw [if_neg (by rw [beq_iff_eq, e2]; exact h0)]
      simp only [e3, Option.bind_some]
      have := num_iff hd h9
      by_cases hn : num (nval l) = l
      · rw [if_neg (by simpa using hn), if_pos (this.1 ⟨h0, hn⟩)]
      · rw [if_pos (by simpa using hn), if_neg (fun q => hn (this.2 q).2)]
  · have hni : ¬ IsNum l := fun q => hg ⟨q.1, q.2.2.1⟩
    rw [if_neg hg, if_neg hni]
    rfl
open Classical in
theorem refNumber_loop {l : List Int} {a : Nat} (hN : 4294967296 ≤ N) (h : Bys l) (hl : l.length < 1000000) (ha : a ≤ l.length) (h9 : l.length - a ≤ 9) :
    iterO N (fun s => F_dofferref36_Number_l0 N (bstr l) s.1 s.2) (0, (a : Int)) = some (if Dgs (l.drop a) then .inl (vl (l.drop a) : Int) else .inr (0, false)) := by
  have hdl : (l.drop a).length = l.length - a := List.length_drop
  have step : ∀ (i : Nat) (c : Int), (l.drop a)[i]? = some c → Dgs ((l.drop a).take i) → F_dofferref36_Number_l0 N (bstr l) (vl ((l.drop a).take i) : Int) ((a + i : Nat) : Int) = if 48 ≤ c ∧ c ≤ 57 then some (.inl ((vl ((l.drop a).take (i + 1)) : Int), ((a + (i + 1) : Nat) : Int))) else some (.inr (.inr (0, false))) := by
    intro i c hx hdt
    have hi := (List.getElem?_eq_some_iff.1 hx).1
    have hx' : l[a + i]? = some c := by rw [List.getElem?_drop] at hx; exact hx
    have hcb := h c (List.mem_of_getElem? hx')
    have gs : sidx (bstr l) ((a + i : Nat) : Int) = some c := by rw [sidx_bstr h]; exact idx_of hx'
    have hv := vl_lt hdt
    have h9' : 10 ^ ((l.drop a).take i).length ≤ 10 ^ 9 := Nat.pow_le_pow_right (by decide) (by rw [List.length_take]; omega)
    unfold F_dofferref36_Number_l0
    simp only [bstr_size, show (((a + i : Nat) : Int) < (l.length : Int)) by omega, decide_true, if_true, gs, bind, Option.bind_some]
    by_cases h1 : c < 48
    · simp [h1]
      intro
      omega
    by_cases h2 : c > 57
    · simp [h1, h2]
    have e1 : w64 ((vl ((l.drop a).take i) : Int) * 10) = (vl ((l.drop a).take i) : Int) * 10 := by rw [w64, wrap64] <;> omega
    have e2 : IntKind.wrap .i64 c = c := by rw [wrap64] <;> omega
    have e3 : w64 ((vl ((l.drop a).take i) : Int) * 10 + c) = (vl ((l.drop a).take i) : Int) * 10 + c := by rw [w64, wrap64] <;> omega
    simp only [h1, h2, decide_false, Bool.false_eq_true, if_false, Option.bind_some, e1, e2, e3]
    rw [if_pos (by omega), w64_succ (n := a + i) (by omega), show w64 ((vl ((l.drop a).take i) : Int) * 10 + c - 48) = (vl ((l.drop a).take i) : Int) * 10 + c - 48 by rw [w64, wrap64] <;> omega, vl_take hx]
    congr 3
    omega
  by_cases hg : Dgs (l.drop a)
  · rw [if_pos hg]
    refine iterO_for0 (fun i => ((vl ((l.drop a).take i) : Int), ((a + i : Nat) : Int))) (l.drop a).length (by simp [vl]) (by omega) (fun i hi => ?_) ?_
    · have hx : (l.drop a)[i]? = some (l.drop a)[i] := List.getElem?_eq_getElem hi
      have hc := hg _ (List.getElem_mem hi)
      rw [step i _ hx (hg.take i), if_pos hc]
    · rw [List.take_length]
      unfold F_dofferref36_Number_l0
      have : ¬ (((a + (l.drop a).length : Nat) : Int) < (l.length : Int)) := by omega
      simp only [bstr_size, this, decide_false, Bool.false_eq_true, if_false]
  · rw [if_neg hg]
    have hex : ∃ p, p < (l.drop a).length ∧ ¬ (48 ≤ (l.drop a).getD p 0 ∧ (l.drop a).getD p 0 ≤ 57) := by
      refine Classical.byContradiction fun q => hg fun c hc => ?_
      obtain ⟨p, hp, rfl⟩ := List.getElem_of_mem hc
      refine Classical.byContradiction fun q2 => q ⟨p, hp, fun q3 => q2 ?_⟩
      rw [List.getD, List.getElem?_eq_getElem hp] at q3
      exact q3
    obtain ⟨p0, hp0⟩ := hex
    obtain ⟨p, _, ⟨hp1, hp2⟩, hp3⟩ := least' (P := fun p => p < (l.drop a).length ∧ ¬ (48 ≤ (l.drop a).getD p 0 ∧ (l.drop a).getD p 0 ≤ 57)) hp0
    have gd : ∀ i, (hi : i < (l.drop a).length) → (l.drop a).getD i 0 = (l.drop a)[i] := fun i hi => by rw [List.getD, List.getElem?_eq_getElem hi]; rfl
    have good : ∀ i, i < p → 48 ≤ (l.drop a).getD i 0 ∧ (l.drop a).getD i 0 ≤ 57 := fun i hi => Classical.byContradiction fun q => hp3 i hi ⟨by omega, q⟩
    have hdt : ∀ i, i ≤ p → Dgs ((l.drop a).take i) := fun i hi c hc => by
      obtain ⟨j, hj, rfl⟩ := List.getElem_of_mem hc
      rw [List.length_take] at hj
      have := good j (by omega)
      rw [gd j (by omega)] at this
      rw [List.getElem_take]
      exact this
    refine iterO_for0 (fun i => ((vl ((l.drop a).take i) : Int), ((a + i : Nat) : Int))) p (by simp [vl]) (by omega) (fun i hi => ?_) ?_
    · have hil : i < (l.drop a).length := by omega
      have hx : (l.drop a)[i]? = some (l.drop a)[i] := List.getElem?_eq_getElem hil
      have hc := good i hi
      rw [gd i hil] at hc
      rw [step i _ hx (hdt i (by omega)), if_pos hc]
    · have hx : (l.drop a)[p]? = some (l.drop a)[p] := List.getElem?_eq_getElem hp1
      rw [gd p hp1] at hp2
      rw [step p _ hx (hdt p (Nat.le_refl _)), if_neg hp2]
open Classical in
theorem refNumber_spec {l : List Int} (hN : 4294967296 ≤ N) (h : Bys l) (hl : l.length < 1000000) : F_dofferref36_Number N (bstr l) = some (if IsNum l then (nval l, true) else (0, false)) := by
  have h0 : (if decide (((bstr l).size : Int) > 0) = true then (sidx (bstr l) 0).bind fun x => some (x == 45) else some false) = some (neg l) := by
    rw [bstr_size]
    cases l with
    | nil => rfl
    | cons a l =>
      have : sidx (bstr (a :: l)) 0 = some a := by
        have e := sidx_bstr h 0
        rw [e]
        rfl
      rw [if_pos (by simp only [List.length_cons, decide_eq_true_eq]; omega), this]
      simp [neg]
  unfold F_dofferref36_Number
  simp only [bind]
  rw [h0]
  simp only [Option.bind_some]
  -- the place behind the sign
  have main : ∀ (a : Nat) (sg : Int), rest l = l.drop a → a ≤ l.length → a = (if neg l = true then 1 else 0) → sg = (if neg l = true then -1 else 1) →
      ((if decide (w64 ((l.length : Int) - (a : Int)) < 1) = true then some true else if decide (w64 ((l.length : Int) - (a : Int)) > 9) = true then some true else
        (sidx (bstr l) (a : Int)).bind fun x101 => if (x101 == 48) = true then (if decide (w64 ((l.length : Int) - (a : Int)) > 1) = true then some true else some (decide (sg < 0))) else some false).bind fun x99 =>
        if x99 = true then some ((0 : Int), false) else (iterO N (fun s => F_dofferref36_Number_l0 N (bstr l) s.1 s.2) (0, (a : Int))).bind fun z => match z with
          | .inr z => some z
          | .inl x137 => some (w64 (x137 * sg), true)) = some (if IsNum l then (nval l, true) else (0, false)) := by
    intro a sg hr ha hna hsg
    have ew : w64 ((l.length : Int) - (a : Int)) = ((l.length - a : Nat) : Int) := by rw [w64, wrap64] <;> omega
    rw [ew]
    have hrl : (rest l).length = l.length - a := by rw [hr, List.length_drop]
    by_cases h1 : l.length - a < 1
    · have hni : ¬ IsNum l := fun q => by
        have := List.length_pos_iff.2 q.2.1.1
        omega
      simp only [show ((l.length - a : Nat) : Int) < 1 by omega, decide_true, if_true, Option.bind_some, if_neg hni]
    by_cases h2 : l.length - a > 9
    · have hni : ¬ IsNum l := fun q => by have := q.2.2.1; omega
      simp only [show ¬ ((l.length - a : Nat) : Int) < 1 by omega, show ((l.length - a : Nat) : Int) > 9 by omega, decide_true, decide_false, Bool.false_eq_true, if_false, if_true, Option.bind_some, if_neg hni]
    have hal : a < l.length := by omega
    have gx : sidx (bstr l) (a : Int) = some l[a] := by rw [sidx_bstr h]; exact idx_nat hal
    have h00 : (rest l)[0]? = some l[a] := by rw [hr, List.getElem?_drop, Nat.add_zero, List.getElem?_eq_getElem hal]
    simp only [show ¬ ((l.length - a : Nat) : Int) < 1 by omega, show ¬ ((l.length - a : Nat) : Int) > 9 by omega, decide_false, Bool.false_eq_true, if_false, gx, Option.bind_some]
    have fin : (rest l)[0]? ≠ some 48 ∨ ((rest l).length = 1 ∧ neg l = false) → (iterO N (fun s => F_dofferref36_Number_l0 N (bstr l) s.1 s.2) (0, (a : Int))).bind (fun z => match z with
          | .inr z => some z
          | .inl x137 => some (w64 (x137 * sg), true)) = some (if IsNum l then (nval l, true) else (0, false)) := by
      intro hc
      rw [refNumber_loop hN h hl ha (by omega)]
      by_cases hd : Dgs (rest l)
      · have hin : IsNum l := by
          refine ⟨hd, ⟨(fun q => by rw [q] at h00; cases h00), fun q => ?_⟩, by omega, fun q => ?_⟩
          · rcases hc with hc | hc
            · exact absurd q hc
            · exact hc.1
          · rcases hc with hc | hc
            · exact hc
            · rw [hc.2] at q; cases q
        have hv := nval_rng hd (by omega)
        rw [if_pos (hr ▸ hd), if_pos hin]
        simp only [Option.bind_some]
        have : w64 ((vl (l.drop a) : Int) * sg) = nval l := by
          rw [← hr]
          unfold nval at hv ⊢
          cases hn : neg l with
          | true =>
            rw [hn] at hsg hv
            simp only [if_true] at hsg hv ⊢
            subst hsg
            rw [w64, wrap64] <;> omega
          | false =>
            rw [hn] at hsg hv
            simp only [Bool.false_eq_true, if_false] at hsg hv ⊢
            subst hsg
            rw [w64, wrap64] <;> omega
        rw [this]
      · rw [if_neg (hr ▸ hd), if_neg (fun q => hd q.1)]
        rfl
    by_cases h4 : l[a] = 48
    · have hb : (l[a] == 48) = true := by simpa using h4
      simp only [hb, if_true]
      by_cases h5 : l.length - a > 1
      · have hni : ¬ IsNum l := fun q => by have := q.2.1.2 (by rw [h00, h4]); omega
        simp only [show ((l.length - a : Nat) : Int) > 1 by omega, decide_true, if_true, Option.bind_some, if_neg hni]
      · simp only [show ¬ ((l.length - a : Nat) : Int) > 1 by omega, decide_false, Bool.false_eq_true, if_false, Option.bind_some]
        cases hn : neg l with
        | true =>
          have hni : ¬ IsNum l := fun q => q.2.2.2 hn (by rw [h00, h4])
          rw [hn] at hsg
          simp only [if_true] at hsg
          subst hsg
          simp only [show (-1 : Int) < 0 by omega, decide_true, if_true, if_neg hni]
        | false =>
          have hs1 : sg = 1 := by rw [hsg, hn]; rfl
          simp only [hs1, show ¬ (1 : Int) < 0 by omega, decide_false, Bool.false_eq_true, if_false]
          have := fin (.inr ⟨by omega, hn⟩)
          rw [hs1] at this
          exact this
    · have hb : (l[a] == 48) = false := by simpa using h4
      simp only [hb, Bool.false_eq_true, if_false, Option.bind_some]
      exact fin (.inl (by rw [h00]; intro q; exact h4 (Option.some.inj q)))
  rw [bstr_size]
  cases hn : neg l with
  | true =>
    have hlen : 1 ≤ l.length := by
      have := neg_cons hn
      rw [this]; simp
    exact main 1 (-1) (by rw [rest, if_pos hn]) hlen (by rw [hn]; rfl) (by rw [hn]; rfl)
  | false =>
    exact main 0 1 (by rw [rest, if_neg (by simp [hn])]; rfl) (by omega) (by rw [hn]; rfl) (by rw [hn]; rfl)
end
theorem alive36 : F_dofferlaw36_alive 4294967296 = some true := by kernel_rfl
theorem num_form : F_doffernum_Num 4294967296 1 = some 4 := by kernel_rfl
open Classical in
theorem scriptNumbers_true {n : Int} {s : ByteArray} (h1 : -9223372036854775808 ≤ n) (h2 : n ≤ 9223372036854775807) : F_dofferlaw36_ScriptNumbers 4294967296 n s = some true := by
  have hN : 4294967296 ≤ 4294967296 := Nat.le_refl _
  unfold F_dofferlaw36_ScriptNumbers
  simp only [alive36, bind, Option.bind_some, Bool.not_true, Bool.false_eq_true, if_false]
  by_cases g1 : (s.size : Int) > 100
  · simp [g1]
  have hb := bys_sby s
  have hsl : (sby s).length < 1000000 := by rw [sby_len]; omega
  have hnl : (num n).length < 1000000 := by
    have := dg_len (m := n.natAbs) (k := 19) (by omega)
    unfold num
    split
    · rw [List.length_cons]; omega
    · omega
  have es : F_script_Number 4294967296 s = some (if IsNum (sby s) then (nval (sby s), 0) else (0, 1)) := by have := number_spec hN hb hsl; rwa [bstr_sby] at this
  have er : F_dofferref36_Number 4294967296 s = some (if IsNum (sby s) then (nval (sby s), true) else (0, false)) := by have := refNumber_spec hN hb hsl; rwa [bstr_sby] at this
  have en := number_spec hN (num_bys n) hnl
  simp only [decide_eq_false g1, Bool.false_eq_true, if_false, numeral_spec hN h1 h2, es, er, en, refNumeral_spec (K := 19) (n := n) (by omega) h1 h2 (by omega) 4294967296 (by omega), Option.bind_some, bne_self_eq_false]
  have o0 : eOk errIds 0 = false := by decide
  have o1 : eOk errIds 1 = true := by decide
  have sm : (decide (n > -1000000000) = true ∧ decide (n < 1000000000) = true) ↔ IsNum (num n) := by
    rw [isNum_num, decide_eq_true_iff, decide_eq_true_iff]
    omega
  have tail : ((if decide (n > -1000000000) = true then some (decide (n < 1000000000)) else some false).bind fun x96 =>
      (if (!eOk errIds (if IsNum (num n) then (nval (num n), (0 : Int)) else (0, 1)).2) == x96 then if (!x96) = true then some true else some ((if IsNum (num n) then (nval (num n), (0 : Int)) else (0, 1)).1 == n) else some false).bind fun x99 => some x99) = some true := by
    by_cases hi : IsNum (num n)
    · obtain ⟨a1, a2⟩ := sm.2 hi
      rw [if_pos a1, a2]
      simp only [if_pos hi, o0, nval_num, Option.bind_some, Bool.not_false, beq_self_eq_true, if_true, Bool.not_true, Bool.false_eq_true, if_false]
    · have : (if decide (n > -1000000000) = true then some (decide (n < 1000000000)) else some false) = some false := by
        by_cases a1 : decide (n > -1000000000) = true
        · rw [if_pos a1]
          cases a2 : decide (n < 1000000000) with
          | true => exact absurd (sm.1 ⟨a1, a2⟩) hi
          | false => rfl
        · rw [if_neg a1]
      rw [this]
      simp only [if_neg hi, o1, Option.bind_some, Bool.not_true, beq_self_eq_true, if_true, Bool.not_false]
  by_cases hi : IsNum (sby s)
  · simp only [if_pos hi, o0, Bool.not_false, bne_self_eq_false, Bool.false_eq_true, if_false, Bool.not_true, Option.bind_some]
    exact tail
  · simp only [if_neg hi, o1, num_form, Bool.not_true, bne_self_eq_false, Bool.false_eq_true, if_false, Bool.not_false, if_true, Option.bind_some]
    exact tail
end Go.Proofs.YticipjjhbebegaaDoor
