import Derived.Test.YtchjfkdljnmmgaaGreatDoorCanonOfD1
import Derived.LaidEql
import Derived.RowKitTokens
import Derived.Stop.Asserts
import Derived.Test.YtchjfkdljnmmgaaGreatDoorChecked
import Derived.Test.YtchjfkdljnmmgaaGreatDoorProg
import Derived.WalkKit
namespace Go.Proofs.YtchjfkdljnmmgaaGreatDoor
open Go Go.Shelf
variable {N:Nat}{rows:List Go.Eng.LI}{rule entry:Go.Eng.LI}
def sortSets_ren:Go.Shelf.Ren:=⟨fun|6=>105|15=>144|14=>143|28=>183|29=>184|20=>175|21=>176|22=>177|23=>178|24=>179|25=>180|26=>181|27=>182|46=>219|47=>220|48=>221|49=>222|50=>223|57=>236|n=>n,fun|22=>117|24=>56|25=>183|3=>3|39=>240|0=>0|53=>278|55=>54|4=>4|46=>272|45=>271|50=>140|5=>5|9=>9|66=>309|70=>313|76=>324|77=>105|n=>n,fun|n=>n⟩
theorem sortSets:Go.Proofs.SlLaysF0.n6 Tryz.prog sortSets_ren:={
 mixed:=by kernel_rfl
 f6:=⟨Tryz.f105.name,by decide,Tryz.func105.trans (congrArg some (by kernel_rfl))⟩
 f14:=⟨Tryz.f143.name,by decide,Tryz.func143.trans (congrArg some (by kernel_rfl))⟩
 f15:=Tryz.func144.trans (congrArg some (by kernel_rfl))
 f20:=⟨Tryz.f175.name,by decide,Tryz.func175.trans (congrArg some (by kernel_rfl))⟩
 f21:=⟨Tryz.f176.name,by decide,Tryz.func176.trans (congrArg some (by kernel_rfl))⟩
 f22:=⟨Tryz.f177.name,by decide,Tryz.func177.trans (congrArg some (by kernel_rfl))⟩
 f23:=⟨Tryz.f178.name,by decide,Tryz.func178.trans (congrArg some (by kernel_rfl))⟩
 f24:=⟨Tryz.f179.name,by decide,Tryz.func179.trans (congrArg some (by kernel_rfl))⟩
 f25:=⟨Tryz.f180.name,by decide,Tryz.func180.trans (congrArg some (by kernel_rfl))⟩
 f26:=⟨Tryz.f181.name,by decide,Tryz.func181.trans (congrArg some (by kernel_rfl))⟩
 f27:=⟨Tryz.f182.name,by decide,Tryz.func182.trans (congrArg some (by kernel_rfl))⟩
 f28:=Tryz.func183.trans (congrArg some (by kernel_rfl))
 f29:=Tryz.func184.trans (congrArg some (by kernel_rfl))
 f46:=⟨Tryz.f219.name,by decide,Tryz.func219.trans (congrArg some (by kernel_rfl))⟩
 f47:=Tryz.func220.trans (congrArg some (by kernel_rfl))
 f48:=Tryz.func221.trans (congrArg some (by kernel_rfl))
 f49:=⟨Tryz.f222.name,by decide,Tryz.func222.trans (congrArg some (by kernel_rfl))⟩
 f50:=⟨Tryz.f223.name,by decide,Tryz.func223.trans (congrArg some (by kernel_rfl))⟩
 f57:=⟨Tryz.f236.name,by decide,Tryz.func236.trans (congrArg some (by kernel_rfl))⟩
 t0:=Tryz.underlying0
 a0:=Tryz.isAgg0
 z0:=Tryz.sizeOf0
 v0:=Tryz.zeroValue0
 t3:=Tryz.underlying3
 a3:=Tryz.isAgg3
 z3:=Tryz.sizeOf3
 v3:=Tryz.zeroValue3
 t4:=Tryz.underlying4
 a4:=Tryz.isAgg4
 z4:=Tryz.sizeOf4
 v4:=Tryz.zeroValue4
 t5:=Tryz.underlying5
 a5:=Tryz.isAgg5
 z5:=Tryz.sizeOf5
 v5:=Tryz.zeroValue5
 t9:=Tryz.underlying9
 a9:=Tryz.isAgg9
 z9:=Tryz.sizeOf9
 v9:=Tryz.zeroValue9
 t22:=Tryz.underlying117
 a22:=Tryz.isAgg117
 z22:=Tryz.sizeOf117
 v22:=Tryz.zeroValue117
 t25:=Tryz.underlying183
 a25:=Tryz.isAgg183
 z25:=Tryz.sizeOf183
 v25:=Tryz.zeroValue183
 t39:=Tryz.underlying240
 a39:=Tryz.isAgg240
 z39:=Tryz.sizeOf240
 v39:=Tryz.zeroValue240
 t45:=Tryz.underlying271
 a45:=Tryz.isAgg271
 z45:=Tryz.sizeOf271
 v45:=Tryz.zeroValue271
 t46:=Tryz.underlying272
 a46:=Tryz.isAgg272
 z46:=Tryz.sizeOf272
 v46:=Tryz.zeroValue272
 t50:=Tryz.underlying140
 a50:=Tryz.isAgg140
 z50:=Tryz.sizeOf140
 v50:=Tryz.zeroValue140
 t53:=Tryz.underlying278
 a53:=Tryz.isAgg278
 z53:=Tryz.sizeOf278
 v53:=Tryz.zeroValue278
 t55:=Tryz.underlying54
 a55:=Tryz.isAgg54
 z55:=Tryz.sizeOf54
 v55:=Tryz.zeroValue54
 t66:=Tryz.underlying309
 a66:=Tryz.isAgg309
 z66:=Tryz.sizeOf309
 v66:=Tryz.zeroValue309
 t70:=Tryz.underlying313
 a70:=Tryz.isAgg313
 z70:=Tryz.sizeOf313
 v70:=Tryz.zeroValue313
 t76:=Tryz.underlying324
 a76:=Tryz.isAgg324
 z76:=Tryz.sizeOf324
 v76:=Tryz.zeroValue324
 t77:=Tryz.underlying105
 a77:=Tryz.isAgg105
 z77:=Tryz.sizeOf105
 v77:=Tryz.zeroValue105}
open Go.RowKit Go.Extern.Stop Go.Stop Go.Extern
set_option maxRecDepth 20000
theorem Is.typeOf(v:Value)(w:World):(Extern.ReflectliteType.typeOf #[.iface 373 v]).run Tryz.prog w= .ok (.iface 190 (.agg #[.pointer (some ⟨22,373,none⟩)])) w:=by kernel_rfl
def Is.cmp:Array Value→Sem Value:=Extern.ReflectliteType.method fun t=>do Rtype.noPackHeld "Comparable" t;pure (.bool (←typeInfo t).comparable)
theorem Is.comparable(w:World):(Is.cmp #[.agg #[.pointer (some ⟨22,373,none⟩)]]).run Tryz.prog w= .ok (.bool true) w:=by kernel_rfl
theorem Is.methodComparable(v:Value)(w:World):(Go.method 508 190 v "Comparable").run Tryz.prog w= .ok (314,v) w:=by kernel_rfl
theorem Is.comp:(Tryz.prog.info? 373).map (·.comparable)=some true:=by kernel_rfl
theorem Is.size:(Tryz.prog.info? 396).map (·.size)=some 1:=by kernel_rfl
theorem Is.noIs(v:Value)(xT:TypeId)(w:World):(Instr.typeAssert (.iface 373 v) xT 192 true).run Tryz.prog w= .ok (.tuple #[.nilIface,.bool false]) w:=run_typeAssert_lacksB Tryz.underlying192 (by kernel_rfl) (by kernel_rfl) v xT w
theorem Is.noUnwrap(v:Value)(xT:TypeId)(w:World):(Instr.typeAssert (.iface 373 v) xT 195 true).run Tryz.prog w= .ok (.tuple #[.nilIface,.bool false]) w:=run_typeAssert_lacksB Tryz.underlying195 (by kernel_rfl) (by kernel_rfl) v xT w
theorem Is.noUnwraps(v:Value)(xT:TypeId)(w:World):(Instr.typeAssert (.iface 373 v) xT 197 true).run Tryz.prog w= .ok (.tuple #[.nilIface,.bool false]) w:=run_typeAssert_lacksB Tryz.underlying197 (by kernel_rfl) (by kernel_rfl) v xT w
theorem is_same(a:Addr)(w:World):
 Calls Tryz.prog 36 #[.iface 373 (.pointer (some a)),.iface 373 (.pointer (some a))] w fun e w'=>e= .returned (.bool true)∧w'=w:=by
 obtain⟨i,hi,hcmp⟩:=Option.map_eq_some_iff.1 Is.comp;obtain⟨j,hj,hjs⟩:=Option.map_eq_some_iff.1 Is.size;have h8:= @run_callFunc_extern Tryz.prog 77 _ Extern.ReflectliteType.typeOf Tryz.func77 (by kernel_rfl) (by kernel_rfl) (by kernel_rfl) (by kernel_rfl);have h32:= @run_callFunc_extern Tryz.prog 314 _ Is.cmp Tryz.func314 (by kernel_rfl) (by kernel_rfl) (by kernel_rfl) (by kernel_rfl);have tT:=Is.typeOf;have cT:=Is.comparable;have mR:=Is.methodComparable;have heq:=run_eql_iface_ptr_same (P:=Tryz.prog) w a Tryz.underlying36 Tryz.underlying373 hi hcmp hj
 go_enter Tryz.func36,Tryz.ntmps36
 go_wp2
 refine wp_loop_rounds 1 ?_;rw[rounds_succ]
 go_wp2
 go_ret
 exact⟨rfl,rfl⟩
theorem is_nil(b:Addr)(w:World):
 Calls Tryz.prog 36 #[.nilIface,.iface 373 (.pointer (some b))] w fun e w'=>e= .returned (.bool false)∧w'=w:=by
 have hn:=run_eql_iface_nil_left (P:=Tryz.prog) w 373 (.pointer (some b)) Tryz.underlying36
 go_enter Tryz.func36,Tryz.ntmps36
 go_wp2
 go_ret
 exact⟨rfl,rfl⟩
theorem is_other(a b:Addr)(ca cb:Array Value)(ta tb:TypeId)(w:World)(hne:a≠b)(ha:w.heap[a.block]? =some (.cells ca ta (0,0)))(hb:w.heap[b.block]? =some (.cells cb tb (0,0))):
 Calls Tryz.prog 36 #[.iface 373 (.pointer (some a)),.iface 373 (.pointer (some b))] w fun e w'=>e= .returned (.bool false)∧w'=w:=by
 obtain⟨i,hi,hcmp⟩:=Option.map_eq_some_iff.1 Is.comp;obtain⟨j,hj,hjs⟩:=Option.map_eq_some_iff.1 Is.size;have h8:= @run_callFunc_extern Tryz.prog 77 _ Extern.ReflectliteType.typeOf Tryz.func77 (by kernel_rfl) (by kernel_rfl) (by kernel_rfl) (by kernel_rfl);have h32:= @run_callFunc_extern Tryz.prog 314 _ Is.cmp Tryz.func314 (by kernel_rfl) (by kernel_rfl) (by kernel_rfl) (by kernel_rfl);have tT:=Is.typeOf;have cT:=Is.comparable;have mR:=Is.methodComparable;have nE:=Is.noIs;have uE:=Is.noUnwrap;have vE:=Is.noUnwraps;have heq:=run_eql_iface_ptr_other (P:=Tryz.prog) w Tryz.underlying36 Tryz.underlying373 hi hcmp hj (by rw[hjs];decide) hne ha hb
 go_enter Tryz.func36,Tryz.ntmps36
 go_wp2
 refine wp_loop_rounds 1 ?_;rw[rounds_succ]
 go_wp2
 go_ret
 exact⟨rfl,rfl⟩
theorem isC:Go.Eng.IsC Tryz.prog 36 373:=⟨is_same,is_nil,is_other⟩
end Go.Proofs.YtchjfkdljnmmgaaGreatDoor
namespace Go.Eng
open Go
theorem iterO_for{σ τ:Type}{f:σ→Option (σ ⊕ τ)}{r:τ}(st:Nat→σ): ∀(n:Nat) {N k:Nat},n<N→(∀i,k≤i→i<k+n→f (st i)=some (.inl (st (i+1))))→f (st (k+n))=some (.inr r)→iterO N f (st k)=some r
 |0,0,_,h,_,_=>absurd h (Nat.not_lt_zero _)
 |0,N+1,k,_,_,he=>by simp only[iterO];rw[show f (st k)=_ from he]
 |n+1,0,_,h,_,_=>absurd h (Nat.not_lt_zero _)
 |n+1,N+1,k,h,hs,he=>by
   simp only[iterO];rw[hs k (Nat.le_refl _) Om];exact iterO_for st n Om (fun i h1 h2=>hs i Om Om) (by rw[show k+1+n=k+(n+1) by omega];exact he)
theorem iterO_for0{σ τ:Type}{f:σ→Option (σ ⊕ τ)}{r:τ}{s:σ}(st:Nat→σ)(n:Nat){N:Nat}(h0:st 0=s)(hN:n<N)(hs: ∀i,i<n→f (st i)=some (.inl (st (i+1))))(he:f (st n)=some (.inr r)):iterO N f s=some r:=by
 subst h0;exact iterO_for st n hN (fun i _ h=>hs i Om) (by rw[Nat.zero_add];exact he)
theorem iterO_while{σ τ:Type}{f:σ→Option (σ ⊕ τ)}(I:σ→Prop)(μ:σ→Nat)(Q:τ→Prop)(step: ∀s,I s→(∃s',f s=some (.inl s')∧I s'∧μ s'<μ s)∨ ∃r,f s=some (.inr r)∧Q r):
 ∀{N:Nat} {s:σ},I s→μ s<N→ ∃r,iterO N f s=some r∧Q r
 |0,_,_,h=>absurd h (Nat.not_lt_zero _)
 |N+1,s,hI,h=>by
   rcases step s hI with⟨s',h1,h2,h3⟩|⟨r,h1,h2⟩
   ·obtain⟨r,h4,h5⟩:=iterO_while I μ Q step (N:=N) h2 Om;exact⟨r,by simp only[iterO,h1];exact h4,h5⟩
   exact⟨r,by simp only[iterO,h1],h2⟩
theorem wrap64{x:Int}(h1: -9223372036854775808≤x)(h2:x≤9223372036854775807):IntKind.wrap .i64 x=x:=by
 simp only[IntKind.wrap,IntKind.signed,IntKind.bits];simp;omega
theorem wrapU64{x:Int}(h1:0≤x)(h2:x≤18446744073709551615):IntKind.wrap .u64 x=x:=by
 simp only[IntKind.wrap,IntKind.signed,IntKind.bits];simp;omega
theorem w64_succ{n:Nat}(h:n<9223372036854775807):w64 ((n:Int)+1)=((n+1:Nat):Int):=by
 rw[w64,wrap64]<;>omega
theorem idx_nat{α:Type}{xs:List α}{i:Nat}(h:i<xs.length):idx xs (i:Int)=some xs[i]:=by simp[idx,h]
theorem idx_int{α:Type}{xs:List α}{i:Int}(h0:0≤i)(h:i.toNat<xs.length):idx xs i=some xs[i.toNat]:=by simp[idx,h,h0]
theorem idx_of{α:Type}{xs:List α}{i:Nat}{x:α}(h:xs[i]? =some x):idx xs (i:Int)=some x:=by simp[idx,h]
theorem setI_nat{α:Type}{xs:List α}{i:Nat}{x:α}(h:i<xs.length):setI xs (i:Int) x=some (xs.set i x):=by simp[setI,h]
theorem setI_int{α:Type}{xs:List α}{i:Int}{x:α}(h0:0≤i)(h:i.toNat<xs.length):setI xs i x=some (xs.set i.toNat x):=by simp[setI,h,h0]
theorem app_eq{α:Type}{xs ys:List α}(h:xs.length+ys.length≤4294967296):app xs ys=some (xs++ys):=by simp[app,h]
theorem mk_eq{α:Type}{z:α}{n:Nat}(h:n≤4294967296):mk z (n:Int)=some (List.replicate n z):=by
 simp[mk];omega
theorem loop_find{α τ:Type}{f:Int→Option (Int ⊕ (Unit ⊕ τ))}(xs:List α)(p:α→Bool)(g:Nat→τ){N:Nat}(hN:xs.length<N)
 (hb: ∀(i:Nat) (x:α),xs[i]? =some x→f (i:Int)=if p x then some (.inr (.inr (g i)))else some (.inl ((i+1:Nat):Int))) (he:f (xs.length:Int)=some (.inr (.inl ()))):
 iterO N f 0=some (match xs.findIdx? p with|some i=> .inr (g i)|none=> .inl ()):=by
 cases h:xs.findIdx? p with
 |none=>
   have h':=List.findIdx?_eq_none_iff.1 h;refine iterO_for0 (fun i=>(i:Int)) xs.length rfl hN (fun i hi=>?_) he;rw[hb i xs[i] (List.getElem?_eq_getElem hi),h' _ (List.getElem_mem hi)];simp
 |some k=>
   obtain⟨hk,hp,hlt⟩:=List.findIdx?_eq_some_iff_getElem.1 h;refine iterO_for0 (fun i=>(i:Int)) k rfl Om (fun i hi=>?_) ?_
   ·rw[hb i _ (List.getElem?_eq_getElem Om)];have:=hlt i hi;simp[this]
   rw[hb k _ (List.getElem?_eq_getElem hk)];simp[hp]
theorem loop_any{α τ:Type}{f:Int→Option (Int ⊕ (Unit ⊕ τ))}(xs:List α)(p:α→Bool)(b:τ){N:Nat}(hN:xs.length<N)
 (hb: ∀(i:Nat) (x:α),xs[i]? =some x→f (i:Int)=if p x then some (.inr (.inr b))else some (.inl ((i+1:Nat):Int))) (he:f (xs.length:Int)=some (.inr (.inl ()))):
 iterO N f 0=some (if xs.any p then .inr b else .inl ()):=by
 rw[loop_find xs p (fun _=>b) hN hb he]
 cases h:xs.findIdx? p with
 |none=>
   have h':=List.findIdx?_eq_none_iff.1 h;have:xs.any p=false:=by rw[List.any_eq_false];intro x hx;rw[h' x hx];simp
   simp[this]
 |some k=>
   obtain⟨hk,hp,hlt⟩:=List.findIdx?_eq_some_iff_getElem.1 h;have:xs.any p=true:=List.any_eq_true.2 ⟨_,List.getElem_mem hk,hp⟩;simp[this]
theorem loop_fold{α σ τ:Type}{ι:Type}{f:ι→Option (ι ⊕ τ)}(st:Nat→σ→ι)(out:σ→τ)(xs:List α)(step:σ→α→σ)(I:Nat→σ→Prop){N:Nat}{s:σ}(hN:xs.length<N)
 (hI:I 0 s) (hb: ∀(i:Nat) (x:α) (s:σ),xs[i]? =some x→I i s→f (st i s)=some (.inl (st (i+1) (step s x)))∧I (i+1) (step s x)) (he: ∀s,I xs.length s→f (st xs.length s)=some (.inr (out s))):
 iterO N f (st 0 s)=some (out (xs.foldl step s)):=by
 have hI': ∀i,i≤xs.length→I i ((xs.take i).foldl step s):=by
  intro i
  induction i with
  |zero=>intro _;simpa using hI
  |succ i ih=>
    intro hi;have hx:xs[i]? =some xs[i]:=List.getElem?_eq_getElem Om;rw[List.take_add_one,hx,List.foldl_append];exact(hb i _ _ hx (ih Om)).2
 refine iterO_for0 (fun i=>st i ((xs.take i).foldl step s)) xs.length Sm hN (fun i hi=>?_) ?_
 ·have hx:xs[i]? =some xs[i]:=List.getElem?_eq_getElem hi;rw[(hb i _ _ hx (hI' i Om)).1,List.take_add_one,hx,List.foldl_append];rfl
 have:=he _ (hI' _ (Nat.le_refl _));rw[List.take_length]at this;simp only[List.take_length];exact this
theorem loop_inv{α σ τ ι:Type}{f:ι→Option (ι ⊕ τ)}(st:Nat→σ→ι)(out:σ→τ)(xs:List α)(I:Nat→σ→Prop){N:Nat}{s:σ}(hN:xs.length<N)
 (hI:I 0 s) (hb: ∀(i:Nat) (x:α) (s:σ),xs[i]? =some x→I i s→ ∃s',f (st i s)=some (.inl (st (i+1) s'))∧I (i+1) s') (he: ∀s,I xs.length s→f (st xs.length s)=some (.inr (out s))):
 ∃s',iterO N f (st 0 s)=some (out s')∧I xs.length s':=by
 have key: ∀(k i:Nat) (s:σ) (M:Nat),i+k=xs.length→k<M→I i s→ ∃s',iterO M f (st i s)=some (out s')∧I xs.length s':=by
  intro k
  induction k with
  |zero=>
    intro i s M hi hM h;obtain⟨M,rfl⟩: ∃m,M=m+1:=⟨M-1,by omega⟩;obtain rfl:i=xs.length:=by omega
    exact⟨s,by simp only[iterO];rw[he s h],h⟩
  |succ k ih=>
    intro i s M hi hM h;obtain⟨M,rfl⟩: ∃m,M=m+1:=⟨M-1,by omega⟩;obtain⟨s',h1,h2⟩:=hb i _ s (List.getElem?_eq_getElem Om) h;obtain⟨s'',h3,h4⟩:=ih (i+1) s' M Om Om h2;exact⟨s'',by simp only[iterO];rw[h1];exact h3,h4⟩
 exact key xs.length 0 s N Om hN hI
end Go.Eng
namespace Go.Proofs.YtchjfkdljnmmgaaGreatDoor
open Go Go.Eng
variable {N:Nat}{rows:List Go.Eng.LI}{rule entry:Go.Eng.LI}
theorem lt_len{α:Type}{xs:List α}{i:Nat}{x:α}(h:xs[i]? =some x):i<xs.length:=(List.getElem?_eq_some_iff.1 h).1
theorem right1(N:Nat)(x n:Int):F_204 N x n=some (decide (x<0)||decide (x≥n)):=by
 unfold F_204;by_cases h:x<0<;>simp[h]
theorem right2(N:Nat)(x:Int):F_205 N x=some (decide (x< -1)||decide (x≥48)):=by
 unfold F_205;by_cases h:x< -1<;>simp[h]
theorem contains1{xs:LI}{n:Int}(hN:4294967296≤N)(hl:xs.length<4294967296):F_23 N xs n=some (xs.any fun x=>decide (x<0)||decide (x≥n)):=by
 unfold F_23 F_3
 rw[loop_find xs (fun x=>decide (x<0)||decide (x≥n)) (fun i=>(i:Int)) Om (fun i x hx=>by
  have hi:=lt_len hx;unfold F_190;simp only[show((i:Int)<(xs.length:Int)) by omega,decide_true,if_true,idx_of hx,right1,bind,Option.bind_some];rw[w64_succ Om]) (by unfold F_190;simp)]
 cases h:xs.findIdx? _ with
 |none=>
   have:xs.any (fun x=>decide (x<0)||decide (x≥n))=false:=List.any_eq_false.2 fun x hx=>by rw[List.findIdx?_eq_none_iff.1 h x hx];simp
   simp[this]
 |some k=>
   obtain⟨hk,hp,_⟩:=List.findIdx?_eq_some_iff_getElem.1 h;have:xs.any (fun x=>decide (x<0)||decide (x≥n))=true:=List.any_eq_true.2 ⟨_,List.getElem_mem hk,hp⟩;rw[this];simp
theorem contains2{xs:LI}(hN:4294967296≤N)(hl:xs.length<4294967296):F_203 N xs=some (xs.any fun x=>decide (x< -1)||decide (x≥48)):=by
 unfold F_203 F_64
 rw[loop_find xs (fun x=>decide (x< -1)||decide (x≥48)) (fun i=>(i:Int)) Om (fun i x hx=>by
  have hi:=lt_len hx;unfold F_187;simp only[show((i:Int)<(xs.length:Int)) by omega,decide_true,if_true,idx_of hx,right2,bind,Option.bind_some];rw[w64_succ Om]) (by unfold F_187;simp)]
 cases h:xs.findIdx? _ with
 |none=>
   have:xs.any (fun x=>decide (x< -1)||decide (x≥48))=false:=List.any_eq_false.2 fun x hx=>by rw[List.findIdx?_eq_none_iff.1 h x hx];simp
   simp[this]
 |some k=>
   obtain⟨hk,hp,_⟩:=List.findIdx?_eq_some_iff_getElem.1 h;have:xs.any (fun x=>decide (x< -1)||decide (x≥48))=true:=List.any_eq_true.2 ⟨_,List.getElem_mem hk,hp⟩;rw[this];simp
structure Rt(rows:List LI)(rule entry:LI):Prop where
 n1:1≤rows.length
 n2:rows.length≤200
 ru:rule.length=rows.length
 e1:1≤entry.length
 e2:entry.length≤8
 row: ∀r∈rows,∀x∈r,0≤x∧x<rows.length
 rul: ∀x∈rule,-1≤x∧x<48
 ent: ∀x∈entry,0≤x∧x<rows.length
 r0:rows[0]? =some (List.replicate 256 0)
 u0:rule[0]? =some (-1)
structure Sz(rows:List LI)(rule entry:LI):Prop where
 w: ∀r∈rows,r.length=256
 a:rows.length<4294967296
 b:rule.length<4294967296
 c:entry.length<4294967296
theorem right_spec(hN:4294967296≤N)(hs:Sz rows rule entry): ∃b,F_25 N rows rule entry=some b∧(b=true↔Rt rows rule entry):=by
 unfold F_25;generalize hz:List.replicate 256 (0:Int)=z;by_cases a1:(rows.length:Int)<1
 ·exact⟨false,by simp[a1],by simp;intro h;have:=h.n1;omega⟩
 by_cases a2:(rows.length:Int)>200
 ·exact⟨false,by simp[a1,a2],by simp;intro h;have:=h.n2;omega⟩
 by_cases a3:rule.length=rows.length
 case neg=>
  have e0:((rule.length:Int) != (rows.length:Int))=true:=by simp;omega
  exact⟨false,by simp[a1,a2,e0],by simp;intro h;exact a3 h.ru⟩
 by_cases a4:(entry.length:Int)<1
 ·exact⟨false,by simp[a1,a2,a3,a4],by simp;intro h;have:=h.e1;omega⟩
 by_cases a5:(entry.length:Int)>8
 ·exact⟨false,by simp[a1,a2,a3,a4,a5],by simp;intro h;have:=h.e2;omega⟩
 have e0:((rule.length:Int) != (rows.length:Int))=false:=by simp[a3]
 simp only[decide_eq_false a1,decide_eq_false a2,e0,decide_eq_false a4,decide_eq_false a5,bind,Option.bind_some,Bool.false_eq_true,if_false]
 rw[loop_any rows (fun r=>r.any fun x=>decide (x<0)||decide (x≥(rows.length:Int))) false (by have:=hs.a;omega) (fun i r hr=>by
  have hi:=lt_len hr;have hw:=hs.w r (List.mem_of_getElem? hr);unfold F_192;simp only[show((i:Int)<(rows.length:Int)) by omega,decide_true,if_true,idx_of hr,contains1 hN (show r.length<4294967296 by omega),bind,Option.bind_some];rw[w64_succ (by have:=hs.a;omega)]) (by unfold F_192;simp)]
 by_cases c1:(rows.any fun r=>r.any fun x=>decide (x<0)||decide (x≥(rows.length:Int)))=true
 ·refine⟨false,by simp[c1],?_⟩;simp;intro h;obtain⟨r,hr,hx⟩:=List.any_eq_true.1 c1;obtain⟨x,hx,hp⟩:=List.any_eq_true.1 hx;have:=h.row r hr x hx;simp at hp;omega
 rw[if_neg c1];simp only[contains2 hN hs.b,contains1 hN hs.c,Option.bind_some];by_cases c2:(rule.any fun x=>decide (x< -1)||decide (x≥48))=true
 ·refine⟨false,by simp[c2],?_⟩;simp;intro h;obtain⟨x,hx,hp⟩:=List.any_eq_true.1 c2;have:=h.rul x hx;simp at hp;omega
 by_cases c3:(entry.any fun x=>decide (x<0)||decide (x≥(rows.length:Int)))=true
 ·refine⟨false,by simp[c2,c3],?_⟩;simp;intro h;obtain⟨x,hx,hp⟩:=List.any_eq_true.1 c3;have:=h.ent x hx;simp at hp;omega
 have hr0:0<rows.length:=by omega
 have hu0:0<rule.length:=by omega
 simp only[if_neg c2,Option.bind_some,if_neg c3];have i0:idx rows 0=some rows[0]:=idx_nat (i:=0) hr0;have i1:idx rule 0=some rule[0]:=idx_nat (i:=0) hu0;rw[i0,i1]
 have c1': ∀r∈rows,∀x∈r,0≤x∧x<(rows.length:Int):=by
  intro r hr x hx;have h1:(rows.any fun r=>r.any fun x=>decide (x<0)||decide (x≥(rows.length:Int)))=false:=by simpa using c1
  have h2:=List.any_eq_false.1 h1 r hr;have h3:=List.any_eq_false.1 (by simpa using h2:(r.any fun x=>decide (x<0)||decide (x≥(rows.length:Int)))=false) x hx;simp at h3;omega
 have c2': ∀x∈rule,-1≤x∧x<48:=by
  intro x hx;have h3:=List.any_eq_false.1 (by simpa using c2:(rule.any fun x=>decide (x< -1)||decide (x≥48))=false) x hx;simp at h3;omega
 have c3': ∀x∈entry,0≤x∧x<(rows.length:Int):=by
  intro x hx;have h3:=List.any_eq_false.1 (by simpa using c3:(entry.any fun x=>decide (x<0)||decide (x≥(rows.length:Int)))=false) x hx;simp at h3;omega
 by_cases d1:rows[0]=z
 ·by_cases d2:rule[0]= -1
  ·refine⟨true,by simp[d1,d2],?_⟩;simp;exact⟨by omega,by omega,a3,by omega,by omega,c1',c2',c3',by rw[List.getElem?_eq_getElem hr0,d1,hz],by rw[List.getElem?_eq_getElem hu0,d2]⟩
  refine⟨false,by simp[d1,d2],?_⟩;simp;intro h;have:=h.u0;rw[List.getElem?_eq_getElem hu0]at this;exact d2 (Option.some.inj this)
 refine⟨false,by simp[d1],?_⟩;simp;intro h;have:=h.r0;rw[List.getElem?_eq_getElem hr0,hz]at this;exact d1 (Option.some.inj this)
open Go Go.Eng
theorem range_get{n i x:Nat}(h:(List.range n)[i]? =some x):i<n∧x=i:=by
 have hl:=lt_len h;simp at hl;rw[List.getElem?_range hl]at h;exact⟨hl,(Option.some.inj h).symm⟩
theorem of_spec{m:Int}(hN:4294967296≤N)(hs:Sz rows rule entry):
 F_51 N rows rule entry m=some (if(rows.length:Int)>m∨(rule.length:Int)>m∨(entry.length:Int)>20 then([],false)else(rows,true)):=by
 unfold F_51;by_cases a1:(rows.length:Int)>m
 ·simp[a1]
 by_cases a2:(rule.length:Int)>m
 ·simp[a1,a2]
 by_cases a3:(entry.length:Int)>20
 ·simp[a1,a2,a3]
 simp only[bind,if_false,a1,a2,a3,or_self]
 have:=loop_fold (f:=fun s=>F_113 N rows s.1 s.2) (fun i (s:List LI)=>((i:Int),s)) id rows (fun s x=>s++ [x]) (fun i s=>s.length=i) (N:=N) (s:=[]) (by have:=hs.a;omega) rfl
  (fun i x s hx hI=>⟨by
   have hi:=lt_len hx;have:=hs.a;unfold F_113;simp only[show((i:Int)<(rows.length:Int)) by omega,decide_true,if_true,idx_of hx,bind,Option.bind_some];rw[w64_succ Om,app_eq (by simp;omega)];rfl,by simp[hI]⟩) (fun s _=>by unfold F_113;simp)
 rw[show iterO N (fun s=>F_113 N rows s.1 s.2) (0,[])=_ from this]
 have hf: ∀(l acc:List LI),l.foldl (fun s x=>s++ [x]) acc=acc++l:=by
  intro l
  induction l with
  |nil=>simp
  |cons x l ih=>intro acc;rw[List.foldl_cons,ih];simp
 rw[hf];simp
theorem sameInts_spec{a b:LI}(hN:4294967296≤N)(ha:a.length<4294967296):F_52 N a b=some (decide (a=b)):=by
 unfold F_52;by_cases h:a.length=b.length
 case neg=>
  have:((a.length:Int) != (b.length:Int))=true:=by simp;omega
  have hne:a≠b:=fun e=>h (by rw[e]);simp[this,hne]
 have e0:((a.length:Int) != (b.length:Int))=false:=by simp[h]
 simp only[e0,Bool.false_eq_true,if_false]
 rw[loop_any (List.range a.length) (fun i=>a.getD i 0 != b.getD i 0) false (by simp;omega) (fun i x hx=>by
  obtain⟨hi,rfl⟩:=range_get hx;have hib:x<b.length:=by omega
  unfold F_173;have g1:a.getD x 0=a[x]:=by simp[List.getD,List.getElem?_eq_getElem hi]
  have g2:b.getD x 0=b[x]:=by simp[List.getD,List.getElem?_eq_getElem hib]
  rw[g1,g2];simp only[show((x:Int)<(a.length:Int)) by omega,decide_true,if_true,idx_nat hi,idx_nat hib,bind,Option.bind_some];rw[w64_succ Om]) (by simp[F_173])]
 by_cases c:((List.range a.length).any fun i=>a.getD i 0 != b.getD i 0)=true
 ·have:a≠b:=by
   obtain⟨i,_,hp⟩:=List.any_eq_true.1 c;intro e;simp[e]at hp
  rw[if_pos c];simp[this]
 have:a=b:=by
  apply List.ext_getElem h;intro i h1 h2;have h3:=List.any_eq_false.1 (by simpa using c:((List.range a.length).any fun i=>a.getD i 0 != b.getD i 0)=false) i (by simpa using h1);have g1:a.getD i 0=a[i]:=by simp[List.getD,List.getElem?_eq_getElem h1]
  have g2:b.getD i 0=b[i]:=by simp[List.getD,List.getElem?_eq_getElem h2]
  rw[g1,g2]at h3;simpa using h3
 rw[if_neg c];simp[this]
theorem same_spec{rows rows':List LI}{rule entry rule' entry':LI}(hN:4294967296≤N)(hs:Sz rows rule entry):
 F_55 N rows rule entry rows' rule' entry'=some (decide (rows=rows'∧rule=rule'∧entry=entry')):=by
 unfold F_55;by_cases h:rows.length=rows'.length
 case neg=>
  have:((rows.length:Int) != (rows'.length:Int))=true:=by simp;omega
  have hne:rows≠rows':=fun e=>h (by rw[e]);simp[this,hne]
 have e0:((rows.length:Int) != (rows'.length:Int))=false:=by simp[h]
 simp only[e0,Bool.false_eq_true,if_false,sameInts_spec hN hs.b,sameInts_spec hN hs.c,bind,Option.bind_some];by_cases h1:rule=rule'
 case neg=>simp[h1]
 by_cases h2:entry=entry'
 case neg=>simp[h1,h2]
 simp only[h1,h2,decide_true,Bool.not_true,Bool.false_eq_true,if_false,Option.bind_some,and_true];have ha:=hs.a
 rw[loop_any (List.range rows.length) (fun i=>rows.getD i [] != rows'.getD i []) false (by simp;omega) (fun i x hx=>by
  obtain⟨hi,rfl⟩:=range_get hx;have hib:x<rows'.length:=by omega
  unfold F_178;have g1:rows.getD x []=rows[x]:=by simp[List.getD,List.getElem?_eq_getElem hi]
  have g2:rows'.getD x []=rows'[x]:=by simp[List.getD,List.getElem?_eq_getElem hib]
  rw[g1,g2];simp only[show((x:Int)<(rows.length:Int)) by omega,decide_true,if_true,idx_nat hi,idx_nat hib,bind,Option.bind_some];rw[w64_succ Om]) (by simp[F_178])]
 by_cases c:((List.range rows.length).any fun i=>rows.getD i [] != rows'.getD i [])=true
 ·have:rows≠rows':=by
   obtain⟨i,_,hp⟩:=List.any_eq_true.1 c;intro e;simp[e]at hp
  rw[if_pos c];simp[this]
 have:rows=rows':=by
  apply List.ext_getElem h;intro i h1 h2;have h3:=List.any_eq_false.1 (by simpa using c:((List.range rows.length).any fun i=>rows.getD i [] != rows'.getD i [])=false) i (by simpa using h1);have g1:rows.getD i []=rows[i]:=by simp[List.getD,List.getElem?_eq_getElem h1]
  have g2:rows'.getD i []=rows'[i]:=by simp[List.getD,List.getElem?_eq_getElem h2]
  rw[g1,g2]at h3;simpa using h3
 rw[if_neg c];simp[this]
open Go Go.Eng
theorem iand_u64{a b:Nat}(ha:a<18446744073709551616)(hb:b<18446744073709551616):iand .u64 (a:Int) (b:Int)=((a&&&b:Nat):Int):=by
 have h:a&&&b<18446744073709551616:=Nat.and_lt_two_pow (n:=64) _ hb;show IntKind.wrap .u64 ((BitVec.ofInt 64 (a:Int)&&&BitVec.ofInt 64 (b:Int)).toNat:Int)=_;rw[BitVec.ofInt_natCast,BitVec.ofInt_natCast,BitVec.toNat_and,BitVec.toNat_ofNat,BitVec.toNat_ofNat,Nat.mod_eq_of_lt ha,Nat.mod_eq_of_lt hb,wrapU64]<;>omega
theorem ior_u64{a b:Nat}(ha:a<18446744073709551616)(hb:b<18446744073709551616):ior .u64 (a:Int) (b:Int)=((a|||b:Nat):Int):=by
 have h:a|||b<18446744073709551616:=Nat.or_lt_two_pow (n:=64) ha hb;show IntKind.wrap .u64 ((BitVec.ofInt 64 (a:Int)|||BitVec.ofInt 64 (b:Int)).toNat:Int)=_;rw[BitVec.ofInt_natCast,BitVec.ofInt_natCast,BitVec.toNat_or,BitVec.toNat_ofNat,BitVec.toNat_ofNat,Nat.mod_eq_of_lt ha,Nat.mod_eq_of_lt hb,wrapU64]<;>omega
theorem shl_one{k:Nat}(h:k<64):shlI .u64 1 (k:Int)=((2^k:Nat):Int):=by
 have h1:(2:Nat)^k≤2^63:=Nat.pow_le_pow_right Om Om;have h2:(2:Nat)^63=9223372036854775808:=by decide
 simp only[shlI,IntKind.bits,Int.toNat_natCast,Nat.min_eq_left (show k≤64 by omega),Int.one_mul];have e:((2:Int)^k)=((2^k:Nat):Int):=by simp
 rw[e];generalize 2^k=p at*;rw[wrapU64]<;>omega
def has(m:LI)(i:Nat):Bool:=(m.getD (i/64) 0).toNat.testBit (i %64)
structure MkR(n:Nat)(m:LI):Prop where
 len:m.length=(n+63)/64
 rng: ∀w∈m,0≤w∧w<18446744073709551616
theorem new_spec{N n:Nat}(h:n≤65536): ∃m,F_148 N (n:Int)=some (.inr m)∧MkR n m∧ ∀j,has m j=false:=by
 refine⟨List.replicate ((n+63)/64) 0,?_,⟨by simp,fun w hw=>by rw[List.eq_of_mem_replicate hw];omega⟩,fun j=>?_⟩
 ·unfold F_148;have a1: ¬((n:Int)<0):=by omega
  have a2: ¬((n:Int)>65536):=by omega
  have e1:w64 ((n:Int)+64)=((n+64:Nat):Int):=by rw[w64,wrap64]<;>omega
  have e2:w64 (((n+64:Nat):Int)-1)=((n+63:Nat):Int):=by rw[w64,wrap64]<;>omega
  have e3:w64 (((n+63:Nat):Int).tdiv 64)=(((n+63)/64:Nat):Int):=by
   have:((n+63:Nat):Int).tdiv 64=(((n+63)/64:Nat):Int):=by rw[Int.tdiv_eq_ediv_of_nonneg Om];omega
   rw[this,w64,wrap64]<;>omega
  simp only[decide_eq_false a1,decide_eq_false a2,bind,Option.bind_some,Bool.false_eq_true,if_false,e1,e2,e3];rw[mk_eq Om];rfl
 simp[has,List.getD,List.getElem?_replicate];split<;>simp
theorem at_spec{N n i:Nat}{m:LI}(hi:i<9223372036854775808):F_63 N m (n:Int) (i:Int)=some (((i/64:Nat):Int),((2^(i %64):Nat):Int),decide (i<n)):=by
 unfold F_63;have e0:IntKind.wrap .u64 (i:Int)=i:=by rw[wrapU64]<;>omega
 have e1:(i:Int).tmod 64=((i %64:Nat):Int):=by rw[Int.tmod_eq_emod_of_nonneg Om];omega
 have e2:w64 ((i:Int).tdiv 64)=((i/64:Nat):Int):=by
  have:(i:Int).tdiv 64=((i/64:Nat):Int):=by rw[Int.tdiv_eq_ediv_of_nonneg Om];omega
  rw[this,w64,wrap64]<;>omega
 have e3:nn ((i %64:Nat):Int)=some ():=by simp[nn];omega
 have e4:(i:Int)≥0:=by omega
 rw[e0,e1,e2,shl_one Om,e3];simp[e4,F_43]
theorem put_spec{N n i:Nat}{m:LI}(hm:MkR n m)(hi:i<n)(hn:n≤65536):
 ∃m',F_33 N m (n:Int) (i:Int)=some (m', !has m i)∧MkR n m'∧(∀j,has m' j=(has m j||j==i))∧m'=if has m i then m else m.set (i/64) (((m.getD (i/64) 0).toNat|||2^(i %64):Nat):Int):=by
 have hl:i/64<m.length:=by rw[hm.len];omega
 have hw:=hm.rng _ (List.getElem_mem hl)
 have hp:(2:Nat)^(i %64)<18446744073709551616:=by
  have h1:(2:Nat)^(i %64)≤2^63:=Nat.pow_le_pow_right Om Om;have h2:(2:Nat)^63=9223372036854775808:=by decide
  omega
 obtain⟨a,ha⟩: ∃a:Nat,m[i/64]=(a:Int):=⟨m[i/64].toNat,by omega⟩;have hx:m[i/64]? =some (a:Int):=by rw[List.getElem?_eq_getElem hl,ha]
 have ha':a<18446744073709551616:=by omega
 have hh:has m i=a.testBit (i %64):=by simp[has,List.getD,hx]
 unfold F_33;rw[at_spec Om];simp only[bind,Option.bind_some,decide_eq_true hi,Bool.not_true,Bool.false_eq_true,if_false,idx_of hx,iand_u64 ha' hp,ior_u64 ha' hp]
 have hand:(a&&&2^(i %64)=0)↔a.testBit (i %64)=false:=by
  constructor
  ·intro h;have:=congrArg (·.testBit (i %64)) h;simpa[Nat.testBit_and,Nat.testBit_two_pow_self]using this
  intro h;apply Nat.eq_of_testBit_eq;intro j;rw[Nat.testBit_and,Nat.testBit_two_pow];by_cases hj:i %64=j
  ·subst hj;simp[h]
  simp[hj]
 by_cases hb:a.testBit (i %64)=true
 ·have h1: ¬(a&&&2^(i %64)=0):=fun h=>by rw[hand.1 h]at hb;cases hb
  have h2:(((a&&&2^(i %64):Nat):Int) != 0)=true:=by simp;omega
  refine⟨m,by rw[h2,hh,hb];rfl,hm,fun j=>?_,by rw[hh,hb];rfl⟩;by_cases hj:j=i
  ·subst hj;simp[hh,hb]
  simp[hj]
 have hb:a.testBit (i %64)=false:=by simpa using hb
 have h2:(((a&&&2^(i %64):Nat):Int) != 0)=false:=by rw[hand.2 hb];rfl
 refine⟨m.set (i/64) ((a|||2^(i %64):Nat):Int),by rw[h2,hh,hb];simp only[Bool.false_eq_true,if_false];rw[setI_nat hl];rfl,⟨by simp[hm.len],fun w hw'=>?_⟩,fun j=>?_,?_⟩
 rotate_right
 ·rw[hh,hb,List.getD,hx];rfl
 ·rcases List.mem_or_eq_of_mem_set hw' with h|rfl
  ·exact hm.rng w h
  have:=Nat.or_lt_two_pow (n:=64) ha' hp;omega
 by_cases hq:j/64=i/64
 ·have e1:has m j=a.testBit (j %64):=by simp[has,hq,List.getD,hx]
  have e2:has (m.set (i/64) ((a|||2^(i %64):Nat):Int)) j=(a|||2^(i %64)).testBit (j %64):=by
   simp[has,hq,List.getD,List.getElem?_set_self hl]
  rw[e1,e2,Nat.testBit_or,Nat.testBit_two_pow]
  congr 1
  by_cases hj:j=i
  ·simp[hj]
  have: ¬(i %64=j %64):=by omega
  simp[hj,this]
 have hj: ¬j=i:=fun h=>hq (by rw[h]);have hq': ¬(i/64=j/64):=fun h=>hq h.symm;simp[has,List.getD,hq',hj]
open Go Go.Eng
def ins(acc:LI)(x:Int):LI:=if x∈acc then acc else acc++ [x]
def insAll(acc xs:LI):LI:=xs.foldl ins acc
def bfs(rows:List LI):Nat→Nat→LI→LI
 |0,_,acc=>acc
 |k+1,i,acc=>if h:i<acc.length then bfs rows k (i+1) (insAll acc (rows.getD acc[i].toNat []))else acc
theorem bfs_done{k i:Nat}{acc:LI}(h: ¬i<acc.length):bfs rows k i acc=acc:=by
 cases k with
 |zero=>rfl
 |succ k=>simp[bfs,h]
structure Acc(n:Nat)(acc:LI):Prop where
 nd:acc.Nodup
 rng: ∀x∈acc,0≤x∧x<n
theorem nodup_len: ∀{l m:LI},l.Nodup→(∀x∈l,x∈m)→l.length≤m.length
 | [],_,_,_=>by simp
 |x::l,m,hn,hs=>by
   obtain⟨h1,h2⟩:=List.nodup_cons.1 hn;have hx:=hs x Sm;have:=nodup_len (l:=l) (m:=m.erase x) h2 (fun y hy=>(List.mem_erase_of_ne (show y≠x from fun e=>h1 (e▸hy))).2 (hs y (by simp[hy])));rw[List.length_erase_of_mem hx]at this;have:0<m.length:=List.length_pos_of_mem hx;simp;omega
theorem Acc.len{n:Nat}{acc:LI}(h:Acc n acc):acc.length≤n:=by
 have:=nodup_len (m:=(List.range n).map fun(i:Nat)=>(i:Int)) h.nd (fun x hx=>by
  have:=h.rng x hx;exact List.mem_map.2 ⟨x.toNat,by simp;omega,by omega⟩)
 simpa using this
theorem Acc.ins{n:Nat}{acc:LI}{x:Int}(h:Acc n acc)(h0:0≤x∧x<n):Acc n (ins acc x):=by
 unfold Go.Proofs.YtchjfkdljnmmgaaGreatDoor.ins;split
 ·exact h
 rename_i hx;refine⟨List.nodup_append.2 ⟨h.nd,by simp,fun a ha b hb=>?_⟩,fun y hy=>?_⟩
 ·simp at hb;subst hb;exact fun e=>hx (e▸ha)
 rcases List.mem_append.1 hy with hy|hy
 ·exact h.rng y hy
 simp at hy;subst hy;exact h0
theorem Acc.insAll{n:Nat}: ∀{xs acc:LI},Acc n acc→(∀x∈xs,0≤x∧x<n)→Acc n (insAll acc xs)
 | [],_,h,_=>h
 |x::xs,acc,h,hx=>Acc.insAll (xs:=xs) (h.ins (hx x Sm)) (fun y hy=>hx y (by simp[hy]))
theorem ins_prefix(acc:LI)(x:Int):acc <+: ins acc x:=by
 unfold ins;split
 ·exact List.prefix_refl _
 exact List.prefix_append _ _
theorem insAll_prefix: ∀(xs acc:LI),acc <+: insAll acc xs
 | [],_=>List.prefix_refl _
 |x::xs,acc=>(ins_prefix acc x).trans (insAll_prefix xs _)
theorem insAll_take{acc xs:LI}{i:Nat}{x:Int}(h:xs[i]? =some x):insAll acc (xs.take (i+1))=ins (insAll acc (xs.take i)) x:=by
 unfold insAll;rw[List.take_add_one,h,List.foldl_append];rfl
structure Rel(n:Nat)(m acc:LI):Prop where
 mkr:MkR n m
 at_: ∀j,j<n→(has m j=true↔(j:Int)∈acc)
theorem put_rel{N n:Nat}{m acc:LI}{x:Int}(h:Rel n m acc)(h0:0≤x∧x<n)(hn:n≤65536): ∃m',F_33 N m (n:Int) x=some (m',decide (x∉acc))∧Rel n m' (ins acc x):=by
 obtain⟨i,rfl⟩: ∃i:Nat,x=(i:Int):=⟨x.toNat,by omega⟩;have hi:i<n:=by omega
 obtain⟨m',h1,h2,h3,_⟩:=put_spec (N:=N) h.mkr hi hn;refine⟨m',?_,h2,fun j hj=>?_⟩
 ·rw[h1];have:=h.at_ i hi;by_cases hm:(i:Int)∈acc
  ·simp[hm,this.2 hm]
  have:has m i=false:=by
   cases hh:has m i with
   |false=>rfl
   |true=>exact absurd (this.1 hh) hm
  simp[hm,this]
 rw[h3 j];unfold ins;have:=h.at_ j hj;by_cases hm:(i:Int)∈acc
 ·rw[if_pos hm,←this];constructor
  ·intro h4;rcases Bool.or_eq_true_iff.1 h4 with h4|h4
   ·exact h4
   simp at h4;subst h4;exact(h.at_ _ hi).2 hm
  intro h4;simp[h4]
 have hji:(j:Int)=i↔j=i:=by omega
 rw[if_neg hm,List.mem_append,←this,List.mem_singleton,hji,Bool.or_eq_true,beq_iff_eq]
theorem order1_spec{N n:Nat}{xs m acc:LI}(hN:4294967296≤N)(hl:xs.length<4294967296)(hn:n≤65536)(hx: ∀x∈xs,0≤x∧x<n)(hA:Acc n acc)(hR:Rel n m acc):
 ∃m',F_46 N xs m (n:Int) acc=some (m',insAll acc xs)∧Rel n m' (insAll acc xs):=by
 unfold F_46
 obtain⟨s',h1,h2⟩:=loop_inv (f:=fun s=>F_110 N xs (n:Int) s.1 s.2.1 s.2.2) (fun i (s:LI×LI)=>(s.1,s.2,(i:Int))) id xs (fun i s=>s.2=insAll acc (xs.take i)∧Acc n s.2∧Rel n s.1 s.2) (N:=N) (s:=(m,acc)) Om ⟨by simp[insAll],hA,hR⟩
  (fun i x s hxi hI=>by
   obtain⟨h1,h2,h3⟩:=hI;have hi:=lt_len hxi;have hxr:=hx x (List.mem_of_getElem? hxi);obtain⟨m',h4,h5⟩:=put_rel (N:=N) h3 hxr hn;refine⟨(m',ins s.2 x),?_,by rw[insAll_take hxi,h1],h2.ins hxr,h5⟩;unfold F_110;simp only[show((i:Int)<(xs.length:Int)) by omega,decide_true,if_true,idx_of hxi,h4,bind,Option.bind_some];rw[w64_succ Om];have hlen:=h2.len;by_cases hm:x∈s.2
   ·simp[hm,ins]
   simp[hm,ins];rw[app_eq (by simp;omega)];rfl)
  (fun s _=>by unfold F_110;simp)
 refine⟨s'.1,?_,?_⟩
 ·rw[show iterO N (fun s=>F_110 N xs (n:Int) s.1 s.2.1 s.2.2) (m,acc,0)=_ from h1];have:=h2.1;rw[List.take_length]at this;rw[←this];rfl
 have:=h2.1;rw[List.take_length]at this;rw[←this];exact h2.2.2
open Go Go.Eng
def ord(rows:List LI)(entry:LI):LI:=bfs rows (rows.length+1-1) 1 (insAll [0] entry)
theorem acc0(h:Rt rows rule entry):Acc rows.length (insAll [0] entry):=
 Acc.insAll (n:=rows.length) (acc:=[0]) ⟨by simp,fun x hx=>by simp at hx;subst hx;have:=h.n1;omega⟩ h.ent
theorem row_of(h:Rt rows rule entry){x:Int}(hx:0≤x∧x<rows.length): ∃r,idx rows x=some r∧rows.getD x.toNat []=r∧r∈rows∧ ∀y∈r,0≤y∧y<rows.length:=by
 have hl:x.toNat<rows.length:=by omega
 refine⟨rows[x.toNat],idx_int hx.1 hl,by simp[List.getD,List.getElem?_eq_getElem hl],List.getElem_mem hl,h.row _ (List.getElem_mem hl)⟩
theorem order_spec(hN:4294967296≤N)(hs:Sz rows rule entry)(h:Rt rows rule entry):F_22 N rows rule entry=some (ord rows entry):=by
 unfold F_22;have hn2:=h.n2;obtain⟨m0,e0,hm0,hz0⟩:=new_spec (N:=N) (n:=rows.length) Om;have hR0:Rel rows.length m0 []:=⟨hm0,fun j _=>by simp[hz0]⟩;obtain⟨m1,e1,hR1⟩:=put_rel (N:=N) (x:=0) hR0 ⟨by omega,by have:=h.n1;omega⟩ Om;have hA1:Acc rows.length [0]:=⟨by simp,fun x hx=>by simp at hx;subst hx;have:=h.n1;omega⟩;obtain⟨m2,e2,hR2⟩:=order1_spec hN hs.c (show rows.length≤65536 by omega) h.ent hA1 hR1;simp only[e0,bind,Option.bind_some,e1,e2]
 obtain⟨r,h1,h2⟩:=iterO_while (f:=fun s=>F_111 N rows s.1 s.2.1 s.2.2) (fun s=> ∃i:Nat,s.2.2=(i:Int)∧i≤rows.length∧Acc rows.length s.1∧Rel rows.length s.2.1 s.1∧bfs rows (rows.length+1-i) i s.1=ord rows entry)
  (fun s=>rows.length-s.2.2.toNat) (fun r=>r=ord rows entry) (fun s hI=>by
   obtain⟨acc,m,iv⟩:=s;obtain⟨i,rfl,hi,hA,hR,hb⟩:=hI;simp only at hA hR hb ⊢;have hlen:=hA.len;by_cases hlt:i<acc.length
   ·left;have hx:=hA.rng _ (List.getElem_mem hlt);obtain⟨row,r1,r2,r3,r4⟩:=row_of h hx;have hw:=hs.w row r3;obtain⟨m',e3,hR3⟩:=order1_spec hN (show row.length<4294967296 by omega) (show rows.length≤65536 by omega) r4 hA hR;refine⟨(insAll acc row,m',((i+1:Nat):Int)),?_,⟨i+1,rfl,by omega,hA.insAll r4,hR3,?_⟩,by simp;omega⟩
    ·unfold F_111;simp only[show((i:Int)<(acc.length:Int)) by omega,decide_true,if_true,idx_nat hlt,r1,e3,bind,Option.bind_some];rw[w64_succ Om]
    rw[show rows.length+1-i=(rows.length+1-(i+1))+1 by omega]at hb;simp only[bfs,dif_pos hlt,r2]at hb;exact hb
   right;refine⟨acc,?_,by rw[←hb,bfs_done hlt]⟩;unfold F_111;simp[show¬((i:Int)<(acc.length:Int)) by omega])
  (N:=N) (s:=(insAll [0] entry,m2,1)) ⟨1,rfl,by have:=h.n1;omega,acc0 h,hR2,rfl⟩ (by simp;omega)
 rw[show iterO N (fun s=>F_111 N rows s.1 s.2.1 s.2.2) (insAll [0] entry,m2,1)=_ from h1,h2];rfl
theorem in_spec{xs:LI}{x:Int}(hN:4294967296≤N)(hl:xs.length<4294967296):F_54 N xs x=some (decide (x∈xs)):=by
 unfold F_54
 rw[loop_any xs (fun y=>y==x) true Om (fun i y hy=>by
  have hi:=lt_len hy;unfold F_172;simp only[show((i:Int)<(xs.length:Int)) by omega,decide_true,if_true,idx_of hy,bind,Option.bind_some];rw[w64_succ Om]) (by unfold F_172;simp)]
 by_cases h:x∈xs
 ·have:(xs.any fun y=>y==x)=true:=List.any_eq_true.2 ⟨x,h,by simp⟩;simp[this,h]
 have:(xs.any fun y=>y==x)=false:=List.any_eq_false.2 fun y hy=>by
  have:y≠x:=fun e=>h (e▸hy);simp[this]
 simp[this,h]
theorem refOrder_spec(hN:4294967296≤N)(hs:Sz rows rule entry)(h:Rt rows rule entry):F_20 N rows rule entry=some (ord rows entry):=by
 unfold F_20;have hn2:=h.n2;have hA1:Acc rows.length [0]:=⟨by simp,fun x hx=>by simp at hx;subst hx;have:=h.n1;omega⟩
 obtain⟨a1,e1,q1,q2⟩:=loop_inv (f:=fun s=>F_134 N entry s.1 s.2) (fun i (s:LI)=>((i:Int),s)) id entry (fun i s=>s=insAll [0] (entry.take i)∧Acc rows.length s) (N:=N) (s:=[0]) (by have:=hs.c;omega) ⟨by simp[insAll],hA1⟩
  (fun i x s hx hI=>by
   obtain⟨h1,h2⟩:=hI;have hi:=lt_len hx;have hc:=hs.c;have hxr:=h.ent x (List.mem_of_getElem? hx);have hlen:=h2.len;refine⟨ins s x,?_,by rw[insAll_take hx,h1],h2.ins hxr⟩;unfold F_134;simp only[show((i:Int)<(entry.length:Int)) by omega,decide_true,if_true,idx_of hx,in_spec hN (show s.length<4294967296 by omega),bind,Option.bind_some];rw[w64_succ Om];by_cases hm:x∈s
   ·simp[hm,ins]
   simp[hm,ins];rw[app_eq (by simp;omega)];rfl)
  (fun s _=>by unfold F_134;simp)
 rw[List.take_length]at q1;subst q1
 obtain⟨r,h1,h2⟩:=iterO_while (f:=fun s=>F_166 N rows s.1 s.2) (fun s=> ∃i:Nat,s.2=(i:Int)∧i≤rows.length∧Acc rows.length s.1∧bfs rows (rows.length+1-i) i s.1=ord rows entry)
  (fun s=>rows.length-s.2.toNat) (fun r=>r=ord rows entry) (fun s hI=>by
   obtain⟨acc,iv⟩:=s;obtain⟨i,rfl,hi,hA,hb⟩:=hI;simp only at hA hb ⊢;have hlen:=hA.len;by_cases hlt:i<acc.length
   ·left;have hx:=hA.rng _ (List.getElem_mem hlt);obtain⟨row,r1,r2,r3,r4⟩:=row_of h hx;have hw:=hs.w row r3
    obtain⟨a2,e2,q3,q4,q5⟩:=loop_inv (f:=fun s=>F_135 N rows (i:Int) s.1 s.2) (fun j (s:LI)=>(s,(j:Int))) id row (fun j s=>s=insAll acc (row.take j)∧Acc rows.length s∧acc <+: s) (N:=N) (s:=acc) Om ⟨by simp[insAll],hA,List.prefix_refl _⟩
     (fun j x s hx2 hI=>by
      obtain⟨k1,k2,k3⟩:=hI;have hj:=lt_len hx2;have hxr:=r4 x (List.mem_of_getElem? hx2);have hlen2:=k2.len;refine⟨ins s x,?_,by rw[insAll_take hx2,k1],k2.ins hxr,k3.trans (ins_prefix _ _)⟩
      have hi2:s[i]? =some acc[i]:=by
       obtain⟨t,rfl⟩:=k3;rw[List.getElem?_append_left hlt,List.getElem?_eq_getElem hlt]
      unfold F_135;simp only[show((j:Int)<256) by omega,decide_true,if_true,idx_of hi2,r1,idx_of hx2,in_spec hN (show s.length<4294967296 by omega),bind,Option.bind_some];rw[w64_succ Om];by_cases hm:x∈s
      ·simp[hm,ins]
      simp[hm,ins];rw[app_eq (by simp;omega)];rfl)
     (fun s _=>by unfold F_135;simp[hw])
    rw[List.take_length]at q3;subst q3;refine⟨(insAll acc row,((i+1:Nat):Int)),?_,⟨i+1,rfl,by omega,hA.insAll r4,?_⟩,by simp;omega⟩
    ·unfold F_166;simp only[show((i:Int)<(acc.length:Int)) by omega,decide_true,if_true,bind];rw[show iterO N (fun s=>F_135 N rows (i:Int) s.1 s.2) (acc,0)=_ from e2];simp only[Option.bind_some,id];rw[w64_succ Om]
    rw[show rows.length+1-i=(rows.length+1-(i+1))+1 by omega]at hb;simp only[bfs,dif_pos hlt,r2]at hb;exact hb
   right;refine⟨acc,?_,by rw[←hb,bfs_done hlt]⟩;unfold F_166;simp[show¬((i:Int)<(acc.length:Int)) by omega])
  (N:=N) (s:=(insAll [0] entry,1)) ⟨1,rfl,by have:=h.n1;omega,q2,rfl⟩ (by simp;omega)
 rw[show iterO N (fun s=>F_134 N entry s.1 s.2) (0,[0])=_ from e1];simp only[bind,Option.bind_some,id];rw[h1,h2];rfl
open Go Go.Eng
theorem mem_ins{acc:LI}{x y:Int}:y∈ins acc x↔y∈acc∨y=x:=by
 unfold ins;split
 ·rename_i h;constructor
  ·exact .inl
  rintro(h'|rfl)
  ·exact h'
  exact h
 simp
theorem mem_insAll: ∀{xs acc:LI} {y:Int},y∈insAll acc xs↔y∈acc∨y∈xs
 | [],acc,y=>by simp[insAll]
 |x::xs,acc,y=>by
   have:=mem_insAll (xs:=xs) (acc:=ins acc x) (y:=y);rw[mem_ins]at this;show y∈insAll (ins acc x) xs↔_;rw[this,List.mem_cons,or_assoc]
theorem bfs_props{n:Nat}(hrow: ∀r∈rows,∀x∈r,0≤x∧x<n): ∀(k i:Nat) (acc:LI),Acc n acc→n+1-i≤k+1→1≤i→(∀p,(h:p<acc.length)→1≤p→p<i→ ∀y∈rows.getD acc[p].toNat [],y∈acc)→
 Acc n (bfs rows k i acc)∧acc <+: bfs rows k i acc∧ ∀p,(h:p<(bfs rows k i acc).length)→1≤p→ ∀y∈rows.getD (bfs rows k i acc)[p].toNat [],y∈bfs rows k i acc
 |0,i,acc,hA,hk,hi,hc=>by
   simp only[bfs];have:=hA.len;exact⟨hA,List.prefix_refl _,fun p h h1=>hc p h h1 Om⟩
 |k+1,i,acc,hA,hk,hi,hc=>by
   by_cases hlt:i<acc.length
   ·simp only[bfs,dif_pos hlt]
    have hr: ∀y∈rows.getD acc[i].toNat [],0≤y∧y<(n:Int):=by
     intro y hy;simp only[List.getD]at hy
     cases hg:rows[acc[i].toNat]? with
     |none=>rw[hg]at hy;simp at hy
     |some r=>rw[hg]at hy;exact hrow r (List.mem_of_getElem? hg) y hy
    obtain⟨t,ht⟩:=insAll_prefix (rows.getD acc[i].toNat []) acc
    have hget: ∀p,(h:p<acc.length)→ ∀h':p<(insAll acc (rows.getD acc[i].toNat [])).length,(insAll acc (rows.getD acc[i].toNat []))[p]=acc[p]:=by
     intro p h h';have:(insAll acc (rows.getD acc[i].toNat []))[p]? =acc[p]? :=by rw[←ht,List.getElem?_append_left h]
     rw[List.getElem?_eq_getElem h',List.getElem?_eq_getElem h]at this;exact Option.some.inj this
    have ih:=bfs_props hrow k (i+1) (insAll acc (rows.getD acc[i].toNat [])) (hA.insAll hr) Om Om (fun p h h1 h2 y hy=>by
     have hp:p<acc.length:=by omega
     rw[hget p hp h]at hy;rw[mem_insAll];by_cases hpi:p=i
     ·subst hpi;exact .inr hy
     exact .inl (hc p hp h1 Om y hy))
    exact⟨ih.1,(insAll_prefix _ _).trans ih.2.1,ih.2.2⟩
   rw[bfs_done hlt];exact⟨hA,List.prefix_refl _,fun p h h1=>hc p h h1 Om⟩
theorem ord_props(h:Rt rows rule entry):
 Acc rows.length (ord rows entry)∧insAll [0] entry <+: ord rows entry∧ ∀s∈ord rows entry,∀y∈rows.getD s.toNat [],y∈ord rows entry:=by
 obtain⟨h1,h2,h3⟩:=bfs_props (rows:=rows) (n:=rows.length) h.row (rows.length+1-1) 1 _ (acc0 h) Om Om (fun p _ h1 h2=>by omega);refine⟨h1,h2,fun s hs y hy=>?_⟩;obtain⟨p,hp,rfl⟩:=List.mem_iff_getElem.1 hs;by_cases h0:1≤p
 ·exact h3 p hp h0 y hy
 obtain rfl:p=0:=by omega
 have hz:(0:Int)∈ord rows entry:=h2.subset (mem_insAll.2 (.inl Sm))
 have h00:(ord rows entry)[0]=0:=by
  obtain⟨t,ht⟩:=(insAll_prefix entry [0]).trans h2
  have:(ord rows entry)[0]? =some 0:=by
   show(bfs rows (rows.length+1-1) 1 (insAll [0] entry))[0]? =some 0;rw[←ht];rfl
  rw[List.getElem?_eq_getElem hp]at this;exact Option.some.inj this
 have h00':(bfs rows (rows.length+1-1) 1 (insAll [0] entry))[0]=0:=h00
 have e:rows.getD (0:Int).toNat []=List.replicate 256 0:=by
  show rows.getD 0 []=_;rw[List.getD,h.r0];rfl
 have hy':y∈rows.getD (0:Int).toNat []:=by
  have:=hy;rw[h00]at this;exact this
 rw[e]at hy';rw[List.eq_of_mem_replicate hy'];exact hz
def pl(o:LI)(x:Int):Int:=if x∈o then(o.idxOf x:Int)else 0
def reRows(o:LI)(rows:List LI):List LI:=o.map fun s=>(rows.getD s.toNat []).map (pl o)
def reRule(o rule:LI):LI:=o.map fun s=>rule.getD s.toNat 0
def reEntry(o entry:LI):LI:=entry.map (pl o)
theorem pl_get{o:LI}(hn:o.Nodup){i:Nat}(hi:i<o.length):pl o o[i]=i:=by
 unfold pl;rw[if_pos (List.getElem_mem hi)];rw[List.Nodup.idxOf_getElem hn]
theorem map_pl{o:LI}(hn:o.Nodup):o.map (pl o)=(List.range o.length).map fun(i:Nat)=>(i:Int):=by
 apply List.ext_getElem Sm;intro i h1 h2;simp only[List.getElem_map,List.getElem_range];exact pl_get hn (by simpa using h1)
theorem pl_inj{o:LI}{x y:Int}(hx:x∈o)(hy:y∈o)(h:pl o x=pl o y):x=y:=by
 unfold pl at h;rw[if_pos hx,if_pos hy]at h;have h':o.idxOf x=o.idxOf y:=by omega
 have e1:=List.getElem_idxOf (List.idxOf_lt_length_of_mem hx);have e2:=List.getElem_idxOf (List.idxOf_lt_length_of_mem hy);rw[←e1,←e2]
 congr 1
theorem insAll_map{o:LI}: ∀{xs acc:LI},(∀x∈acc,x∈o)→(∀x∈xs,x∈o)→insAll (acc.map (pl o)) (xs.map (pl o))=(insAll acc xs).map (pl o)
 | [],_,_,_=>rfl
 |x::xs,acc,h1,h2=>by
   have hx:=h2 x Sm
   have e:ins (acc.map (pl o)) (pl o x)=(ins acc x).map (pl o):=by
    unfold ins;by_cases hm:x∈acc
    ·rw[if_pos hm,if_pos (List.mem_map_of_mem hm)]
    rw[if_neg hm,if_neg]
    ·simp
    intro hc;obtain⟨y,hy,he⟩:=List.mem_map.1 hc;exact hm (pl_inj (h1 y hy) hx he▸hy)
   show insAll (ins (acc.map (pl o)) (pl o x)) (xs.map (pl o))=(insAll (ins acc x) xs).map (pl o);rw[e];exact insAll_map (fun y hy=>(mem_ins.1 hy).elim (fun hy=>h1 y hy) (fun e=>e▸hx)) (fun y hy=>h2 y (by simp[hy]))
theorem reRows_get{o:LI}{s:Int}(hs:s∈o):(reRows o rows).getD (pl o s).toNat []=(rows.getD s.toNat []).map (pl o):=by
 have hlt:=List.idxOf_lt_length_of_mem hs;unfold reRows;have:(pl o s).toNat=o.idxOf s:=by unfold pl;rw[if_pos hs];simp
 rw[this,List.getD,List.getElem?_map,List.getElem?_eq_getElem hlt,List.getElem_idxOf hlt];rfl
theorem bfs_map{o:LI}(hc: ∀s∈o,∀y∈rows.getD s.toNat [],y∈o): ∀(k i:Nat) (acc:LI),(∀x∈acc,x∈o)→bfs (reRows o rows) k i (acc.map (pl o))=(bfs rows k i acc).map (pl o)
 |0,_,_,_=>rfl
 |k+1,i,acc,h=>by
   by_cases hlt:i<acc.length
   ·have hlt':i<(acc.map (pl o)).length:=by simpa using hlt
    have hs:=h _ (List.getElem_mem hlt);simp only[bfs,dif_pos hlt,dif_pos hlt',List.getElem_map];rw[reRows_get hs,insAll_map h (hc _ hs)];exact bfs_map hc k (i+1) _ (fun y hy=>(mem_insAll.1 hy).elim (fun hy=>h y hy) (fun hy=>hc _ hs y hy))
   rw[bfs_done hlt,bfs_done (by simpa using hlt)]
theorem bfs_prefix: ∀(k i:Nat) (acc:LI),acc <+: bfs rows k i acc
 |0,_,_=>List.prefix_refl _
 |k+1,i,acc=>by
   unfold bfs;split
   ·exact(insAll_prefix _ _).trans (bfs_prefix k _ _)
   exact List.prefix_refl _
theorem bfs_fuel: ∀(k k' i:Nat) (acc:LI),k≤k'→(bfs rows k' i acc).length≤i+k→bfs rows k i acc=bfs rows k' i acc
 |0,k',i,acc,_,hl=>by
   have:=(bfs_prefix (rows:=rows) k' i acc).length_le;have hlt: ¬i<acc.length:=by omega
   rw[bfs_done hlt,bfs_done hlt]
 |k+1,0,i,acc,hk,_=>absurd hk Om
 |k+1,k'+1,i,acc,hk,hl=>by
   by_cases hlt:i<acc.length
   ·simp only[bfs,dif_pos hlt]at hl ⊢;exact bfs_fuel k k' (i+1) _ Om Om
   rw[bfs_done hlt,bfs_done hlt]
theorem ord_re(h:Rt rows rule entry):
 ord (reRows (ord rows entry) rows) (reEntry (ord rows entry) entry)=(List.range (ord rows entry).length).map fun(i:Nat)=>(i:Int):=by
 obtain⟨hA,hp,hc⟩:=ord_props h;have hz:(0:Int)∈ord rows entry:=hp.subset (mem_insAll.2 (.inl Sm))
 have h00:pl (ord rows entry) 0=0:=by
  obtain⟨t,ht⟩:=(insAll_prefix entry [0]).trans hp;unfold pl;rw[if_pos hz,←ht];simp
 have he: ∀x∈entry,x∈ord rows entry:=fun x hx=>hp.subset (mem_insAll.2 (.inr hx));have hlen:(reRows (ord rows entry) rows).length=(ord rows entry).length:=by simp[reRows]
 have hle:=hA.len
 have e1:insAll [0] (reEntry (ord rows entry) entry)=(insAll [0] entry).map (pl (ord rows entry)):=by
  rw[←insAll_map (by simpa using hz) he];simp[reEntry,h00]
 have e2:bfs (reRows (ord rows entry) rows) (rows.length+1-1) 1 (insAll [0] (reEntry (ord rows entry) entry))=(ord rows entry).map (pl (ord rows entry)):=by
  rw[e1,bfs_map hc _ _ _ (fun x hx=>hp.subset hx)];rfl
 rw[←map_pl hA.nd,←e2];unfold ord;refine bfs_fuel _ _ _ _ ?_ ?_
 ·show(reRows (ord rows entry) rows).length+1-1≤_;rw[hlen];omega
 show(bfs (reRows (ord rows entry) rows) (rows.length+1-1) 1 (insAll [0] (reEntry (ord rows entry) entry))).length≤1+((reRows (ord rows entry) rows).length+1-1);rw[e2,hlen];simp
open Go Go.Eng
theorem place_spec{o:LI}{x:Int}(hN:4294967296≤N)(hl:o.length<4294967296):F_57 N o x=some (pl o x):=by
 unfold F_57
 rw[loop_find o (fun y=>y==x) (fun i=>(i:Int)) Om (fun i y hy=>by
  have hi:=lt_len hy;unfold F_180;simp only[show((i:Int)<(o.length:Int)) by omega,decide_true,if_true,idx_of hy,bind,Option.bind_some];rw[w64_succ Om]) (by unfold F_180;simp)]
 unfold pl
 cases h:o.findIdx? (fun y=>y==x)with
 |none=>
   have:x∉o:=fun hx=>by
    have:=List.findIdx?_eq_none_iff.1 h x hx;simp at this
   simp[this]
 |some k=>
   obtain⟨hk,hp,hlt⟩:=List.findIdx?_eq_some_iff_getElem.1 h;have hx:o[k]=x:=by simpa using hp
   have hm:x∈o:=hx▸List.getElem_mem hk
   have:o.idxOf x=k:=by
    rw[List.idxOf,List.findIdx_eq hk];exact⟨hp,fun j hj=>by have:=hlt j hj;simpa using this⟩
   simp[hm,this]
theorem place_loop{o:LI}{n:Nat}(hN:4294967296≤N)(hn:n<4294967296)(hA:Acc n o):
 ∃P,iterO N (fun s=>F_107 N o s.1 s.2) (0,List.replicate n 0)=some P∧P.length=n∧ ∀x:Nat,x<n→P[x]? =some (pl o x):=by
 have hle:=hA.len
 obtain⟨P,h1,h2,h3⟩:=loop_inv (f:=fun s=>F_107 N o s.1 s.2) (fun i (s:LI)=>((i:Int),s)) id o (fun i P=>P.length=n∧ ∀x:Nat,x<n→P[x]? =some (if(x:Int)∈o.take i then(o.idxOf (x:Int):Int)else 0)) (N:=N) (s:=List.replicate n 0) Om
  ⟨by simp,fun x hx=>by simp[hx]⟩
  (fun i x P hx hI=>by
   obtain⟨k1,k2⟩:=hI;have hi:=lt_len hx;have hxr:=hA.rng x (List.mem_of_getElem? hx);obtain⟨v,rfl⟩: ∃v:Nat,x=(v:Int):=⟨x.toNat,by omega⟩;have hv:v<P.length:=by omega
   refine⟨P.set v (i:Int),?_,by simp[k1],fun y hy=>?_⟩
   ·unfold F_107;simp only[show((i:Int)<(o.length:Int)) by omega,decide_true,if_true,idx_of hx,idx_nat hv,setI_nat hv,bind,Option.bind_some];rw[w64_succ Om]
   have hmem:((y:Int)∈o.take (i+1))↔((y:Int)∈o.take i∨(y:Int)=v):=by
    rw[List.take_add_one,hx];simp
   by_cases hyv:y=v
   ·subst hyv;rw[List.getElem?_set_self hv,if_pos (hmem.2 (.inr rfl))]
    have hxi:o[i]=(y:Int):=by
     rw[List.getElem?_eq_getElem hi]at hx;exact Option.some.inj hx
    rw[←hxi,List.Nodup.idxOf_getElem hA.nd]
   rw[List.getElem?_set_ne Om,k2 y hy]
   have:((y:Int)∈o.take (i+1))↔((y:Int)∈o.take i):=by
    rw[hmem];constructor
    ·rintro(h|h)
     ·exact h
     omega
    exact .inl
   simp only[this])
  (fun s _=>by unfold F_107;simp)
 exact⟨P,h1,h2,fun x hx=>by rw[h3 x hx,List.take_length];rfl⟩
theorem row_loop{o P row:LI}{n:Nat}(hN:4294967296≤N)(hg: ∀x:Nat,x<n→P[x]? =some (pl o x))(hw:row.length=256)(hr: ∀y∈row,0≤y∧y<(n:Int)):
 iterO N (fun s=>F_73 N P row s.1 s.2) (row,0)=some (row.map (pl o)):=by
 obtain⟨r,h1,h2,h3⟩:=loop_inv (f:=fun s=>F_73 N P row s.1 s.2) (fun i (s:LI)=>(s,(i:Int))) id row (fun i r=>r.length=256∧ ∀j:Nat,r[j]? =if j<i then(row[j]?).map (pl o)else row[j]?) (N:=N) (s:=row) Om
  ⟨hw,fun j=>by simp⟩
  (fun i x r hx hI=>by
   obtain⟨k1,k2⟩:=hI;have hi:=lt_len hx;have hxr:=hr x (List.mem_of_getElem? hx);obtain⟨v,rfl⟩: ∃v:Nat,x=(v:Int):=⟨x.toNat,by omega⟩;have hv:v<n:=by omega
   have hir:i<r.length:=by omega
   refine⟨r.set i (pl o v),?_,by simp[k1],fun j=>?_⟩
   ·unfold F_73;simp only[show((i:Int)<256) by omega,decide_true,if_true,idx_of hx,idx_of (hg v hv),idx_nat hir,setI_nat hir,bind,Option.bind_some];rw[w64_succ Om]
   by_cases hj:j=i
   ·subst hj;rw[List.getElem?_set_self hir,if_pos Om,hx];rfl
   rw[List.getElem?_set_ne Om,k2 j];by_cases h:j<i
   ·rw[if_pos h,if_pos Om]
   rw[if_neg h,if_neg Om])
  (fun s _=>by unfold F_73;simp[hw])
 rw[show iterO N (fun s=>F_73 N P row s.1 s.2) (row,0)=_ from h1]
 congr 1
 apply List.ext_getElem?;intro j;rw[id,h3 j,List.getElem?_map];by_cases h:j<row.length
 ·rw[if_pos h]
 rw[if_neg h,List.getElem?_eq_none Om];rfl
theorem getD_of{α:Type}{l:List α}{i:Nat}{x d:α}(h:l[i]? =some x):l.getD i d=x:=by rw[List.getD,h];rfl
theorem canon_spec(hN:4294967296≤N)(hs:Sz rows rule entry)(h:Rt rows rule entry):
 F_7 N rows rule entry=some (reRows (ord rows entry) rows,reRule (ord rows entry) rule,reEntry (ord rows entry) entry):=by
 obtain⟨hA,hp,hc⟩:=ord_props h;have hle:=hA.len;have hn2:=h.n2;have he2:=h.e2;obtain⟨b,hb,hbt⟩:=right_spec hN hs;rw[hbt.2 h]at hb;have hz:(0:Int)∈ord rows entry:=hp.subset (mem_insAll.2 (.inl Sm));have hpos:0<(ord rows entry).length:=List.length_pos_of_mem hz;unfold F_7 F_69;obtain⟨P,p1,p2,p3⟩:=place_loop (N:=N) hN (show rows.length<4294967296 by omega) hA;simp only[hb,bind,Option.bind_some,Bool.not_true,Bool.false_eq_true,if_false,order_spec hN hs h];rw[mk_eq Om];simp only[Option.bind_some];rw[p1];simp only[Option.bind_some]
 obtain⟨s1,q1,q2,q3⟩:=loop_inv (f:=fun s=>F_108 N rows rule (ord rows entry) P s.1 s.2.1 s.2.2) (fun i (s:List LI×LI)=>(s.1,s.2,(i:Int))) id (ord rows entry)
  (fun i s=>s.1=(reRows (ord rows entry) rows).take i∧s.2=(reRule (ord rows entry) rule).take i) (N:=N) (s:=([],[])) Om ⟨by simp,by simp⟩
  (fun i x s hx hI=>by
   obtain⟨k1,k2⟩:=hI;obtain⟨R,U⟩:=s;simp only at k1 k2;have hi:=lt_len hx;have hxr:=hA.rng x (List.mem_of_getElem? hx);obtain⟨row,r1,r2,r3,r4⟩:=row_of h hxr;obtain⟨v,rfl⟩: ∃v:Nat,x=(v:Int):=⟨x.toNat,by omega⟩;have hvu:v<rule.length:=by have:=h.ru;omega
   have l1:R.length≤i:=by rw[k1];simp;omega
   have l2:U.length≤i:=by rw[k2];simp;omega
   have g1:(reRows (ord rows entry) rows)[i]? =some (row.map (pl (ord rows entry))):=by
    unfold reRows;rw[List.getElem?_map,hx,←r2];rfl
   have g2:(reRule (ord rows entry) rule)[i]? =some rule[v]:=by
    unfold reRule;rw[List.getElem?_map,hx];show some (rule.getD (v:Int).toNat 0)=_;rw[getD_of (List.getElem?_eq_getElem (show(v:Int).toNat<rule.length by simpa using hvu))];rfl
   refine⟨(R++ [row.map (pl (ord rows entry))],U++ [rule[v]]),?_,?_,?_⟩
   ·unfold F_108;simp only[show((i:Int)<((ord rows entry).length:Int)) by omega,decide_true,if_true,idx_of hx,r1,bind,Option.bind_some];rw[row_loop hN p3 (hs.w row r3) r4];simp only[Option.bind_some];rw[app_eq (by simp;omega)];simp only[Option.bind_some,idx_nat hvu];rw[app_eq (by simp;omega)];simp only[Option.bind_some];rw[w64_succ Om]
   ·rw[List.take_add_one,g1,k1];rfl
   rw[List.take_add_one,g2,k2];rfl)
  (fun s _=>by unfold F_108;simp)
 rw[show iterO N (fun s=>F_108 N rows rule (ord rows entry) P s.1 s.2.1 s.2.2) ([],[],0)=_ from q1];rw[List.take_of_length_le (by simp[reRows])]at q2;rw[List.take_of_length_le (by simp[reRule])]at q3;obtain⟨s1a,s1b⟩:=s1;simp only at q2 q3;subst q2 q3;simp only[Option.bind_some,id]
 have hne:(((ord rows entry).length:Int)==0)=false:=by
  have: ¬(((ord rows entry).length:Int)=0):=by omega
  simpa using this
 simp only[hne,Bool.false_eq_true,if_false]
 obtain⟨s3,w1,w2⟩:=loop_inv (f:=fun s=>F_109 N entry P s.1 s.2) (fun i (s:LI)=>(s,(i:Int))) id entry (fun i s=>s=(reEntry (ord rows entry) entry).take i) (N:=N) (s:=[]) Om Sm
  (fun i x s hx k1=>by
   have hi:=lt_len hx;have hxr:=h.ent x (List.mem_of_getElem? hx);obtain⟨v,rfl⟩: ∃v:Nat,x=(v:Int):=⟨x.toNat,by omega⟩;have l1:s.length≤i:=by rw[k1];simp;omega
   refine⟨s++ [pl (ord rows entry) v],?_,?_⟩
   ·unfold F_109;simp only[show((i:Int)<(entry.length:Int)) by omega,decide_true,if_true,idx_of hx,idx_of (p3 v Om),bind,Option.bind_some];rw[app_eq (by simp;omega)];simp only[Option.bind_some];rw[w64_succ Om]
   have:(reEntry (ord rows entry) entry)[i]? =some (pl (ord rows entry) v):=by unfold reEntry;rw[List.getElem?_map,hx];rfl
   rw[List.take_add_one,this,k1];rfl)
  (fun s _=>by unfold F_109;simp)
 rw[show iterO N (fun s=>F_109 N entry P s.1 s.2) ([],0)=_ from w1];rw[List.take_of_length_le (by simp[reEntry])]at w2;subst w2;rfl
open Go Go.Eng
theorem refRow_loop{o row:LI}{s:Int}(hN:4294967296≤N)(ho:o.length<4294967296)(hr:idx rows s=some row)(hw:row.length=256):
 iterO N (fun t=>F_86 N rows o s t.1 t.2) (List.replicate 256 0,0)=some (row.map (pl o)):=by
 obtain⟨r,h1,h2,h3⟩:=loop_inv (f:=fun t=>F_86 N rows o s t.1 t.2) (fun i (s:LI)=>(s,(i:Int))) id row (fun i r=>r.length=256∧ ∀j:Nat,j<i→r[j]? =(row[j]?).map (pl o)) (N:=N) (s:=List.replicate 256 0) Om
  ⟨List.length_replicate,fun j hj=>absurd hj Om⟩
  (fun i x r hx hI=>by
   obtain⟨k1,k2⟩:=hI;have hi:=lt_len hx;have hir:i<r.length:=by omega
   refine⟨r.set i (pl o x),?_,by simp[k1],fun j hj=>?_⟩
   ·unfold F_86;simp only[show((i:Int)<256) by omega,decide_true,if_true,hr,idx_of hx,place_spec hN ho,idx_nat hir,setI_nat hir,bind,Option.bind_some];rw[w64_succ Om]
   by_cases hji:j=i
   ·subst hji;rw[List.getElem?_set_self hir,hx];rfl
   rw[List.getElem?_set_ne Om,k2 j Om])
  (fun s _=>by unfold F_86;simp[hw])
 rw[show iterO N (fun t=>F_86 N rows o s t.1 t.2) (List.replicate 256 0,0)=_ from h1]
 congr 1
 apply List.ext_getElem?;intro j;rw[id,List.getElem?_map];by_cases h:j<row.length
 ·exact h3 j h
 rw[List.getElem?_eq_none Om,List.getElem?_eq_none Om];rfl
theorem refCanon_spec(hN:4294967296≤N)(hs:Sz rows rule entry)(h:Rt rows rule entry):
 F_14 N rows rule entry=some (reRows (ord rows entry) rows,reRule (ord rows entry) rule,reEntry (ord rows entry) entry):=by
 obtain⟨hA,hp,hc⟩:=ord_props h;have hle:=hA.len;have hn2:=h.n2;have he2:=h.e2;unfold F_14;simp only[refOrder_spec hN hs h,bind,Option.bind_some]
 obtain⟨s1,q1,q2,q3⟩:=loop_inv (f:=fun s=>F_132 N rows rule (ord rows entry) s.1 s.2.1 s.2.2) (fun i (s:List LI×LI)=>((i:Int),s.1,s.2)) id (ord rows entry)
  (fun i s=>s.1=(reRows (ord rows entry) rows).take i∧s.2=(reRule (ord rows entry) rule).take i) (N:=N) (s:=([],[])) Om ⟨by simp,by simp⟩
  (fun i x s hx hI=>by
   obtain⟨k1,k2⟩:=hI;obtain⟨R,U⟩:=s;simp only at k1 k2;have hi:=lt_len hx;have hxr:=hA.rng x (List.mem_of_getElem? hx);obtain⟨row,r1,r2,r3,r4⟩:=row_of h hxr;obtain⟨v,rfl⟩: ∃v:Nat,x=(v:Int):=⟨x.toNat,by omega⟩;have hvu:v<rule.length:=by have:=h.ru;omega
   have l1:R.length≤i:=by rw[k1];simp;omega
   have l2:U.length≤i:=by rw[k2];simp;omega
   have g1:(reRows (ord rows entry) rows)[i]? =some (row.map (pl (ord rows entry))):=by
    unfold reRows;rw[List.getElem?_map,hx,←r2];rfl
   have g2:(reRule (ord rows entry) rule)[i]? =some rule[v]:=by
    unfold reRule;rw[List.getElem?_map,hx];show some (rule.getD (v:Int).toNat 0)=_;rw[getD_of (List.getElem?_eq_getElem (show(v:Int).toNat<rule.length by simpa using hvu))];rfl
   refine⟨(R++ [row.map (pl (ord rows entry))],U++ [rule[v]]),?_,?_,?_⟩
   ·unfold F_132;simp only[show((i:Int)<((ord rows entry).length:Int)) by omega,decide_true,if_true,idx_of hx,bind,Option.bind_some];rw[refRow_loop hN Om r1 (hs.w row r3)];simp only[Option.bind_some];rw[app_eq (by simp;omega)];simp only[Option.bind_some,idx_nat hvu];rw[app_eq (by simp;omega)];simp only[Option.bind_some];rw[w64_succ Om]
   ·rw[List.take_add_one,g1,k1];rfl
   rw[List.take_add_one,g2,k2];rfl)
  (fun s _=>by unfold F_132;simp)
 rw[show iterO N (fun s=>F_132 N rows rule (ord rows entry) s.1 s.2.1 s.2.2) (0,[],[])=_ from q1];rw[List.take_of_length_le (by simp[reRows])]at q2;rw[List.take_of_length_le (by simp[reRule])]at q3;obtain⟨s1a,s1b⟩:=s1;simp only at q2 q3;subst q2 q3;simp only[Option.bind_some,id]
 obtain⟨s3,w1,w2⟩:=loop_inv (f:=fun s=>F_133 N entry (ord rows entry) s.1 s.2) (fun i (s:LI)=>(s,(i:Int))) id entry (fun i s=>s=(reEntry (ord rows entry) entry).take i) (N:=N) (s:=[]) Om Sm
  (fun i x s hx k1=>by
   have hi:=lt_len hx;have l1:s.length≤i:=by rw[k1];simp;omega
   refine⟨s++ [pl (ord rows entry) x],?_,?_⟩
   ·unfold F_133;simp only[show((i:Int)<(entry.length:Int)) by omega,decide_true,if_true,idx_of hx,place_spec hN (show(ord rows entry).length<4294967296 by omega),bind,Option.bind_some];rw[app_eq (by simp;omega)];simp only[Option.bind_some];rw[w64_succ Om]
   have:(reEntry (ord rows entry) entry)[i]? =some (pl (ord rows entry) x):=by unfold reEntry;rw[List.getElem?_map,hx];rfl
   rw[List.take_add_one,this,k1];rfl)
  (fun s _=>by unfold F_133;simp)
 rw[show iterO N (fun s=>F_133 N entry (ord rows entry) s.1 s.2) ([],0)=_ from w1];rw[List.take_of_length_le (by simp[reEntry])]at w2;subst w2;rfl
theorem order_not(hN:4294967296≤N)(hs:Sz rows rule entry)(h: ¬Rt rows rule entry):F_69 N rows rule entry=some []:=by
 obtain⟨b,hb,hbt⟩:=right_spec hN hs
 have hbf:b=false:=by
  cases b with
  |false=>rfl
  |true=>exact absurd (hbt.1 rfl) h
 subst hbf;unfold F_69;simp only[hb,bind,Option.bind_some,Bool.not_false,if_true]
theorem order_yes(hN:4294967296≤N)(hs:Sz rows rule entry)(h:Rt rows rule entry):F_69 N rows rule entry=some (ord rows entry):=by
 obtain⟨b,hb,hbt⟩:=right_spec hN hs;rw[hbt.2 h]at hb;unfold F_69;simp only[hb,bind,Option.bind_some,Bool.not_true,Bool.false_eq_true,if_false,order_spec hN hs h]
theorem less_spec(N:Nat)(x y:Int):F_199 N x y=some (decide (x<y)):=by
 unfold F_199 F_112;simp
theorem sorted_spec{xs:LI}(hN:4294967296≤N)(hl:xs.length<4294967296): ∃b,F_49 N xs=some b∧(b=true↔ ∀i,(h:i+1<xs.length)→xs[i]≤xs[i+1]):=by
 unfold F_49
 have body: ∀i:Nat,(hi:i+1<xs.length)→F_101 N xs ((i+1:Nat):Int)=if xs[i+1]<xs[i]then some (.inr (.inr false))else some (.inl (i:Int)):=by
  intro i hi;unfold F_101;have e1:w64 (((i+1:Nat):Int)-1)=(i:Int):=by rw[w64,wrap64]<;>omega
  simp only[show(((i+1:Nat):Int)>0) by omega,decide_true,if_true,idx_nat hi,e1,idx_nat (show i<xs.length by omega),less_spec,bind,Option.bind_some];simp only[decide_eq_true_eq]
 have key: ∀(k M:Nat),k<M→(hk:k<xs.length)→iterO M (fun s=>F_101 N xs s) (k:Int)=some (if∀i,(h:i<k)→xs[i]≤xs[i+1]then .inl ()else .inr false):=by
  intro k
  induction k with
  |zero=>
    intro M hM hk;obtain⟨M,rfl⟩: ∃m,M=m+1:=⟨M-1,by omega⟩;simp[iterO,F_101]
  |succ k ih=>
    intro M hM hk;obtain⟨M,rfl⟩: ∃m,M=m+1:=⟨M-1,by omega⟩;simp only[iterO];rw[body k hk];by_cases hlt:xs[k+1]<xs[k]
    ·rw[if_pos hlt,if_neg];intro hall;have:=hall k Om;omega
    rw[if_neg hlt];simp only[];rw[ih M Om Om];by_cases hall: ∀i,(h:i<k)→xs[i]≤xs[i+1]
    ·rw[if_pos hall,if_pos];intro i hi;by_cases hik:i=k
     ·subst hik;omega
     exact hall i Om
    rw[if_neg hall,if_neg];intro hall2;exact hall fun i hi=>hall2 i Om
 by_cases h0:xs.length=0
 ·have hx:xs= []:=List.eq_nil_of_length_eq_zero h0;subst hx;obtain⟨M,rfl⟩: ∃m,N=m+1:=⟨N-1,by omega⟩;have:w64 (((([]:LI).length:Nat):Int)-1)= -1:=by rw[w64,wrap64]<;>simp
  rw[this];exact⟨true,by simp[iterO,F_101],by simp⟩
 have e1:w64 ((xs.length:Int)-1)=((xs.length-1:Nat):Int):=by rw[w64,wrap64]<;>omega
 rw[e1,key (xs.length-1) N Om Om];by_cases hall: ∀i,(h:i<xs.length-1)→xs[i]≤xs[i+1]
 ·rw[if_pos hall];exact⟨true,rfl,fun _ i h=>hall i Om,fun _=>rfl⟩
 rw[if_neg hall];exact⟨false,rfl,fun h=>by simp at h,fun hh=>absurd (fun i h=>hh i Om) hall⟩
open Go Go.Eng
def upto(n:Nat):LI:=(List.range n).map fun(i:Nat)=>(i:Int)
theorem upto_get{n i:Nat}(h:i<(upto n).length):(upto n)[i]=(i:Int):=by simp[upto]
theorem upto_len(n:Nat):(upto n).length=n:=by simp[upto]
theorem mono_of{o:LI}(hn:o.Nodup)(hs: ∀i,(h:i+1<o.length)→o[i]≤o[i+1]): ∀(k i:Nat) (h:i+k<o.length),o[i]+(k:Int)≤o[i+k]
 |0,i,h=>by simp
 |k+1,i,h=>by
   have ih:=mono_of hn hs k i Om;have h1:=hs (i+k) Om
   have h2:o[i+k]≠o[i+k+1]:=fun e=>by
    have e1:=List.Nodup.idxOf_getElem hn (i+k) Om;rw[e,List.Nodup.idxOf_getElem hn]at e1;omega
   have e:o[i+(k+1)]=o[i+k+1]:=rfl;rw[e]
   push_cast
   omega
theorem sorted_range{o:LI}{n:Nat}(hA:Acc n o)(hl:o.length=n)(hs: ∀i,(h:i+1<o.length)→o[i]≤o[i+1]):o=upto n:=by
 refine List.ext_getElem (by simp[upto,hl]) fun i h1 h2=>?_;rw[upto_get];have a1:=mono_of hA.nd hs i 0 Om;have a2:=mono_of hA.nd hs (o.length-1-i) i Om;have b1:=hA.rng _ (List.getElem_mem (show 0<o.length by omega));have b2:=hA.rng _ (List.getElem_mem (show i+(o.length-1-i)<o.length by omega));have e1:o[0+i]=o[i]:=by congr 1;omega
 rw[e1]at a1;omega
theorem pl_upto{n:Nat}{x:Int}(h:0≤x∧x<n):pl (upto n) x=x:=by
 have hl:x.toNat<(upto n).length:=by rw[upto_len];omega
 have hn:(upto n).Nodup:=by
  unfold upto List.Nodup;rw[List.pairwise_map];exact List.Pairwise.imp (fun h e=>h (Int.ofNat.inj e)) List.nodup_range
 have:=pl_get hn hl;rw[upto_get]at this;rw[show((x.toNat:Nat):Int)=x by omega]at this;exact this
theorem map_id_of{f:Int→Int}{l:LI}(h: ∀x∈l,f x=x):l.map f=l:=by
 conv=>rhs;rw[←List.map_id l]
 exact List.map_congr_left h
theorem re_upto(h:Rt rows rule entry):reRows (upto rows.length) rows=rows∧reRule (upto rows.length) rule=rule∧reEntry (upto rows.length) entry=entry:=by
 refine⟨?_,?_,map_id_of fun x hx=>pl_upto (h.ent x hx)⟩
 ·refine List.ext_getElem (by simp[reRows,upto]) fun i h1 h2=>?_;simp only[reRows,upto,List.getElem_map,List.getElem_range,Int.toNat_natCast];rw[List.getD,List.getElem?_eq_getElem h2];exact map_id_of fun x hx=>pl_upto (h.row _ (List.getElem_mem h2) x hx)
 refine List.ext_getElem (by simp[reRule,upto,h.ru]) fun i h1 h2=>?_;simp only[reRule,upto,List.getElem_map,List.getElem_range,Int.toNat_natCast];rw[List.getD,List.getElem?_eq_getElem h2];rfl
def Cn(rows:List LI)(rule entry:LI):Prop:=reRows (ord rows entry) rows=rows∧reRule (ord rows entry) rule=rule∧reEntry (ord rows entry) entry=entry
theorem cn_iff(h:Rt rows rule entry):Cn rows rule entry↔ord rows entry=upto rows.length:=by
 constructor
 ·rintro⟨h1,h2,h3⟩;have:=ord_re h;rw[h1,h3]at this
  have hl:(ord rows entry).length=rows.length:=by
   have e:=congrArg List.length h1;simpa[reRows]using e
  rw[hl]at this;exact this
 intro e;unfold Cn;rw[e];exact re_upto h
theorem isCanon_spec(hN:4294967296≤N)(hs:Sz rows rule entry): ∃b,F_163 N rows rule entry=some b∧(b=true↔Rt rows rule entry∧Cn rows rule entry):=by
 unfold F_163;by_cases h:Rt rows rule entry
 case neg=>
  rw[order_not hN hs h];exact⟨false,by simp,by simp[h]⟩
 obtain⟨hA,hp,hc⟩:=ord_props h;have hle:=hA.len;have hn2:=h.n2;have hz:(0:Int)∈ord rows entry:=hp.subset (mem_insAll.2 (.inl Sm));have hpos:0<(ord rows entry).length:=List.length_pos_of_mem hz;rw[order_yes hN hs h];simp only[bind,Option.bind_some,show((ord rows entry).length:Int)>0 by omega,decide_true,if_true];by_cases hl:(ord rows entry).length=rows.length
 case neg=>
  have e0:(((ord rows entry).length:Int)==(rows.length:Int))=false:=by simp;omega
  refine⟨false,by simp[e0],?_⟩;simp only[Bool.false_eq_true,false_iff];rintro⟨_,hcn⟩;rw[cn_iff h]at hcn;exact hl (by rw[hcn,upto_len])
 have e0:(((ord rows entry).length:Int)==(rows.length:Int))=true:=by simp;omega
 obtain⟨b,hb,hbt⟩:=sorted_spec (N:=N) (xs:=ord rows entry) hN Om;refine⟨b,by simp[e0,hb],?_⟩;rw[hbt];constructor
 ·intro hsd;refine⟨h,(cn_iff h).2 (sorted_range hA hl hsd)⟩
 rintro⟨_,hcn⟩ i hi;rw[cn_iff h]at hcn
 have g: ∀j,(hj:j<(ord rows entry).length)→(ord rows entry)[j]=(j:Int):=by
  rw[hcn];intro j hj;exact upto_get hj
 rw[g,g];omega
theorem mem_reRows{o:LI}{r:LI}(h:r∈reRows o rows): ∃s∈o,r=(rows.getD s.toNat []).map (pl o):=by
 obtain⟨s,hs,rfl⟩:=List.mem_map.1 h;exact⟨s,hs,rfl⟩
theorem pl_rng{o:LI}{x:Int}(h0:0<o.length):0≤pl o x∧pl o x<o.length:=by
 unfold pl;split
 ·rename_i h;have:=List.idxOf_lt_length_of_mem h;omega
 omega
theorem re_right(h:Rt rows rule entry):Rt (reRows (ord rows entry) rows) (reRule (ord rows entry) rule) (reEntry (ord rows entry) entry):=by
 obtain⟨hA,hp,hc⟩:=ord_props h;have hle:=hA.len;have hz:(0:Int)∈ord rows entry:=hp.subset (mem_insAll.2 (.inl Sm));have hpos:0<(ord rows entry).length:=List.length_pos_of_mem hz
 have h00:(ord rows entry)[0]? =some 0:=by
  obtain⟨t,ht⟩:=(insAll_prefix entry [0]).trans hp;rw[←ht];rfl
 have hpl0:pl (ord rows entry) 0=0:=by
  have:=pl_get hA.nd hpos;rw[List.getElem?_eq_getElem hpos]at h00;rw[Option.some.inj h00]at this;exact this
 have hlen:(reRows (ord rows entry) rows).length=(ord rows entry).length:=by simp[reRows]
 refine⟨by omega,by have:=h.n2;omega,by simp[reRule,reRows],by simpa[reEntry]using h.e1,by simpa[reEntry]using h.e2,?_,?_,?_,?_,?_⟩
 ·intro r hr x hx;obtain⟨s,hs,rfl⟩:=mem_reRows hr;obtain⟨y,hy,rfl⟩:=List.mem_map.1 hx;rw[hlen];exact pl_rng hpos
 ·intro x hx;obtain⟨s,hs,rfl⟩:=List.mem_map.1 hx;have hsr:=hA.rng s hs;have hru:=h.ru;rw[List.getD,List.getElem?_eq_getElem (show s.toNat<rule.length by omega)];exact h.rul _ (List.getElem_mem _)
 ·intro x hx;obtain⟨s,hs,rfl⟩:=List.mem_map.1 hx;rw[hlen];exact pl_rng hpos
 ·unfold reRows;rw[List.getElem?_map,h00];show some ((rows.getD 0 []).map _)=_;rw[List.getD,h.r0];show some ((List.replicate 256 0).map (pl (ord rows entry)))=_;rw[List.map_replicate,hpl0]
 unfold reRule;rw[List.getElem?_map,h00];show some (rule.getD 0 0)=_;rw[List.getD,h.u0];rfl
theorem re_canon(h:Rt rows rule entry):Cn (reRows (ord rows entry) rows) (reRule (ord rows entry) rule) (reEntry (ord rows entry) entry):=by
 rw[cn_iff (re_right h),ord_re h];simp[upto,reRows]
theorem re_sz(hs:Sz rows rule entry)(h:Rt rows rule entry):Sz (reRows (ord rows entry) rows) (reRule (ord rows entry) rule) (reEntry (ord rows entry) entry):=by
 obtain⟨hA,hp,hc⟩:=ord_props h;have hle:=hA.len;have hn2:=h.n2;refine⟨fun r hr=>?_,by simp[reRows];omega,by simp[reRule];omega,by simpa[reEntry]using hs.c⟩;obtain⟨s,hsm,rfl⟩:=mem_reRows hr;have hsr:=hA.rng s hsm;rw[List.length_map,List.getD,List.getElem?_eq_getElem (show s.toNat<rows.length by omega)];exact hs.w _ (List.getElem_mem _)
open Go Go.Eng
def b1(d:Nat):Nat:=((d/2)&&&85)+(d&&&85)
def b2(d:Nat):Nat:=((d/4)&&&51)+(d&&&51)
def b3(d:Nat):Nat:=(d/16+d) %16
theorem f1: ∀d:Fin 256,∀e:Fin 2,((d.val/2+128*e.val)&&&85)=(d.val/2)&&&85:=by decide+kernel
theorem f2: ∀d:Fin 256,∀e:Fin 4,((d.val/4+64*e.val)&&&51)=(d.val/4)&&&51:=by decide+kernel
theorem f3: ∀d:Fin 256,b1 d.val<256∧b2 (b1 d.val)<256∧b2 (b1 d.val) %16≤4∧b2 (b1 d.val)/16≤4:=by decide+kernel
theorem f4: ∀d:Fin 256,b3 (b2 (b1 d.val))=(List.range 8).countP (d.val.testBit ·)∧b3 (b2 (b1 d.val))≤8:=by decide+kernel
def pop(x:Nat):Nat:=(List.range 64).countP (x.testBit ·)
def n6(y:Nat):Nat:=
 let a:=y+y/256;let b:=a+a/65536
 b+b/4294967296
theorem ad(a b c d:Nat):(a+256*b)+(c+256*d)=(a+c)+256*(b+d):=by omega
theorem shr_u64{a:Nat}{k:Nat}(hk:k<64):shrI .u64 (a:Int) (k:Int)=((a/2^k:Nat):Int):=by
 simp only[shrI,IntKind.bits,Int.toNat_natCast,Nat.min_eq_left (show k≤64 by omega)];rw[Int.fdiv_eq_ediv_of_nonneg _ (Int.le_of_lt (Int.pow_pos (by decide)))]
 push_cast
 rfl
theorem wrapN{a:Nat}(h:a<18446744073709551616):IntKind.wrap .u64 (a:Int)=(a:Int):=by rw[wrapU64]<;>omega
def t1(x:Int):Int:=IntKind.wrap .u64 ((iand .u64 (shrI .u64 x 1) 6148914691236517205)+(iand .u64 x 6148914691236517205))
def t2(x:Int):Int:=IntKind.wrap .u64 ((iand .u64 (shrI .u64 x 2) 3689348814741910323)+(iand .u64 x 3689348814741910323))
def t3(x:Int):Int:=iand .u64 (IntKind.wrap .u64 ((shrI .u64 x 4)+x)) 1085102592571150095
def t4(x:Int):Int:=IntKind.wrap .u64 (x+shrI .u64 x 8)
def t5(x:Int):Int:=IntKind.wrap .u64 (x+shrI .u64 x 16)
open Go Go.Eng
theorem countP_one{p:Nat→Bool}{k:Nat}(hk:p k=false): ∀{l:List Nat},l.Nodup→k∈l→l.countP (fun j=>p j||j==k)=l.countP p+1
 | [],_,h=>by simp at h
 |x::l,hn,h=>by
   obtain⟨h1,h2⟩:=List.nodup_cons.1 hn;by_cases hx:x=k
   ·subst hx
    have:l.countP (fun j=>p j||j==x)=l.countP p:=List.countP_congr fun j hj=>by
     have:j≠x:=fun e=>h1 (e▸hj);simp[this]
    rw[List.countP_cons,List.countP_cons,this];simp[hk]
   have hm:k∈l:=by
    rcases List.mem_cons.1 h with h|h
    ·exact absurd h.symm hx
    exact h
   have ih:=countP_one hk h2 hm;rw[List.countP_cons,List.countP_cons,ih];simp[hx];omega
theorem pop_or{a k:Nat}(hk:k<64)(h:a.testBit k=false):pop (a|||2^k)=pop a+1:=by
 unfold pop;rw[←countP_one (p:=(a.testBit ·)) h List.nodup_range (by simpa using hk)];refine List.countP_congr fun j _=>?_;rw[Nat.testBit_or,Nat.testBit_two_pow];by_cases hj:j=k
 ·subst hj;simp
 have: ¬k=j:=fun e=>hj e.symm;simp[hj,this]
def cnt(m:LI):Nat:=(m.map fun w=>pop w.toNat).sum
theorem sum_set{f:Int→Nat}: ∀{l:LI} {i:Nat} {x y:Int},l[i]? =some x→((l.set i y).map f).sum+f x=(l.map f).sum+f y
 | [],i,x,y,h=>by simp at h
 |z::l,0,x,y,h=>by simp at h;subst h;simp;omega
 |z::l,i+1,x,y,h=>by
   have:=sum_set (f:=f) (l:=l) (i:=i) (x:=x) (y:=y) (by simpa using h);simp only[List.set_cons_succ,List.map_cons,List.sum_cons];omega
theorem put_cnt{N n:Nat}{m acc:LI}{x:Int}(h:Rel n m acc)(h0:0≤x∧x<n)(hn:n≤65536)(hc:cnt m=acc.length): ∃m',F_33 N m (n:Int) x=some (m',decide (x∉acc))∧Rel n m' (ins acc x)∧cnt m'=(ins acc x).length:=by
 obtain⟨m',h1,h2⟩:=put_rel (N:=N) h h0 hn;refine⟨m',h1,h2,?_⟩;obtain⟨i,rfl⟩: ∃i:Nat,x=(i:Int):=⟨x.toNat,by omega⟩;have hi:i<n:=by omega
 obtain⟨m'',e1,_,_,e2⟩:=put_spec (N:=N) h.mkr hi hn;rw[h1]at e1;have e3:=(Prod.mk.inj (Option.some.inj e1)).1;subst e3;have ha:=h.at_ i hi;unfold ins;by_cases hh:has m i=true
 ·rw[e2,if_pos hh,if_pos (ha.1 hh),hc]
 have hf:has m i=false:=by simpa using hh
 have hm: ¬(i:Int)∈acc:=fun hm=>hh (ha.2 hm);rw[if_neg hh]at e2;rw[if_neg hm,e2];have hl:i/64<m.length:=by rw[h.mkr.len];omega
 have hw:=h.mkr.rng _ (List.getElem_mem hl);have hx:m[i/64]? =some m[i/64]:=List.getElem?_eq_getElem hl;have hg:m.getD (i/64) 0=m[i/64]:=by rw[List.getD,hx];rfl
 have hs:=sum_set (f:=fun w=>pop w.toNat) (y:=((m[i/64].toNat|||2^(i %64):Nat):Int)) hx
 have hb:m[i/64].toNat.testBit (i %64)=false:=by
  unfold has at hf;rwa[hg]at hf
 rw[hg];simp only[Int.toNat_natCast]at hs;rw[pop_or Om hb]at hs;unfold cnt at hc ⊢;simp only[List.length_append,List.length_cons,List.length_nil];omega
theorem acc_nil(n:Nat):Acc n []:=⟨by simp,fun x hx=>by simp at hx⟩
open Go Go.Eng
def nxt(rows:List LI)(s c:Int):Int:=(rows.getD s.toNat []).getD c.toNat 0
def beg(entry:LI)(cond:Int):Int:=if 0≤cond∧cond<(entry.length:Int)then entry.getD cond.toNat 0 else 0
def Byt(text:LI):Prop:= ∀c∈text,0≤c∧c<256
theorem Byt.take{text:LI}(h:Byt text)(k:Nat):Byt (text.take k):=fun c hc=>h c (List.mem_of_mem_take hc)
section
variable {N:Nat}{rows:List LI}{rule entry:LI}
theorem nxt_get(hs:Sz rows rule entry){s c:Int}(hr:0≤s∧s<rows.length)(hc:0≤c∧c<256): ∃row,idx rows s=some row∧row∈rows∧idx row c=some (nxt rows s c)∧nxt rows s c∈row:=by
 have hl:s.toNat<rows.length:=by omega
 have hw:=hs.w _ (List.getElem_mem hl);have e1:rows.getD s.toNat []=rows[s.toNat]:=by rw[List.getD,List.getElem?_eq_getElem hl];rfl
 have hcl:c.toNat<rows[s.toNat].length:=by omega
 have e2:nxt rows s c=rows[s.toNat][c.toNat]:=by unfold nxt;rw[e1,List.getD,List.getElem?_eq_getElem hcl];rfl
 exact⟨rows[s.toNat],idx_int hr.1 hl,List.getElem_mem hl,by rw[e2];exact idx_int hc.1 hcl,e2▸List.getElem_mem hcl⟩
theorem nxt_rng(hs:Sz rows rule entry)(h:Rt rows rule entry){s c:Int}(hr:0≤s∧s<rows.length)(hc:0≤c∧c<256):0≤nxt rows s c∧nxt rows s c<rows.length:=by
 obtain⟨row,_,h2,_,h4⟩:=nxt_get hs hr hc;exact h.row row h2 _ h4
theorem ord_zero(h:Rt rows rule entry):(0:Int)∈ord rows entry∧pl (ord rows entry) 0=0∧0<(ord rows entry).length:=by
 obtain⟨hA,hp,hc⟩:=ord_props h;have hz:(0:Int)∈ord rows entry:=hp.subset (mem_insAll.2 (.inl Sm));have hpos:0<(ord rows entry).length:=List.length_pos_of_mem hz
 have h00:(ord rows entry)[0]? =some 0:=by
  obtain⟨t,ht⟩:=(insAll_prefix entry [0]).trans hp;rw[←ht];rfl
 have:=pl_get hA.nd hpos;rw[List.getElem?_eq_getElem hpos]at h00;rw[Option.some.inj h00]at this;exact⟨hz,this,hpos⟩
theorem nxt_re(hs:Sz rows rule entry)(h:Rt rows rule entry){s c:Int}(hm:s∈ord rows entry)(hc:0≤c∧c<256):
 nxt (reRows (ord rows entry) rows) (pl (ord rows entry) s) c=pl (ord rows entry) (nxt rows s c)∧nxt rows s c∈ord rows entry:=by
 obtain⟨hA,hp,hcl⟩:=ord_props h;obtain⟨row,g1,g2,g3,g4⟩:=nxt_get hs (hA.rng s hm) hc;have hsr:=hA.rng s hm
 have e1:rows.getD s.toNat []=row:=by
  obtain⟨_,hlt,hx⟩:=idx_some g1;rw[List.getD,hx];rfl
 refine⟨?_,hcl s hm _ (e1▸g4)⟩;obtain⟨_,hlt,hx⟩:=idx_some g3;show(List.getD (List.getD (reRows (ord rows entry) rows) (pl (ord rows entry) s).toNat []) c.toNat 0)=_;rw[reRows_get hm,e1,List.getD,List.getElem?_map,hx];rfl
theorem rule_re{o:LI}{s:Int}(hm:s∈o):(reRule o rule).getD (pl o s).toNat 0=rule.getD s.toNat 0:=by
 have hlt:=List.idxOf_lt_length_of_mem hm;have:(pl o s).toNat=o.idxOf s:=by unfold pl;rw[if_pos hm];simp
 unfold reRule;rw[this,List.getD,List.getElem?_map,List.getElem?_eq_getElem hlt,List.getElem_idxOf hlt];rfl
end
open Go Go.Eng
theorem has_spec{N n i:Nat}{m:LI}(hm:MkR n m)(hi:i<n)(hn:n≤65536):F_91 N m (n:Int) (i:Int)=some (has m i):=by
 have hl:i/64<m.length:=by rw[hm.len];omega
 have hw:=hm.rng _ (List.getElem_mem hl)
 have hp:(2:Nat)^(i %64)<18446744073709551616:=by
  have h1:(2:Nat)^(i %64)≤2^63:=Nat.pow_le_pow_right Om Om;have h2:(2:Nat)^63=9223372036854775808:=by decide
  omega
 obtain⟨a,ha⟩: ∃a:Nat,m[i/64]=(a:Int):=⟨m[i/64].toNat,by omega⟩;have hx:m[i/64]? =some (a:Int):=by rw[List.getElem?_eq_getElem hl,ha]
 have ha':a<18446744073709551616:=by omega
 have hh:has m i=a.testBit (i %64):=by simp[has,List.getD,hx]
 have hand:(a&&&2^(i %64)=0)↔a.testBit (i %64)=false:=by
  constructor
  ·intro h;have:=congrArg (·.testBit (i %64)) h;simpa[Nat.testBit_and,Nat.testBit_two_pow_self]using this
  intro h;apply Nat.eq_of_testBit_eq;intro j;rw[Nat.testBit_and,Nat.testBit_two_pow];by_cases hj:i %64=j
  ·subst hj;simp[h]
  simp[hj]
 unfold F_91;rw[at_spec Om];simp only[bind,Option.bind_some,decide_eq_true hi,if_true,idx_of hx,iand_u64 ha' hp,hh];by_cases hb:a.testBit (i %64)=true
 ·have h1: ¬(a&&&2^(i %64)=0):=fun h=>by rw[hand.1 h]at hb;cases hb
  have h2:(((a&&&2^(i %64):Nat):Int) != 0)=true:=by simp;omega
  rw[h2,hb]
 have hb:a.testBit (i %64)=false:=by simpa using hb
 have h2:(((a&&&2^(i %64):Nat):Int) != 0)=false:=by rw[hand.2 hb];rfl
 rw[h2,hb]
theorem low_bit: ∀{x:Nat},x≠0→ ∃k,x.testBit k=true∧ ∀j,j<k→x.testBit j=false:=by
 intro x hx;obtain⟨i,hi⟩:=Nat.exists_testBit_of_ne_zero hx
 induction i using Nat.strongRecOn with
 |ind i ih=>
   by_cases h: ∃j,j<i∧x.testBit j=true
   ·obtain⟨j,hj,hb⟩:=h;exact ih j hj hb
   refine⟨i,hi,fun j hj=>?_⟩
   cases hb:x.testBit j with
   |false=>rfl
   |true=>exact absurd ⟨j,hj,hb⟩ h
theorem low_shape{x k:Nat}(h1:x.testBit k=true)(h2: ∀j,j<k→x.testBit j=false): ∃q,x=2^k*(2*q+1):=by
 have hm:x %2^k=0:=by
  apply Nat.eq_of_testBit_eq;intro j;rw[Nat.testBit_mod_two_pow,Nat.zero_testBit];by_cases hj:j<k
  ·simp[h2 j hj]
  simp[hj]
 have ho:x/2^k %2=1:=by
  rw[Nat.testBit_eq_decide_div_mod_eq]at h1;simpa using h1
 refine⟨x/2^k/2,?_⟩;have e1:2*(x/2^k/2)+1=x/2^k:=by omega
 rw[e1];have:=Nat.div_add_mod x (2^k);omega
theorem and_neg{x k:Nat}(hx:x<18446744073709551616)(h1:x.testBit k=true)(h2: ∀j,j<k→x.testBit j=false):x&&&(18446744073709551616-x)=2^k:=by
 obtain⟨q,hq⟩:=low_shape h1 h2;have hp:0<2^k:=Nat.pow_pos Om;have hpos:0<x:=by rw[hq];exact Nat.mul_pos hp Om
 have hk:k<64:=by
  apply Nat.lt_of_not_le;intro h
  have:=Nat.testBit_lt_two_pow (x:=x) (i:=k) (Nat.lt_of_lt_of_le hx (by
   have:=Nat.pow_le_pow_right (n:=2) Om h;have e:(2:Nat)^64=18446744073709551616:=by decide
   omega))
  rw[this]at h1;cases h1
 have hy:x-1=2^k*(2*q)+(2^k-1):=by
  rw[hq,Nat.mul_add,Nat.mul_one];omega
 have hx':x=2^k*(2*q+1)+0:=by rw[hq];rfl
 have e64:(18446744073709551616:Nat)-x=2^64-((x-1)+1):=by
  have e:(2:Nat)^64=18446744073709551616:=by decide
  omega
 rw[e64];apply Nat.eq_of_testBit_eq;intro i
 rw[Nat.testBit_and,Nat.testBit_two_pow_sub_succ (by
                                                       have e:(2:Nat)^64=18446744073709551616:=by decide
                                                       omega),Nat.testBit_two_pow]
 by_cases hi:i<k
 ·rw[h2 i hi];have: ¬k=i:=by omega
  simp[this]
 have ey:(x-1).testBit i=(2*q).testBit (i-k):=by
  rw[hy,Nat.testBit_two_pow_mul_add _ Om,if_neg hi]
 have ex:x.testBit i=(2*q+1).testBit (i-k):=by
  rw[hx',Nat.testBit_two_pow_mul_add _ hp,if_neg hi]
 rw[ex,ey];by_cases hik:i=k
 ·subst hik;have:i<64:=hk;simp[this,Nat.testBit_zero]
 obtain⟨j,hj⟩: ∃j,i-k=j+1:=⟨i-k-1,by omega⟩;have hne: ¬k=i:=by omega
 rw[hj,Nat.testBit_succ,Nat.testBit_succ];have e1:(2*q+1)/2=q:=by omega
 have e2:2*q/2=q:=by omega
 rw[e1,e2]
 have h64:q.testBit j=true→i<64:=fun h=>by
  apply Nat.lt_of_not_le;intro hge;have e:(2:Nat)^64=18446744073709551616:=by decide
  have hxi:=Nat.testBit_lt_two_pow (x:=x) (i:=i) (Nat.lt_of_lt_of_le hx (by
   have:=Nat.pow_le_pow_right (n:=2) Om hge;omega))
  rw[ex,hj,Nat.testBit_succ,e1,h]at hxi;cases hxi
 cases hq:q.testBit j with
 |false=>simp[hne]
 |true=>simp[hne,h64 hq]
theorem tab_all: ∀k:Fin 64,tab_math_bits_deBruijn64tab[(2^k.val*285870213051353865 %18446744073709551616)/288230376151711744]? =some (k.val:Int):=by decide+kernel
theorem tz_spec{N x k:Nat}(hx:x<18446744073709551616)(h1:x.testBit k=true)(h2: ∀j,j<k→x.testBit j=false)(hk:k<64):F_168 N (x:Int)=some (k:Int):=by
 have h0:x≠0:=fun h=>by rw[h]at h1;simp at h1
 have hn:(((x:Int))==0)=false:=by simp;exact h0
 have e1:IntKind.wrap .u64 (0-(x:Int))=((18446744073709551616-x:Nat):Int):=by
  simp only[IntKind.wrap,IntKind.signed,IntKind.bits];simp;omega
 have hp:(2:Nat)^k≤2^63:=Nat.pow_le_pow_right Om Om
 have e2:IntKind.wrap .u64 (((2^k:Nat):Int)*285870213051353865)=((2^k*285870213051353865 %18446744073709551616:Nat):Int):=by
  simp only[IntKind.wrap,IntKind.signed,IntKind.bits];simp
 unfold F_168;rw[hn];simp only[Bool.false_eq_true,if_false,e1];rw[iand_u64 hx Om,and_neg hx h1 h2,e2];have e3:=shr_u64 (a:=2^k*285870213051353865 %18446744073709551616) (k:=58) Om;rw[show((58:Nat):Int)=58 from rfl]at e3;simp only[Nat.reducePow]at e3;rw[e3];have e4:=tab_all ⟨k,hk⟩;simp only at e4;simp only[idx_of e4,bind,Option.bind_some];rw[wrap64 Om Om]
theorem has_big{j:Nat}{m:LI}(h:m.length≤j/64):has m j=false:=by
 unfold has;rw[List.getD,List.getElem?_eq_none h];simp
theorem after_spec{N n:Nat}{i:Int}{m:LI}(hN:4294967296≤N)(hm:MkR n m)(hn:n≤65536)(h1: -1≤i)(h2:i<n):
 ∃r,F_5 N m (n:Int) i=some r∧((r= -1∧ ∀j:Nat,i<(j:Int)→has m j=false)∨ ∃j:Nat,r=(j:Int)∧i<(j:Int)∧has m j=true∧ ∀j':Nat,i<(j':Int)→j'<j→has m j'=false):=by
 obtain⟨p,hp⟩: ∃p:Nat,i+1=(p:Int):=⟨(i+1).toNat,by omega⟩
 have e1:w64 (imax i (-1)+1)=(p:Int):=by
  have:imax i (-1)=i:=by
   unfold imax;by_cases h: -1>i
   ·omega
   rw[if_neg h]
  rw[this,hp,w64,wrap64]<;>omega
 have e2:w64 ((p:Int).tdiv 64)=((p/64:Nat):Int):=by
  have:(p:Int).tdiv 64=((p/64:Nat):Int):=by rw[Int.tdiv_eq_ediv_of_nonneg Om];omega
  rw[this,w64,wrap64]<;>omega
 have e3:w64 ((p:Int).tmod 64)=((p %64:Nat):Int)∧(p:Int).tmod 64=((p %64:Nat):Int):=by
  have:(p:Int).tmod 64=((p %64:Nat):Int):=by rw[Int.tmod_eq_emod_of_nonneg Om];omega
  refine⟨?_,this⟩;rw[this,w64,wrap64]<;>omega
 have hml:m.length≤1024:=by rw[hm.len];omega
 unfold F_5;have hlt: ¬i≥(n:Int):=by omega
 simp only[F_43,bind,Option.bind_some,decide_eq_false hlt,Bool.false_eq_true,if_false,e1,e2]
 obtain⟨r,hr,hq⟩:=iterO_while (f:=fun s=>F_146 N m (n:Int) i s) (fun s=> ∃k:Nat,s=(k:Int)∧p/64≤k∧k≤m.length+p/64∧ ∀j':Nat,p≤j'→j'<64*k→has m j'=false)
  (fun s=>m.length+p/64-s.toNat) (fun(r:Unit ⊕ Int)=>match r with
   | .inl _=> ∀j:Nat,i<(j:Int)→has m j=false
   | .inr z=> ∃j:Nat,z=(j:Int)∧i<(j:Int)∧has m j=true∧ ∀j':Nat,i<(j':Int)→j'<j→has m j'=false) (fun s hI=>by
   obtain⟨k,rfl,hk1,hk2,hk3⟩:=hI;unfold F_146;simp only[F_58,bind,Option.bind_some,e1,e2];by_cases hkl:k<m.length
   ·have hw:=hm.rng _ (List.getElem_mem hkl);obtain⟨a,ha⟩: ∃a:Nat,m[k]=(a:Int):=⟨m[k].toNat,by omega⟩;have hx:m[k]? =some (a:Int):=by rw[List.getElem?_eq_getElem hkl,ha]
    have ha':a<18446744073709551616:=by omega
    have hhas: ∀c,c<64→has m (64*k+c)=a.testBit c:=fun c hc=>by
     have q1:(64*k+c)/64=k:=by omega
     have q2:(64*k+c) %64=c:=by omega
     simp[has,q1,q2,List.getD,hx]
    obtain⟨b,hb,hb2,hbt⟩: ∃b:Nat,(if((k:Int)==((p/64:Nat):Int))=true then(nn ((p:Int).tmod 64) >>= fun _=>nn ((p:Int).tmod 64) >>= fun _=>some (shlI .u64 (shrI .u64 (a:Int) ((p:Int).tmod 64)) ((p:Int).tmod 64)))else some (a:Int))=some (b:Int)∧b<18446744073709551616∧
     ∀c,c<64→b.testBit c=(decide (p≤64*k+c)&&a.testBit c):=by
     by_cases hk0:k=p/64
     ·have q:((k:Int)==((p/64:Nat):Int))=true:=by simp[hk0]
      have hnn:nn ((p %64:Nat):Int)=some ():=by unfold nn;rw[if_pos Om]
      have hle:a/2^(p %64)*2^(p %64)≤a:=Nat.div_mul_le_self _ _;refine⟨a/2^(p %64)*2^(p %64),?_,by omega,fun c hc=>?_⟩
      ·rw[if_pos q,e3.2,hnn,shr_u64 Om];simp only[bind,Option.bind_some,shlI,IntKind.bits,Int.toNat_natCast,Nat.min_eq_left (show p %64≤64 by omega)];have e4:(((a/2^(p %64):Nat):Int)*2^(p %64))=((a/2^(p %64)*2^(p %64):Nat):Int):=by push_cast;rfl
       rw[e4,wrapN Om]
      rw[Nat.testBit_mul_two_pow,Nat.testBit_div_two_pow];by_cases hc2:p %64≤c
      ·have q3:p %64+(c-p %64)=c:=by omega
       have q4:p≤64*k+c:=by omega
       rw[show c-p %64+p %64=c by omega];simp[hc2,q4]
      have q4: ¬p≤64*k+c:=by omega
      simp[hc2,q4]
     have q:((k:Int)==((p/64:Nat):Int))=false:=by simp;omega
     refine⟨a,by rw[q];rfl,ha',fun c hc=>?_⟩;have q4:p≤64*k+c:=by omega
     simp[q4]
    simp only[show((k:Int)<(m.length:Int)) by omega,decide_true,if_true,idx_of hx,Option.bind_some];simp only[bind]at hb;rw[hb];simp only[Option.bind_some];by_cases hb0:b=0
    ·left;subst hb0;refine⟨((k+1:Nat):Int),?_,⟨k+1,rfl,by omega,by omega,fun j' h3 h4=>?_⟩,by simp;omega⟩
     ·simp only[show((((0:Nat):Int)) != 0)=false from rfl,Bool.false_eq_true,if_false,Option.bind_some];rw[w64_succ Om]
     by_cases hj:j'<64*k
     ·exact hk3 j' h3 hj
     obtain⟨c,rfl⟩: ∃c,j'=64*k+c:=⟨j'-64*k,by omega⟩;have:=hbt c Om;rw[Nat.zero_testBit]at this;rw[hhas c Om];have q4:decide (p≤64*k+c)=true:=by simp;omega
     rw[q4]at this;simpa using this.symm
    right;obtain⟨c,hc1,hc2⟩:=low_bit hb0
    have hc:c<64:=by
     apply Nat.lt_of_not_le;intro h
     have:=Nat.testBit_lt_two_pow (x:=b) (i:=c) (Nat.lt_of_lt_of_le hb2 (by
      have:=Nat.pow_le_pow_right (n:=2) Om h;have e:(2:Nat)^64=18446744073709551616:=by decide
      omega))
     rw[this]at hc1;cases hc1
    have hbc:=hbt c hc;rw[hc1]at hbc;have hbc':=(Bool.and_eq_true _ _).mp hbc.symm;have hpc:p≤64*k+c:=by simpa using hbc'.1
    refine⟨.inr (((64*k+c:Nat)):Int),?_,64*k+c,rfl,by omega,by rw[hhas c hc];exact hbc'.2,fun j' h3 h4=>?_⟩
    ·have q5:(((b:Nat):Int) != 0)=true:=by simp;omega
     have e5:w64 (64*(k:Int))=((64*k:Nat):Int):=by rw[w64,wrap64]<;>omega
     have e6:w64 (((64*k:Nat):Int)+(c:Int))=((64*k+c:Nat):Int):=by rw[w64,wrap64]<;>omega
     simp only[q5,if_true,tz_spec (N:=N) hb2 hc1 hc2 hc,Option.bind_some,e5,e6]
    by_cases hj:j'<64*k
    ·exact hk3 j' Om hj
    obtain⟨c',rfl⟩: ∃c',j'=64*k+c':=⟨j'-64*k,by omega⟩;have:=hbt c' Om;rw[hc2 c' Om]at this;rw[hhas c' Om];have q4:decide (p≤64*k+c')=true:=by simp;omega
    rw[q4]at this;simpa using this.symm
   right;refine⟨.inl (),by simp[show¬((k:Int)<(m.length:Int)) by omega],fun j hj=>?_⟩;by_cases hj2:j<64*k
   ·exact hk3 j Om hj2
   exact has_big Om)
  (N:=N) (s:=((p/64:Nat):Int)) ⟨p/64,rfl,by omega,by omega,fun j' h3 h4=>by omega⟩ (by simp;omega)
 rw[hr]
 cases r with
 |inl u=>exact⟨-1,rfl,.inl ⟨rfl,hq⟩⟩
 |inr z=>exact⟨z,rfl,.inr hq⟩
def lst(f:Nat→Bool)(n:Nat):LI:=((List.range n).filter f).map fun(j:Nat)=>(j:Int)
theorem lst_succ(f:Nat→Bool)(n:Nat):lst f (n+1)=if f n then lst f n++ [(n:Int)]else lst f n:=by
 unfold lst;rw[List.range_succ,List.filter_append,List.map_append];cases hf:f n<;>simp[hf]
theorem lst_len(f:Nat→Bool)(n:Nat):(lst f n).length≤n:=by
 unfold lst;rw[List.length_map];have:=List.length_filter_le f (List.range n);simpa using this
theorem lst_gap{f:Nat→Bool}{a:Nat}(ha:f a=true): ∀{b:Nat},a<b→(∀c,a<c→c<b→f c=false)→lst f b=lst f a++ [(a:Int)]
 |0,h,_=>by omega
 |b+1,h,hg=>by
   rw[lst_succ];by_cases hb:b=a
   ·subst hb;simp[ha]
   rw[hg b Om Om];simp only[Bool.false_eq_true,if_false];exact lst_gap ha Om fun c h1 h2=>hg c h1 Om
theorem lst_none{f:Nat→Bool}: ∀{n:Nat},(∀c,c<n→f c=false)→lst f n= []
 |0,_=>rfl
 |n+1,h=>by rw[lst_succ,h n Om];simpa using lst_none fun c hc=>h c Om
theorem lst_first{f:Nat→Bool}{a:Nat}(h: ∀c,c<a→f c=false):lst f a= []:=lst_none h
theorem lst_congr{f g:Nat→Bool}: ∀{n:Nat},(∀c,c<n→f c=g c)→lst f n=lst g n
 |0,_=>rfl
 |n+1,h=>by rw[lst_succ,lst_succ,h n Om,lst_congr fun c hc=>h c Om]
theorem list_spec{N n:Nat}{m:LI}(hN:4294967296≤N)(hm:MkR n m)(hn:n≤65536)(h0:0<n)(hb: ∀j,n≤j→has m j=false):F_21 N m (n:Int)=some (lst (has m) n):=by
 unfold F_21;obtain⟨r0,e0,q0⟩:=after_spec (i:= -1) hN hm hn Om Om;simp only[e0,bind,Option.bind_some]
 obtain⟨r,hr,hq⟩:=iterO_while (f:=fun s=>F_71 N m (n:Int) s.1 s.2) (fun s=>(s.2= -1∧s.1=lst (has m) n)∨ ∃j:Nat,s.2=(j:Int)∧j<n∧has m j=true∧s.1=lst (has m) j)
  (fun s=>if s.2<0 then 0 else n-s.2.toNat) (fun r=>r=lst (has m) n) (fun s hI=>by
   obtain⟨out,cur⟩:=s;simp only at hI ⊢;unfold F_71;rcases hI with⟨rfl,rfl⟩|⟨j,rfl,hj,hhj,rfl⟩
   ·right;exact⟨_,by simp,rfl⟩
   left;have hlen:=lst_len (has m) j;obtain⟨r,e1,q1⟩:=after_spec (i:=(j:Int)) hN hm hn Om Om;refine⟨(lst (has m) j++ [(j:Int)],r),?_,?_,?_⟩
   ·simp only[show((j:Int)≥0) by omega,decide_true,if_true,bind];rw[app_eq (by simp;omega)];simp only[Option.bind_some,e1]
   ·rcases q1 with⟨rfl,h2⟩|⟨j',rfl,h2,h3,h4⟩
    ·exact .inl ⟨rfl,(lst_gap hhj hj fun c h5 h6=>h2 c Om).symm⟩
    have hjn:j'<n:=by
     apply Nat.lt_of_not_le;intro h;rw[hb j' h]at h3;cases h3
    exact .inr ⟨j',rfl,hjn,h3,(lst_gap hhj Om fun c h5 h6=>h4 c Om h6).symm⟩
   rcases q1 with⟨rfl,h2⟩|⟨j',rfl,h2,h3,h4⟩
   ·simp only[show((-1:Int)<0) by decide,if_true,show¬((j:Int)<0) by omega,if_false];omega
   simp only[show¬((j:Int)<0) by omega,show¬((j':Int)<0) by omega,if_false];omega)
  (N:=N) (s:=([],r0)) (by
   rcases q0 with⟨rfl,h2⟩|⟨j',rfl,h2,h3,h4⟩
   ·exact .inl ⟨rfl,(lst_none fun c hc=>h2 c Om).symm⟩
   have hjn:j'<n:=by
    apply Nat.lt_of_not_le;intro h;rw[hb j' h]at h3;cases h3
   exact .inr ⟨j',rfl,hjn,h3,(lst_first fun c hc=>h4 c Om hc).symm⟩) (by simp only;split<;>omega)
 rw[show iterO N (fun s=>F_71 N m (n:Int) s.1 s.2) ([],r0)=_ from hr,hq];rfl
open Go Go.Eng
structure Mk(n:Nat)(m acc:LI):Prop where
 rel:Rel n m acc
 hb: ∀j,n≤j→has m j=false
 ac:Acc n acc
 c:cnt m=acc.length
theorem Mk.has{n:Nat}{m acc:LI}(h:Mk n m acc){j:Nat}(hj:j<n):has m j=decide ((j:Int)∈acc):=by
 have:=h.rel.at_ j hj;by_cases hm:(j:Int)∈acc
 ·rw[this.2 hm];simp[hm]
 cases hh:Go.Proofs.YtchjfkdljnmmgaaGreatDoor.has m j with
 |false=>simp[hm]
 |true=>exact absurd (this.1 hh) hm
theorem put_mk{N n:Nat}{m acc:LI}{x:Int}(h:Mk n m acc)(h0:0≤x∧x<n)(hn:n≤65536): ∃m',F_33 N m (n:Int) x=some (m',decide (x∉acc))∧Mk n m' (ins acc x):=by
 obtain⟨m',h1,h2,h3⟩:=put_cnt (N:=N) h.rel h0 hn h.c;refine⟨m',h1,h2,fun j hj=>?_,h.ac.ins h0,h3⟩;obtain⟨i,rfl⟩: ∃i:Nat,x=(i:Int):=⟨x.toNat,by omega⟩;obtain⟨m'',e1,_,e2,_⟩:=put_spec (N:=N) h.rel.mkr (show i<n by omega) hn;rw[h1]at e1;have e3:=(Prod.mk.inj (Option.some.inj e1)).1;subst e3;rw[e2 j,h.hb j hj];have: ¬j=i:=by omega
 simp[this]
theorem new_mk{N n:Nat}(hn:n≤65536): ∃m,F_148 N (n:Int)=some (.inr m)∧Mk n m []:=by
 obtain⟨m,h1,h2,h3⟩:=new_spec (N:=N) hn;refine⟨m,h1,⟨h2,fun j _=>by simp[h3]⟩,fun j _=>h3 j,acc_nil n,?_⟩
 have: ∀w∈m,pop w.toNat=0:=by
  intro w hw;obtain⟨i,hi⟩:=List.mem_iff_getElem?.1 hw;have hwr:=h2.rng w hw
  have hz: ∀c,c<64→w.toNat.testBit c=false:=fun c hc=>by
   have:=h3 (64*i+c);unfold has at this;rw[show(64*i+c)/64=i by omega,show(64*i+c) %64=c by omega,List.getD,hi]at this;exact this
  unfold pop;rw[List.countP_eq_zero];intro c hc;have:=hz c (by simpa using hc);simp[this]
 unfold cnt;clear h1 h2 h3
 induction m with
 |nil=>rfl
 |cons w m ih=>
   have h1:=this w Sm;have h2:=ih (fun x hx=>this x (by simp[hx]));simp only[List.map_cons,List.sum_cons,h1,h2,List.length_nil]at h2 ⊢
section
variable {N:Nat}{rows:List LI}{rule entry:LI}
theorem marked_spec{list:LI}(hN:4294967296≤N)(hn:rows.length≤65536)(hl:list.length<4294967296)(hx: ∀x∈list,0≤x∧x<(rows.length:Int)):
 ∃m,F_50 N rows rule entry list=some (.inr m)∧Mk rows.length m (insAll [] list):=by
 obtain⟨m0,e0,q0⟩:=new_mk (N:=N) hn;unfold F_50;simp only[e0,bind,Option.bind_some]
 obtain⟨m,h1,h2⟩:=loop_inv (f:=fun s=>F_159 N rows list s.1 s.2) (fun i (s:LI)=>((i:Int),s)) id list (fun i m=>Mk rows.length m (insAll [] (list.take i))) (N:=N) (s:=m0) Om (by simpa[insAll]using q0)
  (fun i x m hxi hI=>by
   have hi:=lt_len hxi;obtain⟨m',e1,q1⟩:=put_mk (N:=N) hI (hx x (List.mem_of_getElem? hxi)) hn;refine⟨m',?_,by rw[insAll_take hxi];exact q1⟩;unfold F_159;simp only[show((i:Int)<(list.length:Int)) by omega,decide_true,if_true,idx_of hxi,e1,bind,Option.bind_some];rw[w64_succ Om])
  (fun s _=>by unfold F_159;simp)
 rw[List.take_length]at h2;refine⟨m,?_,h2⟩;rw[show iterO N (fun s=>F_159 N rows list s.1 s.2) (0,m0)=_ from h1];rfl
inductive Rch(rows:List LI)(entry:LI):Int→Prop
 |zero:Rch rows entry 0
 |ent {x:Int}:x∈entry→Rch rows entry x
 |step {s y:Int}:Rch rows entry s→y∈rows.getD s.toNat []→Rch rows entry y
theorem Rch.rng(h:Rt rows rule entry){s:Int}(hr:Rch rows entry s):0≤s∧s<rows.length:=by
 induction hr with
 |zero=>have:=h.n1;omega
 |ent hx=>exact h.ent _ hx
 |step _ hy ih=>
   obtain⟨r,_,h2,h3,h4⟩:=row_of h ih;rw[h2]at hy;exact h4 _ hy
theorem row0(h:Rt rows rule entry){y:Int}(hy:y∈rows.getD (0:Int).toNat []):y=0:=by
 have:rows.getD (0:Int).toNat []=List.replicate 256 0:=by show rows.getD 0 []=_;rw[List.getD,h.r0];rfl
 rw[this]at hy;exact List.eq_of_mem_replicate hy
theorem meas{n a w:Nat}(h:a+1≤n):(n-(a+1))*257+(w+256)<(n-a)*257+(w+1):=by omega
theorem reached_spec(hN:4294967296≤N)(hs:Sz rows rule entry)(h:Rt rows rule entry):
 ∃m acc,F_34 N rows rule entry=some (.inr m)∧Mk rows.length m acc∧ ∀s,s∈acc↔Rch rows entry s:=by
 have hn2:=h.n2;have hn1:=h.n1;have he2:=h.e2;obtain⟨m0,e0,q0⟩:=marked_spec (rule:=rule) (entry:=entry) (list:=[0]) hN (show rows.length≤65536 by omega) Sm (fun x hx=>by simp at hx;subst hx;omega);have i0:insAll [] [(0:Int)]= [0]:=rfl;rw[i0]at q0;unfold F_34 F_197;simp only[e0,bind,Option.bind_some];rw[app_eq (by simp;omega)];simp only[Option.bind_some,List.nil_append]
 obtain⟨r,hr,acc,hq1,hq2⟩:=iterO_while (f:=fun s=>F_106 N rows s.1 s.2)
  (fun s=> ∃acc,Mk rows.length s.1 acc∧(0:Int)∈acc∧(∀x∈acc,Rch rows entry x)∧(∀x∈s.2,Rch rows entry x)∧(∀x∈entry,x∈acc∨x∈s.2)∧(∀x∈acc,∀y∈rows.getD x.toNat [],y∈acc∨y∈s.2)∧(rows.length-cnt s.1)*257+s.2.length≤rows.length*257+entry.length)
  (fun s=>(rows.length-cnt s.1)*257+s.2.length) (fun r=> ∃acc,Mk rows.length r acc∧ ∀s,s∈acc↔Rch rows entry s) (fun s hI=>by
   obtain⟨m,work⟩:=s;obtain⟨acc,k1,k2,k3,k4,k5,k6,k7⟩:=hI;simp only at k1 k4 k5 k6 k7 ⊢
   cases work with
   |nil=>
     right;refine⟨m,by unfold F_106;simp,acc,k1,fun s=>⟨k3 s,fun hr=>?_⟩⟩
     induction hr with
     |zero=>exact k2
     |ent hx=>exact(k5 _ hx).elim id fun h=>by simp at h
     |step _ hy ih=>exact(k6 _ ih _ hy).elim id fun h=>by simp at h
   |cons x work=>
     left;have hxr:=(k4 x Sm).rng h;obtain⟨m',e1,q1⟩:=put_mk (N:=N) k1 hxr Om;obtain⟨row,r1,r2,r3,r4⟩:=row_of h hxr;have hw:=hs.w row r3;have hlen:=k1.ac.len;have hc:=k1.c;have hc':=q1.c;have hlen':=q1.ac.len
     have hsl:slc (x::work) 1 ((x::work).length:Int)=some work:=by
      unfold slc;rw[if_pos (by simp;omega)];simp
     have hix:idx (x::work) 0=some x:=by simp[idx]
     by_cases hm:x∈acc
     ·refine⟨(m',work),?_,⟨acc,?_,k2,k3,fun y hy=>k4 y (by simp[hy]),fun y hy=>?_,fun y hy z hz=>?_,?_⟩,?_⟩
      ·unfold F_106;have hpos:decide (((x::work).length:Int)>0)=true:=decide_eq_true (by simp only[List.length_cons];omega);have hf:decide (x∉acc)=false:=by simp[hm]
       simp only[hpos,if_true,hix,hsl,e1,hf,bind,Option.bind_some,Bool.false_eq_true,if_false]
      ·have:ins acc x=acc:=by simp[ins,hm]
       rwa[this]at q1
      ·rcases k5 y hy with h1|h1
       ·exact .inl h1
       rcases List.mem_cons.1 h1 with rfl|h1
       ·exact .inl hm
       exact .inr h1
      ·rcases k6 y hy z hz with h1|h1
       ·exact .inl h1
       rcases List.mem_cons.1 h1 with rfl|h1
       ·exact .inl hm
       exact .inr h1
      ·have:ins acc x=acc:=by simp[ins,hm]
       rw[this]at hc';simp only[hc',List.length_cons,hc]at k7 ⊢;omega
      have:ins acc x=acc:=by simp[ins,hm]
      rw[this]at hc';simp only[hc',List.length_cons,hc];omega
     have hi:ins acc x=acc++ [x]:=by simp[ins,hm]
     have hl1:(ins acc x).length=acc.length+1:=by rw[hi];simp
     refine⟨(m',work++row),?_,⟨ins acc x,q1,by rw[hi];simp[k2],fun y hy=>?_,fun y hy=>?_,fun y hy=>?_,fun y hy z hz=>?_,?_⟩,?_⟩
     ·unfold F_106
      have hbnd:work.length+row.length≤4294967296:=by
       simp only[List.length_cons]at k7;omega
      have hpos:decide (((x::work).length:Int)>0)=true:=decide_eq_true (by simp only[List.length_cons];omega);simp only[hpos,if_true,hix,hsl,e1,decide_eq_true hm,r1,app_eq hbnd,bind,Option.bind_some]
     ·rcases mem_ins.1 hy with h1|rfl
      ·exact k3 y h1
      exact k4 y Sm
     ·rcases List.mem_append.1 hy with h1|h1
      ·exact k4 y (by simp[h1])
      exact(k4 x Sm).step (by rw[r2];exact h1)
     ·rcases k5 y hy with h1|h1
      ·exact .inl (mem_ins.2 (.inl h1))
      rcases List.mem_cons.1 h1 with rfl|h1
      ·exact .inl (mem_ins.2 (.inr rfl))
      exact .inr (by simp[h1])
     ·rcases mem_ins.1 hy with h2|rfl
      ·rcases k6 y h2 z hz with h1|h1
       ·exact .inl (mem_ins.2 (.inl h1))
       rcases List.mem_cons.1 h1 with rfl|h1
       ·exact .inl (mem_ins.2 (.inr rfl))
       exact .inr (by simp[h1])
      rw[r2]at hz;exact .inr (by simp[hz])
     ·simp only[hc',hl1,List.length_append,List.length_cons,hc,hw]at k7 hlen' ⊢;exact Nat.le_trans (Nat.le_of_lt (meas hlen')) k7
     simp only[hc',hl1,List.length_append,List.length_cons,hc,hw]at k7 hlen' ⊢;exact meas hlen')
  (N:=N) (s:=(m0,entry)) ⟨[0],q0,by simp,fun x hx=>by simp at hx;subst hx;exact .zero,fun x hx=> .ent hx,fun x hx=> .inr hx,fun x hx y hy=>by
   simp at hx;subst hx;exact .inl (by rw[row0 h hy];simp),by have:=q0.c;simp only[this,List.length_cons,List.length_nil];omega⟩ (by have:=q0.c;simp only[this,List.length_cons,List.length_nil];omega)
 refine⟨r,acc,?_,hq1,hq2⟩;rw[show iterO N (fun s=>F_106 N rows s.1 s.2) (m0,entry)=_ from hr];rfl
def bt(l:List Bool)(j:Nat):Bool:=l.getD j false
theorem bt_set{l:List Bool}{i j:Nat}(hi:i<l.length)(v:Bool):bt (l.set i v) j=if j=i then v else bt l j:=by
 unfold bt;by_cases h:j=i
 ·subst h;rw[List.getD,List.getElem?_set_self hi,if_pos rfl];rfl
 rw[List.getD,List.getElem?_set_ne Om,if_neg h];rfl
theorem idx_bt{l:List Bool}{i:Nat}(hi:i<l.length):idx l (i:Int)=some (bt l i):=by
 rw[idx_nat hi];unfold bt;rw[List.getD,List.getElem?_eq_getElem hi];rfl
theorem bt_ext{a b:List Bool}(hl:a.length=b.length)(h: ∀j,j<a.length→bt a j=bt b j):a=b:=by
 refine List.ext_getElem hl fun i h1 h2=>?_;have:=h i h1;unfold bt at this;rw[List.getD,List.getElem?_eq_getElem h1,List.getD,List.getElem?_eq_getElem h2]at this;exact this
theorem cnt_lt: ∀{a b:List Bool},a.length=b.length→(∀j,bt a j=true→bt b j=true)→a≠b→a.countP id<b.countP id
 | [],[],_,_,h=>absurd rfl h
 | [],_::_,h,_,_=>by simp at h
 |_::_,[],h,_,_=>by simp at h
 |x::a,y::b,hl,hm,hne=>by
   have hl':a.length=b.length:=by simpa using hl
   have hm': ∀j,bt a j=true→bt b j=true:=fun j hj=>hm (j+1) hj;have h0:x=true→y=true:=hm 0;rw[List.countP_cons,List.countP_cons];by_cases hab:a=b
   ·subst hab;have hxy:x≠y:=fun e=>hne (by rw[e]);cases x<;>cases y<;>simp_all
   have:=cnt_lt hl' hm' hab;cases x<;>cases y<;>simp_all<;>omega
end
open Go Go.Eng
section
variable {N:Nat}{rows:List LI}{rule entry:LI}
def Sound(P:Int→Prop)(n:Nat)(l:List Bool):Prop:= ∀j,j<n→bt l j=true→P (j:Int)
def Mono(a b:List Bool):Prop:= ∀j,bt a j=true→bt b j=true
theorem Mono.refl(a:List Bool):Mono a a:=fun _ h=>h
theorem Mono.trans{a b c:List Bool}(h:Mono a b)(h':Mono b c):Mono a c:=fun j hj=>h' j (h j hj)
theorem Mono.anti{a b:List Bool}(hl:a.length=b.length)(h:Mono a b)(h':Mono b a):a=b:=bt_ext hl fun j _=>by
 cases ha:bt a j with
 |true=>exact(h j ha).symm
 |false=>
   cases hb:bt b j with
   |false=>rfl
   |true=>rw[h' j hb]at ha;cases ha
theorem setI_bt{l:List Bool}{i:Nat}(hi:i<l.length)(v:Bool):setI l (i:Int) v=some (l.set i v):=setI_nat hi
def fwd(rows:List LI)(l:List Bool):Prop:= ∀i,i<rows.length→bt l i=true→ ∀y∈rows.getD i [],bt l y.toNat=true
theorem row_nat(h:Rt rows rule entry){i:Nat}(hi:i<rows.length): ∃r,idx rows (i:Int)=some r∧rows.getD i []=r∧r∈rows∧ ∀y∈r,0≤y∧y<rows.length:=by
 obtain⟨r,h1,h2,h3,h4⟩:=row_of h (x:=(i:Int)) Om;exact⟨r,h1,by simpa using h2,h3,h4⟩
theorem refReached_row{i:Nat}{l:List Bool}{row:LI}(hN:4294967296≤N)(hw:row.length=256)(hl:l.length=rows.length)(hi:i<rows.length)(hr: ∀y∈row,0≤y∧y<rows.length):
 ∃l',iterO N (fun s=>F_77 N (i:Int) row s.1 s.2) (l,0)=some l'∧l'.length=rows.length∧ ∀j,bt l' j=(bt l j||(bt l i&&decide ((j:Int)∈row))):=by
 obtain⟨s,h1,h2,h3⟩:=loop_inv (f:=fun s=>F_77 N (i:Int) row s.1 s.2) (fun c (s:List Bool)=>(s,(c:Int))) id row (fun c s=>s.length=rows.length∧ ∀j,bt s j=(bt l j||(bt l i&&decide ((j:Int)∈row.take c)))) (N:=N) (s:=l) Om
  ⟨hl,fun j=>by simp⟩
  (fun c x s hx hI=>by
   obtain⟨k1,k2⟩:=hI;have hc:=lt_len hx;have hxr:=hr x (List.mem_of_getElem? hx);obtain⟨v,rfl⟩: ∃v:Nat,x=(v:Int):=⟨x.toNat,by omega⟩;have hvl:v<s.length:=by omega
   have hil:i<s.length:=by omega
   have hsi:bt s i=bt l i:=by rw[k2 i];cases bt l i<;>simp
   have htk: ∀j:Nat,decide ((j:Int)∈row.take (c+1))=(decide ((j:Int)∈row.take c)||decide (j=v)):=fun j=>by
    rw[List.take_add_one,hx];have e:((j:Int)=(v:Int))↔j=v:=by omega
    by_cases h1:(j:Int)∈row.take c<;>by_cases h2:j=v<;>simp[h1,h2,e]
   by_cases hb:bt l i=true
   ·refine⟨s.set v true,?_,by simpa using k1,fun j=>?_⟩
    ·unfold F_77;simp only[show((c:Int)<256) by omega,decide_true,if_true,idx_of hx,idx_bt hil,hsi,hb,idx_bt hvl,setI_bt hvl,bind,Option.bind_some];rw[w64_succ Om]
    rw[bt_set hvl,htk,k2 j,hb];by_cases h1:j=v<;>simp[h1]
   have hb:bt l i=false:=by simpa using hb
   refine⟨s,?_,k1,fun j=>by rw[k2 j,hb];simp⟩;unfold F_77;simp only[show((c:Int)<256) by omega,decide_true,if_true,idx_of hx,idx_bt hil,hsi,hb,bind,Option.bind_some,Bool.false_eq_true,if_false];rw[w64_succ Om])
  (fun s _=>by unfold F_77;simp[hw])
 rw[List.take_length]at h3;exact⟨s,h1,h2,h3⟩
theorem refReached_round{l:List Bool}(hN:4294967296≤N)(hs:Sz rows rule entry)(h:Rt rows rule entry)(hl:l.length=rows.length):
 ∃l',iterO N (fun s=>F_125 N rows s.1 s.2) (l,0)=some l'∧l'.length=rows.length∧Mono l l'∧(Sound (Rch rows entry) rows.length l→Sound (Rch rows entry) rows.length l')∧(fwd rows l→l'=l)∧(l'=l→fwd rows l):=by
 have hn2:=h.n2
 obtain⟨s,h1,h2,h3,h4,h5,h6⟩:=loop_inv (f:=fun s=>F_125 N rows s.1 s.2) (fun i (s:List Bool)=>(s,(i:Int))) id rows
  (fun i s=>s.length=rows.length∧Mono l s∧(Sound (Rch rows entry) rows.length l→Sound (Rch rows entry) rows.length s)∧(fwd rows l→s=l)∧(s=l→ ∀i',i'<i→bt l i'=true→ ∀y∈rows.getD i' [],bt l y.toNat=true)) (N:=N) (s:=l) Om
  ⟨hl,Mono.refl l,id,fun _=>rfl,fun _ i' hi'=>absurd hi' Om⟩
  (fun i r s hr hI=>by
   obtain⟨k1,k2,k3,k4,k5⟩:=hI;have hi:=lt_len hr;obtain⟨row,r1,r2,r3,r4⟩:=row_nat h hi
   have hrr:r=row:=by
    have:=idx_of hr;rw[r1]at this;exact(Option.some.inj this).symm
   subst hrr;obtain⟨s',q1,q2,q3⟩:=refReached_row (N:=N) (rows:=rows) hN (hs.w r r3) k1 hi r4;have hm:Mono s s':=fun j hj=>by rw[q3 j,hj];rfl
   refine⟨s',?_,q2,k2.trans hm,fun hsd j hj hb=>?_,fun hf=>?_,fun he i' hi' hb y hy=>?_⟩
   ·unfold F_125;simp only[show((i:Int)<(rows.length:Int)) by omega,decide_true,if_true,idx_of hr,bind,Option.bind_some];rw[q1];simp only[Option.bind_some];rw[w64_succ Om]
   ·rw[q3 j]at hb;rcases Bool.or_eq_true_iff.1 hb with hb|hb
    ·exact k3 hsd j hj hb
    obtain⟨hb1,hb2⟩:=(Bool.and_eq_true _ _).mp hb;exact(k3 hsd i hi hb1).step (by rw[Int.toNat_natCast,r2];simpa using hb2)
   ·have hsl:=k4 hf;subst hsl;refine bt_ext Om fun j hj=>?_;rw[q3 j]
    cases hbi:bt s i with
    |false=>simp
    |true=>
      by_cases hjr:(j:Int)∈r
      ·have:=hf i hi hbi (j:Int) (by rw[r2];exact hjr);rw[Int.toNat_natCast]at this;simp[this]
      simp[hjr]
   subst he;have hse:s=s':=Mono.anti Om hm k2;by_cases hii:i'=i
   ·subst hii;rw[r2]at hy;have hyr:=r4 y hy;obtain⟨v,rfl⟩: ∃v:Nat,y=(v:Int):=⟨y.toNat,by omega⟩;rw[Int.toNat_natCast,q3 v,hse,hb];simp[hy]
   exact k5 hse i' Om hb y hy)
  (fun s _=>by unfold F_125;simp)
 exact⟨s,h1,h2,h3,h4,h5,fun he i hi hb y hy=>h6 he i hi hb y hy⟩
theorem cntB_le(l:List Bool):l.countP id≤l.length:=List.countP_le_length
theorem refReached_spec(hN:4294967296≤N)(hs:Sz rows rule entry)(h:Rt rows rule entry):
 ∃l,F_8 N rows rule entry=some l∧l.length=rows.length∧ ∀j,j<rows.length→(bt l j=true↔Rch rows entry (j:Int)):=by
 have hn2:=h.n2;have hn1:=h.n1;have he2:=h.e2;have hl0:0<(List.replicate rows.length false).length:=by simp;omega
 have z0: ∀j,bt (List.replicate rows.length false) j=false:=fun j=>by
  unfold bt;rw[List.getD,List.getElem?_replicate];split<;>rfl
 have sd0:Sound (Rch rows entry) rows.length ((List.replicate rows.length false).set 0 true):=fun j hj hb=>by
  rw[bt_set hl0,z0]at hb;by_cases hj0:j=0
  ·subst hj0;exact .zero
  rw[if_neg hj0]at hb;cases hb
 unfold F_8;rw[mk_eq Om];have i0:=idx_bt (l:=List.replicate rows.length false) (i:=0) hl0;have s0:=setI_bt (l:=List.replicate rows.length false) (i:=0) hl0 true;rw[show((0:Nat):Int)=0 from rfl]at i0 s0;simp only[bind,Option.bind_some,i0,s0]
 obtain⟨l1,h1,g1,g2,g3,g4⟩:=loop_inv (f:=fun s=>F_123 N entry s.1 s.2) (fun i (s:List Bool)=>((i:Int),s)) id entry
  (fun i s=>s.length=rows.length∧bt s 0=true∧Sound (Rch rows entry) rows.length s∧ ∀x∈entry.take i,bt s x.toNat=true) (N:=N) (s:=(List.replicate rows.length false).set 0 true) Om
  ⟨by simp,by rw[bt_set hl0];simp,sd0,by simp⟩
  (fun i x s hx hI=>by
   obtain⟨k1,k2,k3,k4⟩:=hI;have hi:=lt_len hx;have hxm:=List.mem_of_getElem? hx;have hxr:=h.ent x hxm;obtain⟨v,rfl⟩: ∃v:Nat,x=(v:Int):=⟨x.toNat,by omega⟩;have hvl:v<s.length:=by omega
   refine⟨s.set v true,?_,by simpa using k1,by rw[bt_set hvl,k2];simp,fun j hj hb=>?_,fun y hy=>?_⟩
   ·unfold F_123;simp only[show((i:Int)<(entry.length:Int)) by omega,decide_true,if_true,idx_of hx,idx_bt hvl,setI_bt hvl,bind,Option.bind_some];rw[w64_succ Om]
   ·rw[bt_set hvl]at hb;by_cases hjv:j=v
    ·subst hjv;exact .ent hxm
    rw[if_neg hjv]at hb;exact k3 j hj hb
   rw[bt_set hvl];rw[List.take_add_one,hx]at hy;rcases List.mem_append.1 hy with hy|hy
   ·rw[k4 y hy];simp
   have:y=(v:Int):=by simpa using hy
   subst this;simp)
  (fun s _=>by unfold F_123;simp)
 rw[List.take_length]at g4;rw[show iterO N (fun s=>F_123 N entry s.1 s.2) (0,(List.replicate rows.length false).set 0 true)=_ from h1];simp only[Option.bind_some,id]
 obtain⟨l2,h2,f1,f2,f3,f4⟩:=loop_inv (f:=fun s=>F_124 N rows s.1 s.2) (fun i (s:List Bool)=>(s,(i:Int))) id rows
  (fun i s=>s.length=rows.length∧Mono l1 s∧Sound (Rch rows entry) rows.length s∧(fwd rows s∨i+1≤s.countP id)) (N:=N) (s:=l1) Om
  ⟨g1,Mono.refl l1,g3,.inr (by
   have hp:0<l1.countP id:=by
    rw[List.countP_pos_iff];have hlt:0<l1.length:=by omega
    refine⟨l1[0],List.getElem_mem hlt,?_⟩;unfold bt at g2;rw[List.getD,List.getElem?_eq_getElem hlt]at g2;exact g2
   omega)⟩
  (fun i r s hr hI=>by
   obtain⟨k1,k2,k3,k4⟩:=hI;have hi:=lt_len hr;obtain⟨s',q1,q2,q3,q4,q5,q6⟩:=refReached_round (N:=N) hN hs h k1;refine⟨s',?_,q2,k2.trans q3,q4 k3,?_⟩
   ·unfold F_124;simp only[show((i:Int)<(rows.length:Int)) by omega,decide_true,if_true,bind];rw[q1];simp only[Option.bind_some];rw[w64_succ Om]
   rcases Classical.em (fwd rows s)with hf|hf
   ·rw[q5 hf];exact .inl hf
   right;have hne:s≠s':=fun e=>hf (q6 e.symm);have:=cnt_lt Om q3 hne;rcases k4 with k4|k4
   ·exact absurd k4 hf
   omega)
  (fun s _=>by unfold F_124;simp)
 refine⟨l2,?_,f1,fun j hj=>⟨f3 j hj,fun hr=>?_⟩⟩
 ·rw[show iterO N (fun s=>F_124 N rows s.1 s.2) (l1,0)=_ from h2];rfl
 have hf:fwd rows l2:=by
  rcases f4 with hf|hf
  ·exact hf
  have:=cntB_le l2;omega
 have key: ∀s,Rch rows entry s→bt l2 s.toNat=true:=by
  intro s hr
  induction hr with
  |zero=>exact f2 0 g2
  |ent hx=>exact f2 _ (g4 _ hx)
  |step hr' hy ih=>
    have:=hr'.rng h;exact hf _ Om ih _ hy
 have:=key _ hr;simpa using this
end
open Go Go.Eng
section
variable {N:Nat}{rows:List LI}{rule entry:LI}
inductive Lv(rows:List LI)(rule:LI):Int→Prop
 |here {s:Int}:0≤s→s<rows.length→rule.getD s.toNat 0≠ -1→Lv rows rule s
 |step {s y:Int}:0≤s→s<rows.length→y∈rows.getD s.toNat []→Lv rows rule y→Lv rows rule s
theorem Lv.rng{s:Int}(h:Lv rows rule s):0≤s∧s<rows.length:=by cases h<;>exact⟨by assumption,by assumption⟩
theorem contains3{m row:LI}{n:Nat}(hN:4294967296≤N)(hm:MkR n m)(hn:n≤65536)(hl:row.length<4294967296)(hr: ∀y∈row,0≤y∧y<(n:Int)):
 F_185 N row m (n:Int)=some (row.any fun y=>has m y.toNat):=by
 unfold F_185 F_66
 rw[loop_find row (fun y=>has m y.toNat) (fun i=>(i:Int)) Om (fun i x hx=>by
  have hi:=lt_len hx;have hxr:=hr x (List.mem_of_getElem? hx);obtain⟨v,rfl⟩: ∃v:Nat,x=(v:Int):=⟨x.toNat,by omega⟩;unfold F_189 F_225;simp only[show((i:Int)<(row.length:Int)) by omega,decide_true,if_true,idx_of hx,has_spec (N:=N) hm (show v<n by omega) hn,bind,Option.bind_some,Int.toNat_natCast];rw[w64_succ Om]) (by unfold F_189;simp)]
 cases h:row.findIdx? _ with
 |none=>
   have:row.any (fun y=>has m y.toNat)=false:=List.any_eq_false.2 fun x hx=>by rw[List.findIdx?_eq_none_iff.1 h x hx];simp
   simp[this]
 |some k=>
   obtain⟨hk,hp,_⟩:=List.findIdx?_eq_some_iff_getElem.1 h;have:row.any (fun y=>has m y.toNat)=true:=List.any_eq_true.2 ⟨_,List.getElem_mem hk,hp⟩;rw[this];simp
theorem live_pass{m acc:LI}(hN:4294967296≤N)(hs:Sz rows rule entry)(h:Rt rows rule entry)(hM:Mk rows.length m acc)(hsd: ∀x∈acc,Lv rows rule x):
 ∃m' more acc',iterO N (fun s=>F_105 N rows s.1 s.2.1 s.2.2) (m,0,false)=some (m',more)∧Mk rows.length m' acc'∧(∀x∈acc',Lv rows rule x)∧(∀x∈acc,x∈acc')∧
   (more=false→m'=m∧acc'=acc∧ ∀i,i<rows.length→(∃y∈rows.getD i [],y∈acc)→(i:Int)∈acc)∧(more=true→acc.length<acc'.length):=by
 have hn2:=h.n2
 obtain⟨s,h1,acc',g1,g2,g3,g4,g5⟩:=loop_inv (f:=fun s=>F_105 N rows s.1 s.2.1 s.2.2) (fun i (s:LI×Bool)=>(s.1,(i:Int),s.2)) id rows
  (fun i s=> ∃acc',Mk rows.length s.1 acc'∧(∀x∈acc',Lv rows rule x)∧(∀x∈acc,x∈acc')∧(s.2=false→s.1=m∧acc'=acc∧ ∀i',i'<i→(∃y∈rows.getD i' [],y∈acc)→(i':Int)∈acc)∧(s.2=true→acc.length<acc'.length)) (N:=N) (s:=(m,false)) Om
  ⟨acc,hM,hsd,fun _ h=>h,fun _=>⟨rfl,rfl,fun i' hi'=>absurd hi' Om⟩,fun h=>by cases h⟩
  (fun i r s hr hI=>by
   obtain⟨m1,more⟩:=s;obtain⟨acc1,k1,k2,k3,k4,k5⟩:=hI;simp only at k1 k4 k5 ⊢;have hi:=lt_len hr;obtain⟨row,r1,r2,r3,r4⟩:=row_nat h hi
   have hrr:r=row:=by
    have:=idx_of hr;rw[r1]at this;exact(Option.some.inj this).symm
   subst hrr;have hw:=hs.w r r3;have hlen:=k1.ac.len
   have hbody: ∀(res:LI×Bool),((F_91 N m1 (rows.length:Int) (i:Int) >>= fun x=>if(!x)=true then F_185 N r m1 (rows.length:Int) >>= fun x=>some x else some false) >>= fun x=>if x=true then F_33 N m1 (rows.length:Int) (i:Int) >>= fun x=>some (x.1,x.2)else some (m1,more))=some res→
    F_105 N rows m1 (i:Int) more=some (.inl (res.1,((i+1:Nat):Int),res.2)):=by
    intro res hres;obtain⟨x,hA,hB⟩:=bnd hres;unfold F_105;simp only[bind]at hA hB ⊢;simp only[show((i:Int)<(rows.length:Int)) by omega,decide_true,if_true,idx_of hr,Option.bind_some,hA];rw[w64_succ Om]
    cases x with
    |true=>
      simp only[if_true]at hB ⊢;obtain⟨p,hp,hp2⟩:=Option.bind_eq_some_iff.1 hB;obtain⟨a,b⟩:=p;rw[hp];obtain rfl:=Option.some.inj hp2;rfl
    |false=>
      simp only[Bool.false_eq_true,if_false]at hB ⊢;obtain rfl:=Option.some.inj hB;rfl
   by_cases hmem:(i:Int)∈acc1
   ·refine⟨(m1,more),hbody _ ?_,acc1,k1,k2,k3,fun hf=>⟨(k4 hf).1,(k4 hf).2.1,fun i' hi' hy=>?_⟩,k5⟩
    ·rw[has_spec k1.rel.mkr hi Om,k1.has hi];simp[hmem]
    by_cases hii:i'=i
    ·subst hii;rw[←(k4 hf).2.1];exact hmem
    exact(k4 hf).2.2 i' Om hy
   have hany:r.any (fun y=>has m1 y.toNat)=true↔ ∃y∈r,y∈acc1:=by
    rw[List.any_eq_true];constructor
    ·rintro⟨y,hy,hb⟩;have hyr:=r4 y hy;rw[k1.has (show y.toNat<rows.length by omega),show((y.toNat:Nat):Int)=y by omega]at hb;exact⟨y,hy,by simpa using hb⟩
    rintro⟨y,hy,hb⟩;have hyr:=r4 y hy;refine⟨y,hy,?_⟩;rw[k1.has (show y.toNat<rows.length by omega),show((y.toNat:Nat):Int)=y by omega];simpa using hb
   by_cases ha:r.any (fun y=>has m1 y.toNat)=true
   ·obtain⟨y,hy,hya⟩:=hany.1 ha;obtain⟨m2,e1,q1⟩:=put_mk (N:=N) k1 (x:=(i:Int)) Om Om;have hins:ins acc1 (i:Int)=acc1++ [(i:Int)]:=by simp[ins,hmem]
    rw[hins]at q1;refine⟨(m2,true),hbody _ ?_,acc1++ [(i:Int)],q1,fun x hx=>?_,fun x hx=>by simp[k3 x hx],fun hf=>(by cases hf),fun _=>?_⟩
    ·rw[has_spec k1.rel.mkr hi Om,k1.has hi,contains3 hN k1.rel.mkr Om Om r4,ha,e1];simp[hmem]
    ·rcases List.mem_append.1 hx with hx|hx
     ·exact k2 x hx
     have:x=(i:Int):=by simpa using hx
     subst this;exact .step Om Om (by rw[Int.toNat_natCast,r2];exact hy) (k2 y hya)
    have:acc.length≤acc1.length:=nodup_len hM.ac.nd k3;simp;omega
   have ha':r.any (fun y=>has m1 y.toNat)=false:=by simpa using ha
   refine⟨(m1,more),hbody _ ?_,acc1,k1,k2,k3,fun hf=>⟨(k4 hf).1,(k4 hf).2.1,fun i' hi' hy=>?_⟩,k5⟩
   ·rw[has_spec k1.rel.mkr hi Om,k1.has hi,contains3 hN k1.rel.mkr Om Om r4,ha'];simp[hmem]
   by_cases hii:i'=i
   ·subst hii;rw[r2]at hy;rw[←(k4 hf).2.1]at hy;exact absurd (hany.2 hy) ha
   exact(k4 hf).2.2 i' Om hy)
  (fun s _=>by unfold F_105;simp)
 exact⟨s.1,s.2,acc',h1,g1,g2,g3,g4,g5⟩
theorem live_spec(hN:4294967296≤N)(hs:Sz rows rule entry)(h:Rt rows rule entry):
 ∃m acc,F_2 N rows rule entry=some (.inr m)∧Mk rows.length m acc∧ ∀s,s∈acc↔Lv rows rule s:=by
 have hn2:=h.n2;have hru:=h.ru;obtain⟨m0,e0,q0⟩:=marked_spec (rule:=rule) (entry:=entry) (list:=[]) hN (show rows.length≤65536 by omega) Sm (fun x hx=>by simp at hx);have i0:insAll [] ([]:LI)= []:=rfl;rw[i0]at q0;unfold F_2;simp only[e0,bind,Option.bind_some]
 obtain⟨m1,h1,acc1,g1,g2,g3⟩:=loop_inv (f:=fun s=>F_104 N rows rule s.1 s.2) (fun i (s:LI)=>((i:Int),s)) id rule
  (fun i s=> ∃acc,Mk rows.length s acc∧(∀x∈acc,Lv rows rule x)∧ ∀i',i'<i→rule.getD i' 0≠ -1→(i':Int)∈acc) (N:=N) (s:=m0) Om ⟨[],q0,by simp,fun i' hi'=>absurd hi' Om⟩
  (fun i u s hu hI=>by
   obtain⟨acc,k1,k2,k3⟩:=hI;have hi:=lt_len hu;have hg:rule.getD i 0=u:=getD_of hu;by_cases hne:u= -1
   ·refine⟨s,?_,acc,k1,k2,fun i' hi' hy=>?_⟩
    ·unfold F_104;subst hne;simp only[show((i:Int)<(rule.length:Int)) by omega,decide_true,if_true,idx_of hu,bind,Option.bind_some,show((-1:Int) != -1)=false from rfl,Bool.false_eq_true,if_false];rw[w64_succ Om]
    by_cases hii:i'=i
    ·subst hii;exact absurd (hg.trans hne) hy
    exact k3 i' Om hy
   obtain⟨m',e1,q1⟩:=put_mk (N:=N) k1 (x:=(i:Int)) Om Om;refine⟨m',?_,ins acc (i:Int),q1,fun x hx=>?_,fun i' hi' hy=>?_⟩
   ·unfold F_104;have hb:(u != -1)=true:=by simp[hne]
    simp only[show((i:Int)<(rule.length:Int)) by omega,decide_true,if_true,idx_of hu,bind,Option.bind_some,hb,e1];rw[w64_succ Om]
   ·rcases mem_ins.1 hx with hx|rfl
    ·exact k2 x hx
    exact .here Om Om (by rw[Int.toNat_natCast,hg];exact hne)
   by_cases hii:i'=i
   ·subst hii;exact mem_ins.2 (.inr rfl)
   exact mem_ins.2 (.inl (k3 i' Om hy)))
  (fun s _=>by unfold F_104;simp)
 rw[show iterO N (fun s=>F_104 N rows rule s.1 s.2) (0,m0)=_ from h1];simp only[Option.bind_some,id]
 obtain⟨r,hr,acc,hq1,hq2⟩:=iterO_while (f:=fun s=>F_158 N rows s.1 s.2)
  (fun s=> ∃acc,Mk rows.length s.1 acc∧(∀x∈acc,Lv rows rule x)∧(∀i',i'<rule.length→rule.getD i' 0≠ -1→(i':Int)∈acc)∧(s.2=false→ ∀i,i<rows.length→(∃y∈rows.getD i [],y∈acc)→(i:Int)∈acc))
  (fun s=>if s.2=true then 1+(rows.length-cnt s.1)else 0) (fun r=> ∃acc,Mk rows.length r acc∧ ∀s,s∈acc↔Lv rows rule s) (fun s hI=>by
   obtain⟨m,more⟩:=s;obtain⟨acc,k1,k2,k3,k4⟩:=hI;simp only at k1 k4 ⊢
   cases more with
   |false=>
     right;refine⟨m,by unfold F_158;simp,acc,k1,fun s=>⟨k2 s,fun hl=>?_⟩⟩
     induction hl with
     |here a0 a1 a2=>
       have:=k3 _ Om a2;rwa[show(((_:Int).toNat:Nat):Int)=_ from Int.toNat_of_nonneg a0]at this
     |step a0 a1 a2 _ ih=>
       have:=k4 rfl _ Om ⟨_,a2,ih⟩;rwa[show(((_:Int).toNat:Nat):Int)=_ from Int.toNat_of_nonneg a0]at this
   |true=>
     left;obtain⟨m',more',acc',e1,q1,q2,q3,q4,q5⟩:=live_pass (N:=N) hN hs h k1 k2;refine⟨(m',more'),?_,⟨acc',q1,q2,fun i' hi' hy=>q3 _ (k3 i' hi' hy),fun hf=>?_⟩,?_⟩
     ·unfold F_158;simp only[if_true,bind];rw[e1];rfl
     ·obtain⟨_,rfl,hcl⟩:=q4 hf;exact hcl
     have hl:=q1.ac.len;have hc:=q1.c;have hc0:=k1.c
     cases more' with
     |false=>simp only[Bool.false_eq_true,if_false,if_true];omega
     |true=>
       have:=q5 rfl;simp only[if_true];omega)
  (N:=N) (s:=(m1,true)) ⟨acc1,g1,g2,g3,fun h=>by cases h⟩ (by simp only[if_true];omega)
 refine⟨r,acc,?_,hq1,hq2⟩;rw[show iterO N (fun s=>F_158 N rows s.1 s.2) (m1,true)=_ from hr];rfl
def bwd(rows:List LI)(rule:LI)(l:List Bool):Prop:= ∀i,i<rows.length→(rule.getD i 0≥0→bt l i=true)∧ ∀y∈rows.getD i [],bt l y.toNat=true→bt l i=true
theorem refLive_row{i:Nat}{l:List Bool}{row:LI}(hN:4294967296≤N)(hw:row.length=256)(hl:l.length=rows.length)(hi:i<rows.length)(hr: ∀y∈row,0≤y∧y<rows.length):
 ∃l',iterO N (fun s=>F_76 N (i:Int) row s.1 s.2) (l,0)=some l'∧l'.length=rows.length∧ ∀j,bt l' j=if j=i then(bt l i||row.any fun y=>bt l y.toNat)else bt l j:=by
 obtain⟨s,h1,h2,h3⟩:=loop_inv (f:=fun s=>F_76 N (i:Int) row s.1 s.2) (fun c (s:List Bool)=>(s,(c:Int))) id row (fun c s=>s.length=rows.length∧ ∀j,bt s j=if j=i then(bt l i||(row.take c).any fun y=>bt l y.toNat)else bt l j) (N:=N) (s:=l) Om
  ⟨hl,fun j=>by by_cases h:j=i<;>simp[h]⟩
  (fun c x s hx hI=>by
   obtain⟨k1,k2⟩:=hI;have hc:=lt_len hx;have hxr:=hr x (List.mem_of_getElem? hx);obtain⟨v,rfl⟩: ∃v:Nat,x=(v:Int):=⟨x.toNat,by omega⟩;have hvl:v<s.length:=by omega
   have hil:i<s.length:=by omega
   have hsi:bt s i=(bt l i||(row.take c).any fun y=>bt l y.toNat):=by rw[k2 i,if_pos rfl]
   have htk:(row.take (c+1)).any (fun y=>bt l y.toNat)=((row.take c).any (fun y=>bt l y.toNat)||bt l v):=by
    rw[List.take_add_one,hx,List.any_append];simp
   by_cases hb:bt s i=true
   ·refine⟨s.set i true,?_,by simpa using k1,fun j=>?_⟩
    ·unfold F_76;simp only[show((c:Int)<256) by omega,decide_true,if_true,idx_of hx,idx_bt hil,hb,setI_bt hil,bind,Option.bind_some];rw[w64_succ Om]
    rw[bt_set hil,htk];by_cases h1:j=i
    ·rw[if_pos h1,if_pos h1];rw[hsi]at hb;cases hli:bt l i<;>simp_all
    rw[if_neg h1,if_neg h1,k2 j,if_neg h1]
   have hb:bt s i=false:=by simpa using hb
   refine⟨s.set i (bt s v),?_,by simpa using k1,fun j=>?_⟩
   ·unfold F_76;simp only[show((c:Int)<256) by omega,decide_true,if_true,idx_of hx,idx_bt hil,hb,idx_bt hvl,setI_bt hil,bind,Option.bind_some,Bool.false_eq_true,if_false];rw[w64_succ Om]
   rw[bt_set hil,htk];by_cases h1:j=i
   ·rw[if_pos h1,if_pos h1];rw[hsi]at hb;have hli:bt l i=false:=by cases hli:bt l i<;>simp_all
    have hany:(row.take c).any (fun y=>bt l y.toNat)=false:=by rw[hli]at hb;simpa using hb
    rw[hli,hany,k2 v];by_cases hvi:v=i
    ·rw[if_pos hvi,hli,hany,hvi,hli];rfl
    rw[if_neg hvi];simp
   rw[if_neg h1,if_neg h1,k2 j,if_neg h1])
  (fun s _=>by unfold F_76;simp[hw])
 rw[List.take_length]at h3;exact⟨s,h1,h2,h3⟩
theorem refLive_round{l:List Bool}(hN:4294967296≤N)(hs:Sz rows rule entry)(h:Rt rows rule entry)(hl:l.length=rows.length):
 ∃l',iterO N (fun s=>F_122 N rows rule s.1 s.2) (0,l)=some l'∧l'.length=rows.length∧Mono l l'∧(Sound (Lv rows rule) rows.length l→Sound (Lv rows rule) rows.length l')∧(bwd rows rule l→l'=l)∧(l'=l→bwd rows rule l):=by
 have hn2:=h.n2;have hru:=h.ru
 obtain⟨s,h1,h2,h3,h4,h5,h6⟩:=loop_inv (f:=fun s=>F_122 N rows rule s.1 s.2) (fun i (s:List Bool)=>((i:Int),s)) id rows
  (fun i s=>s.length=rows.length∧Mono l s∧(Sound (Lv rows rule) rows.length l→Sound (Lv rows rule) rows.length s)∧(bwd rows rule l→s=l)∧(s=l→ ∀i',i'<i→(rule.getD i' 0≥0→bt l i'=true)∧ ∀y∈rows.getD i' [],bt l y.toNat=true→bt l i'=true)) (N:=N) (s:=l) Om
  ⟨hl,Mono.refl l,id,fun _=>rfl,fun _ i' hi'=>absurd hi' Om⟩
  (fun i r s hr hI=>by
   obtain⟨k1,k2,k3,k4,k5⟩:=hI;have hi:=lt_len hr;obtain⟨row,r1,r2,r3,r4⟩:=row_nat h hi
   have hrr:r=row:=by
    have:=idx_of hr;rw[r1]at this;exact(Option.some.inj this).symm
   subst hrr;have hil:i<s.length:=by omega
   have hui:i<rule.length:=by omega
   have hg:rule.getD i 0=rule[i]:=getD_of (List.getElem?_eq_getElem hui)
   obtain⟨s1,p1,p2,p3⟩: ∃s1,((idx s (i:Int)) >>= fun x=>if x=true then(idx s (i:Int) >>= fun _=>setI s (i:Int) true >>= fun x=>some x)else(idx rule (i:Int) >>= fun u=>idx s (i:Int) >>= fun _=>setI s (i:Int) (decide (u≥0)) >>= fun x=>some x))=some s1∧s1.length=rows.length∧ ∀j,bt s1 j=if j=i then(bt s i||decide (rule.getD i 0≥0))else bt s j:=by
    by_cases hb:bt s i=true
    ·refine⟨s.set i true,?_,by simpa using k1,fun j=>?_⟩
     ·simp only[idx_bt hil,hb,if_true,setI_bt hil,bind,Option.bind_some]
     rw[bt_set hil];by_cases h1:j=i<;>simp[h1,hb]
    have hb:bt s i=false:=by simpa using hb
    refine⟨s.set i (decide (rule[i]≥0)),?_,by simpa using k1,fun j=>?_⟩
    ·simp only[idx_bt hil,hb,Bool.false_eq_true,if_false,idx_nat hui,setI_bt hil,bind,Option.bind_some]
    rw[bt_set hil,hg];by_cases h1:j=i<;>simp[h1,hb]
   obtain⟨s',q1,q2,q3⟩:=refLive_row (N:=N) (rows:=rows) hN (hs.w r r3) p2 hi r4
   have e1: ∀j,bt s' j=if j=i then((bt s i||decide (rule.getD i 0≥0))||r.any fun y=>bt s1 y.toNat)else bt s j:=fun j=>by
    rw[q3 j,p3 j,p3 i,if_pos rfl];by_cases h1:j=i
    ·rw[if_pos h1,if_pos h1]
    rw[if_neg h1,if_neg h1,if_neg h1]
   have hm:Mono s s':=fun j hj=>by
    rw[e1 j];by_cases h1:j=i
    ·subst h1;rw[if_pos rfl,hj];rfl
    rw[if_neg h1];exact hj
   refine⟨s',?_,q2,k2.trans hm,fun hsd j hj hb=>?_,fun hf=>?_,fun he i' hi'=>?_⟩
   ·unfold F_122;simp only[show((i:Int)<(rows.length:Int)) by omega,decide_true,if_true,idx_of hr,bind,Option.bind_some];simp only[bind]at p1;rw[p1];simp only[Option.bind_some];rw[q1];simp only[Option.bind_some];rw[w64_succ Om]
   ·have hsd':=k3 hsd;rw[e1 j]at hb;by_cases h1:j=i
    ·subst h1;rw[if_pos rfl]at hb;rcases Bool.or_eq_true_iff.1 hb with hb|hb
     ·rcases Bool.or_eq_true_iff.1 hb with hb|hb
      ·exact hsd' j hj hb
      have:rule.getD j 0≥0:=by simpa using hb
      exact .here Om Om (by rw[Int.toNat_natCast];omega)
     obtain⟨y,hy,hyb⟩:=List.any_eq_true.1 hb;have hyr:=r4 y hy;rw[p3]at hyb;by_cases h2:y.toNat=j
     ·rw[if_pos h2]at hyb;rcases Bool.or_eq_true_iff.1 hyb with hb|hb
      ·exact hsd' j hj hb
      have:rule.getD j 0≥0:=by simpa using hb
      exact .here Om Om (by rw[Int.toNat_natCast];omega)
     rw[if_neg h2]at hyb;have:=hsd' y.toNat Om hyb;rw[Int.toNat_of_nonneg hyr.1]at this;exact .step Om Om (by rw[Int.toNat_natCast,r2];exact hy) this
    rw[if_neg h1]at hb;exact hsd' j hj hb
   ·have hsl:=k4 hf;subst hsl;refine bt_ext Om fun j hj=>?_;rw[e1 j];by_cases h1:j=i
    ·subst h1;rw[if_pos rfl];obtain⟨f1,f2⟩:=hf j hi
     cases hb:bt s j with
     |true=>simp
     |false=>
       have a1:decide (rule.getD j 0≥0)=false:=by
        apply decide_eq_false;intro hge;rw[f1 hge]at hb;cases hb
       have a2:(r.any fun y=>bt s1 y.toNat)=false:=by
        rw[List.any_eq_false];intro y hy hyb;rw[p3]at hyb;by_cases h2:y.toNat=j
        ·rw[if_pos h2,hb,a1]at hyb;cases hyb
        rw[if_neg h2]at hyb;have:=f2 y (by rw[r2];exact hy) hyb;rw[hb]at this;cases this
       rw[a1,a2];rfl
    rw[if_neg h1]
   subst he;have hse:s=s':=Mono.anti Om hm k2;by_cases hii:i'=i
   ·subst hii;have e2:=e1 i';rw[if_pos rfl]at e2;refine⟨fun hge=>?_,fun y hy hyb=>?_⟩
    ·rw[e2,decide_eq_true hge];simp
    rw[r2]at hy;rw[e2]
    have:(r.any fun y=>bt s1 y.toNat)=true:=List.any_eq_true.2 ⟨y,hy,by
     rw[p3];by_cases h2:y.toNat=i'
     ·rw[if_pos h2];rw[hse];rw[h2]at hyb;rw[hyb];rfl
     rw[if_neg h2,hse];exact hyb⟩
    rw[this];simp
   exact k5 hse i' Om)
  (fun s _=>by unfold F_122;simp)
 exact⟨s,h1,h2,h3,h4,h5,fun he i hi=>h6 he i hi⟩
theorem refLive_spec(hN:4294967296≤N)(hs:Sz rows rule entry)(h:Rt rows rule entry):
 ∃l,F_13 N rows rule entry=some l∧l.length=rows.length∧ ∀j,j<rows.length→(bt l j=true↔Lv rows rule (j:Int)):=by
 have hn2:=h.n2;have hru:=h.ru
 have z0: ∀j,bt (List.replicate rows.length false) j=false:=fun j=>by
  unfold bt;rw[List.getD,List.getElem?_replicate];split<;>rfl
 unfold F_13;rw[mk_eq Om];simp only[bind,Option.bind_some];have sd0:Sound (Lv rows rule) rows.length (List.replicate rows.length false):=fun j _ hb=>by rw[z0]at hb;cases hb
 have e1:w64 ((rows.length:Int)+1)=((rows.length+1:Nat):Int):=w64_succ Om
 obtain⟨l2,h2,f1,f3,f4⟩:=loop_inv (f:=fun s=>F_121 N rows rule s.1 s.2) (fun i (s:List Bool)=>((i:Int),s)) id (List.range (rows.length+1))
  (fun i s=>s.length=rows.length∧Sound (Lv rows rule) rows.length s∧(bwd rows rule s∨i≤s.countP id)) (N:=N) (s:=List.replicate rows.length false) (by simp;omega)
  ⟨by simp,sd0,.inr Om⟩
  (fun i x s hx hI=>by
   obtain⟨k1,k3,k4⟩:=hI;obtain⟨hi,rfl⟩:=range_get hx;obtain⟨s',q1,q2,q3,q4,q5,q6⟩:=refLive_round (N:=N) hN hs h k1;refine⟨s',?_,q2,q4 k3,?_⟩
   ·unfold F_121;simp only[e1,show((x:Int)<((rows.length+1:Nat):Int)) by omega,decide_true,if_true,bind];rw[q1];simp only[Option.bind_some];rw[w64_succ Om]
   rcases Classical.em (bwd rows rule s)with hf|hf
   ·rw[q5 hf];exact .inl hf
   right;have hne:s≠s':=fun e=>hf (q6 e.symm);have:=cnt_lt Om q3 hne;rcases k4 with k4|k4
   ·exact absurd k4 hf
   omega)
  (fun s _=>by unfold F_121;simp[e1])
 refine⟨l2,?_,f1,fun j hj=>⟨f3 j hj,fun hr=>?_⟩⟩
 ·rw[show iterO N (fun s=>F_121 N rows rule s.1 s.2) (0,List.replicate rows.length false)=_ from h2];rfl
 have hf:bwd rows rule l2:=by
  rcases f4 with hf|hf
  ·exact hf
  have:=cntB_le l2;simp at hf;omega
 have key: ∀s,Lv rows rule s→bt l2 s.toNat=true:=by
  intro s hl
  induction hl with
  | @here s a0 a1 a2=>
    have hlt:s.toNat<rule.length:=by omega
    refine(hf _ Om).1 ?_;have:=h.rul _ (List.getElem_mem hlt);rw[getD_of (List.getElem?_eq_getElem hlt)]at a2 ⊢;omega
  |step a0 a1 a2 _ ih=>exact(hf _ Om).2 _ a2 ih
 have:=key _ hr;simpa using this
end
open Go Go.Eng
noncomputable def rch(rows:List LI)(entry:LI)(j:Nat):Bool:= @decide (Rch rows entry (j:Int)) (Classical.propDecidable _)
noncomputable def lv(rows:List LI)(rule:LI)(j:Nat):Bool:= @decide (Lv rows rule (j:Int)) (Classical.propDecidable _)
theorem rch_iff{entry:LI}{j:Nat}:rch rows entry j=true↔Rch rows entry (j:Int):=by
 unfold rch;exact @decide_eq_true_iff _ (Classical.propDecidable _)
theorem lv_iff{rule:LI}{j:Nat}:lv rows rule j=true↔Lv rows rule (j:Int):=by
 unfold lv;exact @decide_eq_true_iff _ (Classical.propDecidable _)
noncomputable def kpf(rows:List LI)(rule entry:LI)(j:Nat):Bool:=j==0||(rch rows entry j&&lv rows rule j)
noncomputable def kp(rows:List LI)(rule entry:LI):LI:=lst (kpf rows rule entry) rows.length
theorem mem_lst{f:Nat→Bool}{n:Nat}{x:Int}:x∈lst f n↔(0≤x∧x<n)∧f x.toNat=true:=by
 unfold lst;constructor
 ·intro h;obtain⟨j,hj,rfl⟩:=List.mem_map.1 h;obtain⟨h1,h2⟩:=List.mem_filter.1 hj;have:=List.mem_range.1 h1;exact⟨by omega,by simpa using h2⟩
 rintro⟨h1,h2⟩;refine List.mem_map.2 ⟨x.toNat,List.mem_filter.2 ⟨List.mem_range.2 Om,h2⟩,by omega⟩
theorem lst_acc(f:Nat→Bool)(n:Nat):Acc n (lst f n):=by
 refine⟨?_,fun x hx=>(mem_lst.1 hx).1⟩;unfold lst;have h1:((List.range n).filter f).Nodup:=List.nodup_range.filter _;unfold List.Nodup at*;rw[List.pairwise_map];exact h1.imp fun hab=>by omega
theorem lst_zero{f:Nat→Bool}{n:Nat}(h:f 0=true)(hn:1≤n):(lst f n)[0]? =some 0:=by
 obtain⟨m,rfl⟩: ∃m,n=m+1:=⟨n-1,by omega⟩;unfold lst;rw[List.range_succ_eq_map,List.filter_cons,if_pos h];rfl
theorem lst_cons{f g:Nat→Bool}{n:Nat}(h:f 0=true)(h0:g 0=false)(he: ∀j,0<j→f j=g j)(hn:1≤n):lst f n=0::lst g n:=by
 obtain⟨m,rfl⟩: ∃m,n=m+1:=⟨n-1,by omega⟩;unfold lst;rw[List.range_succ_eq_map,List.filter_cons,if_pos h,List.filter_cons,if_neg (by simp[h0])]
 have: ∀l:List Nat,(l.map Nat.succ).filter f=(l.map Nat.succ).filter g:=fun l=>List.filter_congr fun j hj=>by
  obtain⟨k,_,rfl⟩:=List.mem_map.1 hj;exact he _ Om
 rw[this];rfl
theorem lst_filter(f:Nat→Bool)(p:Int→Bool)(n:Nat):(lst f n).filter p=lst (fun j=>f j&&p (j:Int)) n:=by
 unfold lst;rw[List.filter_map,List.filter_filter]
 congr 1
 exact List.filter_congr fun j _=>by simp[Bool.and_comm]
section
variable {N:Nat}{rows:List LI}{rule entry:LI}
theorem mark_list{n:Nat}{m acc:LI}{P:Int→Prop}{f:Nat→Bool}(hN:4294967296≤N)(hM:Mk n m acc)(hn:n≤65536)(h0:0<n)(hP: ∀s,s∈acc↔P s)(hf: ∀j,f j=true↔P (j:Int)):
 F_21 N m (n:Int)=some (lst f n):=by
 rw[list_spec hN hM.rel.mkr hn h0 hM.hb]
 congr 1
 refine lst_congr fun j hj=>?_;rw[hM.has hj,Bool.eq_iff_iff,decide_eq_true_iff,hP,hf]
theorem right_not(hN:4294967296≤N)(hs:Sz rows rule entry)(h: ¬Rt rows rule entry):F_25 N rows rule entry=some false:=by
 obtain⟨b,hb,hbt⟩:=right_spec hN hs
 cases b with
 |false=>exact hb
 |true=>exact absurd (hbt.1 rfl) h
theorem right_yes(hN:4294967296≤N)(hs:Sz rows rule entry)(h:Rt rows rule entry):F_25 N rows rule entry=some true:=by
 obtain⟨b,hb,hbt⟩:=right_spec hN hs;rwa[hbt.2 h]at hb
theorem kept_spec(hN:4294967296≤N)(hs:Sz rows rule entry)(h:Rt rows rule entry):F_24 N rows rule entry=some (kp rows rule entry):=by
 obtain⟨m,acc,h1,h2,h3⟩:=reached_spec hN hs h;obtain⟨m',acc',h1',h2',h3'⟩:=live_spec hN hs h;have hn2:=h.n2;have hn1:=h.n1;have h4:=mark_list (N:=N) (f:=lv rows rule) hN h2' Om Om h3' (fun j=>lv_iff);have hll:=lst_len (lv rows rule) rows.length;unfold F_24;simp only[h1,h1',h4,bind,Option.bind_some]
 have key:=loop_fold (f:=fun s=>F_156 N rows m (lst (lv rows rule) rows.length) s.1 s.2) (fun i (s:LI)=>((i:Int),s)) id (lst (lv rows rule) rows.length)
  (fun s x=>if rch rows entry x.toNat&&decide (x>0)then s++ [x]else s) (fun i s=>s.length≤i+1) (N:=N) (s:=[0]) Om Sm
  (fun i x s hx hI=>by
   have hm:=List.mem_of_getElem? hx;obtain⟨hr,_⟩:=mem_lst.1 hm;have hi:=(List.getElem?_eq_some_iff.1 hx).1;have hh:=has_spec (N:=N) h2.rel.mkr (show x.toNat<rows.length by omega) Om
   have hc:has m x.toNat=rch rows entry x.toNat:=by
    rw[h2.has (show x.toNat<rows.length by omega),Bool.eq_iff_iff,decide_eq_true_iff,h3,rch_iff]
   rw[show((x.toNat:Nat):Int)=x by omega,hc]at hh;refine⟨?_,?_⟩
   ·unfold F_156;simp only[show((i:Int)<((lst (lv rows rule) rows.length).length:Int)) by omega,decide_true,if_true,idx_of hx,bind,Option.bind_some,hh];rw[w64_succ Om]
    cases rch rows entry x.toNat with
    |false=>simp
    |true=>
      by_cases h0:x>0
      ·simp only[h0,decide_true,if_true,Option.bind_some,Bool.and_self];rw[app_eq (by simp;omega)];rfl
      simp only[h0,decide_false,if_true,Option.bind_some,Bool.and_false,Bool.false_eq_true,if_false]
   show(if _ then _ else _:LI).length≤_;split
   ·simp only[List.length_append,List.length_cons,List.length_nil];omega
   omega)
  (fun s _=>by unfold F_156;simp)
 rw[show iterO N (fun s=>F_156 N rows m (lst (lv rows rule) rows.length) s.1 s.2) (0,[0])=_ from key];rw[Option.bind_some,id_eq]
 have fl: ∀(l s:LI),l.foldl (fun s x=>if rch rows entry x.toNat&&decide (x>0)then s++ [x]else s) s=s++l.filter (fun x=>rch rows entry x.toNat&&decide (x>0)):=by
  intro l
  induction l with
  |nil=>intro s;simp
  |cons x l ih=>
    intro s;rw[List.foldl_cons,ih,List.filter_cons];split<;>simp
 rw[fl,lst_filter];unfold kp
 rw[lst_cons (f:=kpf rows rule entry) (g:=fun j=>lv rows rule j&&(rch rows entry (j:Int).toNat&&decide ((j:Int)>0))) (by simp[kpf]) Sm (fun j hj=>by
  have hj':decide ((j:Int)>0)=true:=decide_eq_true Om;have h0:(j==0)=false:=by simp;omega
  rw[kpf,hj',h0,Int.toNat_natCast,Bool.false_or,Bool.and_true,Bool.and_comm]) hn1]
 rfl
theorem kp_acc:Acc rows.length (kp rows rule entry):=lst_acc _ _
theorem kp_zero(h:Rt rows rule entry):(kp rows rule entry)[0]? =some 0:=lst_zero (by simp[kpf]) h.n1
theorem mem_kp(h:Rt rows rule entry){x:Int}:x∈kp rows rule entry↔x=0∨(Rch rows entry x∧Lv rows rule x):=by
 unfold kp;rw[mem_lst];have hn1:=h.n1;constructor
 ·rintro⟨h1,h2⟩;simp only[kpf,rch_iff,lv_iff,Bool.or_eq_true,Bool.and_eq_true,beq_iff_eq,show((x.toNat:Nat):Int)=x by omega]at h2;rcases h2 with h2|h2
  ·left;omega
  exact .inr h2
 rintro(rfl|⟨h1,h2⟩)
 ·exact⟨by omega,by simp[kpf]⟩
 have:=h2.rng;refine⟨this,?_⟩;simp only[kpf,rch_iff,lv_iff,Bool.or_eq_true,Bool.and_eq_true,beq_iff_eq,show((x.toNat:Nat):Int)=x by omega];exact .inr ⟨h1,h2⟩
theorem isTrim_spec(hN:4294967296≤N)(hs:Sz rows rule entry): ∃b,F_206 N rows rule entry=some b∧(b=true↔Rt rows rule entry∧(kp rows rule entry).length=rows.length):=by
 unfold F_206;by_cases h:Rt rows rule entry
 ·rw[right_yes hN hs h,kept_spec hN hs h];refine⟨_,rfl,?_⟩;simp only[beq_iff_eq];exact⟨fun q=>⟨h,by omega⟩,fun q=>by omega⟩
 rw[right_not hN hs h];exact⟨false,rfl,by simp[h]⟩
end
open Go Go.Eng
theorem placeT{o:LI}{n:Nat}(hN:4294967296≤N)(hn:n<4294967296)(hA:Acc n o):
 ∃P,iterO N (fun s=>F_153 N o s.1 s.2) (0,List.replicate n 0)=some P∧P.length=n∧ ∀x:Nat,x<n→P[x]? =some (pl o x):=by
 have hle:=hA.len
 obtain⟨P,h1,h2,h3⟩:=loop_inv (f:=fun s=>F_153 N o s.1 s.2) (fun i (s:LI)=>((i:Int),s)) id o (fun i P=>P.length=n∧ ∀x:Nat,x<n→P[x]? =some (if(x:Int)∈o.take i then(o.idxOf (x:Int):Int)else 0)) (N:=N) (s:=List.replicate n 0) Om
  ⟨by simp,fun x hx=>by simp[hx]⟩
  (fun i x P hx hI=>by
   obtain⟨k1,k2⟩:=hI;have hi:=lt_len hx;have hxr:=hA.rng x (List.mem_of_getElem? hx);obtain⟨v,rfl⟩: ∃v:Nat,x=(v:Int):=⟨x.toNat,by omega⟩;have hv:v<P.length:=by omega
   refine⟨P.set v (i:Int),?_,by simp[k1],fun y hy=>?_⟩
   ·unfold F_153;simp only[show((i:Int)<(o.length:Int)) by omega,decide_true,if_true,idx_of hx,idx_nat hv,setI_nat hv,bind,Option.bind_some];rw[w64_succ Om]
   have hmem:((y:Int)∈o.take (i+1))↔((y:Int)∈o.take i∨(y:Int)=v):=by
    rw[List.take_add_one,hx];simp
   by_cases hyv:y=v
   ·subst hyv;rw[List.getElem?_set_self hv,if_pos (hmem.2 (.inr rfl))]
    have hxi:o[i]=(y:Int):=by
     rw[List.getElem?_eq_getElem hi]at hx;exact Option.some.inj hx
    rw[←hxi,List.Nodup.idxOf_getElem hA.nd]
   rw[List.getElem?_set_ne Om,k2 y hy]
   have:((y:Int)∈o.take (i+1))↔((y:Int)∈o.take i):=by
    rw[hmem];constructor
    ·rintro(h|h)
     ·exact h
     omega
    exact .inl
   simp only[this])
  (fun s _=>by unfold F_153;simp)
 exact⟨P,h1,h2,fun x hx=>by rw[h3 x hx,List.take_length];rfl⟩
theorem rowT{o P row:LI}{n:Nat}(hN:4294967296≤N)(hg: ∀x:Nat,x<n→P[x]? =some (pl o x))(hw:row.length=256)(hr: ∀y∈row,0≤y∧y<(n:Int)):
 iterO N (fun s=>F_103 N P row s.1 s.2) (row,0)=some (row.map (pl o)):=by
 obtain⟨r,h1,h2,h3⟩:=loop_inv (f:=fun s=>F_103 N P row s.1 s.2) (fun i (s:LI)=>(s,(i:Int))) id row (fun i r=>r.length=256∧ ∀j:Nat,r[j]? =if j<i then(row[j]?).map (pl o)else row[j]?) (N:=N) (s:=row) Om
  ⟨hw,fun j=>by simp⟩
  (fun i x r hx hI=>by
   obtain⟨k1,k2⟩:=hI;have hi:=lt_len hx;have hxr:=hr x (List.mem_of_getElem? hx);obtain⟨v,rfl⟩: ∃v:Nat,x=(v:Int):=⟨x.toNat,by omega⟩;have hv:v<n:=by omega
   have hir:i<r.length:=by omega
   refine⟨r.set i (pl o v),?_,by simp[k1],fun j=>?_⟩
   ·unfold F_103;simp only[show((i:Int)<256) by omega,decide_true,if_true,idx_of hx,idx_of (hg v hv),idx_nat hir,setI_nat hir,bind,Option.bind_some];rw[w64_succ Om]
   by_cases hj:j=i
   ·subst hj;rw[List.getElem?_set_self hir,if_pos Om,hx];rfl
   rw[List.getElem?_set_ne Om,k2 j];by_cases h:j<i
   ·rw[if_pos h,if_pos Om]
   rw[if_neg h,if_neg Om])
  (fun s _=>by unfold F_103;simp[hw])
 rw[show iterO N (fun s=>F_103 N P row s.1 s.2) (row,0)=_ from h1]
 congr 1
 apply List.ext_getElem?;intro j;rw[id,h3 j,List.getElem?_map];by_cases h:j<row.length
 ·rw[if_pos h]
 rw[if_neg h,List.getElem?_eq_none Om];rfl
theorem trim_spec(hN:4294967296≤N)(hs:Sz rows rule entry)(h:Rt rows rule entry):
 F_9 N rows rule entry=some (reRows (kp rows rule entry) rows,reRule (kp rows rule entry) rule,reEntry (kp rows rule entry) entry):=by
 have hA:=kp_acc (rows:=rows) (rule:=rule) (entry:=entry);have hle:=hA.len;have hn2:=h.n2;have he2:=h.e2;unfold F_9;obtain⟨P,p1,p2,p3⟩:=placeT (N:=N) hN (show rows.length<4294967296 by omega) hA;simp only[right_yes hN hs h,bind,Option.bind_some,Bool.not_true,Bool.false_eq_true,if_false,kept_spec hN hs h];rw[mk_eq Om];simp only[Option.bind_some];rw[p1];simp only[Option.bind_some]
 obtain⟨s1,q1,q2,q3⟩:=loop_inv (f:=fun s=>F_154 N rows rule (kp rows rule entry) P s.1 s.2.1 s.2.2) (fun i (s:List LI×LI)=>((i:Int),s.1,s.2)) id (kp rows rule entry)
  (fun i s=>s.1=(reRows (kp rows rule entry) rows).take i∧s.2=(reRule (kp rows rule entry) rule).take i) (N:=N) (s:=([],[])) Om ⟨by simp,by simp⟩
  (fun i x s hx hI=>by
   obtain⟨k1,k2⟩:=hI;obtain⟨R,U⟩:=s;simp only at k1 k2;have hi:=lt_len hx;have hxr:=hA.rng x (List.mem_of_getElem? hx);obtain⟨row,r1,r2,r3,r4⟩:=row_of h hxr;obtain⟨v,rfl⟩: ∃v:Nat,x=(v:Int):=⟨x.toNat,by omega⟩;have hvu:v<rule.length:=by have:=h.ru;omega
   have l1:R.length≤i:=by rw[k1];simp;omega
   have l2:U.length≤i:=by rw[k2];simp;omega
   have g1:(reRows (kp rows rule entry) rows)[i]? =some (row.map (pl (kp rows rule entry))):=by
    unfold reRows;rw[List.getElem?_map,hx,←r2];rfl
   have g2:(reRule (kp rows rule entry) rule)[i]? =some rule[v]:=by
    unfold reRule;rw[List.getElem?_map,hx];show some (rule.getD (v:Int).toNat 0)=_;rw[getD_of (List.getElem?_eq_getElem (show(v:Int).toNat<rule.length by simpa using hvu))];rfl
   refine⟨(R++ [row.map (pl (kp rows rule entry))],U++ [rule[v]]),?_,?_,?_⟩
   ·unfold F_154;simp only[show((i:Int)<((kp rows rule entry).length:Int)) by omega,decide_true,if_true,idx_of hx,r1,bind,Option.bind_some];rw[rowT hN p3 (hs.w row r3) r4];simp only[Option.bind_some];rw[app_eq (by simp;omega)];simp only[Option.bind_some,idx_nat hvu];rw[app_eq (by simp;omega)];simp only[Option.bind_some];rw[w64_succ Om]
   ·rw[List.take_add_one,g1,k1];rfl
   rw[List.take_add_one,g2,k2];rfl)
  (fun s _=>by unfold F_154;simp)
 rw[show iterO N (fun s=>F_154 N rows rule (kp rows rule entry) P s.1 s.2.1 s.2.2) (0,[],[])=_ from q1];rw[List.take_of_length_le (by simp[reRows])]at q2;rw[List.take_of_length_le (by simp[reRule])]at q3;obtain⟨s1a,s1b⟩:=s1;simp only at q2 q3;subst q2 q3;simp only[Option.bind_some,id]
 obtain⟨s3,w1,w2⟩:=loop_inv (f:=fun s=>F_155 N entry P s.1 s.2) (fun i (s:LI)=>(s,(i:Int))) id entry (fun i s=>s=(reEntry (kp rows rule entry) entry).take i) (N:=N) (s:=[]) Om Sm
  (fun i x s hx k1=>by
   have hi:=lt_len hx;have hxr:=h.ent x (List.mem_of_getElem? hx);obtain⟨v,rfl⟩: ∃v:Nat,x=(v:Int):=⟨x.toNat,by omega⟩;have l1:s.length≤i:=by rw[k1];simp;omega
   refine⟨s++ [pl (kp rows rule entry) v],?_,?_⟩
   ·unfold F_155;simp only[show((i:Int)<(entry.length:Int)) by omega,decide_true,if_true,idx_of hx,idx_of (p3 v Om),bind,Option.bind_some];rw[app_eq (by simp;omega)];simp only[Option.bind_some];rw[w64_succ Om]
   have:(reEntry (kp rows rule entry) entry)[i]? =some (pl (kp rows rule entry) v):=by unfold reEntry;rw[List.getElem?_map,hx];rfl
   rw[List.take_add_one,this,k1];rfl)
  (fun s _=>by unfold F_155;simp)
 rw[show iterO N (fun s=>F_155 N entry P s.1 s.2) ([],0)=_ from w1];rw[List.take_of_length_le (by simp[reEntry])]at w2;subst w2;rfl
theorem reO_right{rule entry o:LI}(h:Rt rows rule entry)(hA:Acc rows.length o)(h00:o[0]? =some 0):Rt (reRows o rows) (reRule o rule) (reEntry o entry):=by
 have hle:=hA.len;have hpos:0<o.length:=(List.getElem?_eq_some_iff.1 h00).1
 have hpl0:pl o 0=0:=by
  have:=pl_get hA.nd hpos;rw[List.getElem?_eq_getElem hpos]at h00;rw[Option.some.inj h00]at this;exact this
 have hlen:(reRows o rows).length=o.length:=by simp[reRows]
 refine⟨by omega,by have:=h.n2;omega,by simp[reRule,reRows],by simpa[reEntry]using h.e1,by simpa[reEntry]using h.e2,?_,?_,?_,?_,?_⟩
 ·intro r hr x hx;obtain⟨s,hs,rfl⟩:=mem_reRows hr;obtain⟨y,hy,rfl⟩:=List.mem_map.1 hx;rw[hlen];exact pl_rng hpos
 ·intro x hx;obtain⟨s,hs,rfl⟩:=List.mem_map.1 hx;have hsr:=hA.rng s hs;have hru:=h.ru;rw[List.getD,List.getElem?_eq_getElem (show s.toNat<rule.length by omega)];exact h.rul _ (List.getElem_mem _)
 ·intro x hx;obtain⟨s,hs,rfl⟩:=List.mem_map.1 hx;rw[hlen];exact pl_rng hpos
 ·unfold reRows;rw[List.getElem?_map,h00];show some ((rows.getD 0 []).map _)=_;rw[List.getD,h.r0];show some ((List.replicate 256 0).map (pl o))=_;rw[List.map_replicate,hpl0]
 unfold reRule;rw[List.getElem?_map,h00];show some (rule.getD 0 0)=_;rw[List.getD,h.u0];rfl
theorem reO_sz{rule entry o:LI}(hs:Sz rows rule entry)(h:Rt rows rule entry)(hA:Acc rows.length o):Sz (reRows o rows) (reRule o rule) (reEntry o entry):=by
 have hle:=hA.len;have hn:=h.n2;have he:=h.e2;refine⟨fun r hr=>?_,by simp only[reRows,List.length_map];omega,by simp only[reRule,List.length_map];omega,by simp only[reEntry,List.length_map];omega⟩;obtain⟨s,hs',rfl⟩:=mem_reRows hr;have hsr:=hA.rng s hs';rw[List.length_map,getD_of (List.getElem?_eq_getElem (show s.toNat<rows.length by omega))];exact hs.w _ (List.getElem_mem _)
open Go Go.Eng
section
variable {N:Nat}{rows:List LI}{rule entry:LI}
theorem pl_zero{o:LI}{n:Nat}(hA:Acc n o)(h0:o[0]? =some 0):pl o 0=0:=by
 obtain⟨hl,he⟩:=List.getElem?_eq_some_iff.1 h0;have:=pl_get hA.nd hl;rwa[he]at this
theorem kp_mem(h:Rt rows rule entry){s:Int}(hr:Rch rows entry s)(hl:Lv rows rule s):s∈kp rows rule entry:=(mem_kp h).2 (.inr ⟨hr,hl⟩)
theorem kp_rch(h:Rt rows rule entry){s:Int}(hr:Rch rows entry s)(hl:Lv rows rule s):Rch (reRows (kp rows rule entry) rows) (reEntry (kp rows rule entry) entry) (pl (kp rows rule entry) s):=by
 induction hr with
 |zero=>rw[pl_zero kp_acc (kp_zero h)];exact .zero
 |ent hx=>exact .ent (List.mem_map_of_mem hx)
 | @step s y hr hy ih=>
   have hsr:=hr.rng h;have hl':Lv rows rule s:= .step hsr.1 hsr.2 hy hl;refine .step (ih hl') ?_;rw[reRows_get (kp_mem h hr hl')];exact List.mem_map_of_mem hy
theorem kp_lv(h:Rt rows rule entry){s:Int}(hr:Rch rows entry s)(hl:Lv rows rule s):Lv (reRows (kp rows rule entry) rows) (reRule (kp rows rule entry) rule) (pl (kp rows rule entry) s):=by
 have hpos:0<(kp rows rule entry).length:=(List.getElem?_eq_some_iff.1 (kp_zero h)).1
 have hrg: ∀x,0≤pl (kp rows rule entry) x∧pl (kp rows rule entry) x<((reRows (kp rows rule entry) rows).length:Int):=fun x=>by
  have:=pl_rng (x:=x) hpos;simpa[reRows]using this
 induction hl with
 |here a0 a1 a2=>
   refine .here (hrg _).1 (hrg _).2 ?_;rw[rule_re (kp_mem h hr (.here a0 a1 a2))];exact a2
 |step a0 a1 a2 a3 ih=>
   refine .step (hrg _).1 (hrg _).2 ?_ (ih (.step hr a2));rw[reRows_get (kp_mem h hr (.step a0 a1 a2 a3))];exact List.mem_map_of_mem a2
theorem lst_all{f:Nat→Bool}{n:Nat}(h: ∀j,j<n→f j=true):lst f n=upto n:=by
 unfold lst upto;rw[List.filter_eq_self.2 fun j hj=>h j (List.mem_range.1 hj)]
theorem kp_re(h:Rt rows rule entry):kp (reRows (kp rows rule entry) rows) (reRule (kp rows rule entry) rule) (reEntry (kp rows rule entry) entry)=upto (reRows (kp rows rule entry) rows).length:=by
 refine lst_all fun j hj=>?_;have hj':j<(kp rows rule entry).length:=by simpa[reRows]using hj
 unfold kpf;rw[Bool.or_eq_true,Bool.and_eq_true,rch_iff,lv_iff,beq_iff_eq];have hA:Acc rows.length (kp rows rule entry):=kp_acc;have hp:=pl_get hA.nd hj';rcases(mem_kp h).1 (List.getElem_mem hj')with h0|⟨h1,h2⟩
 ·left;rw[h0,pl_zero hA (kp_zero h)]at hp;omega
 right;have a1:=kp_rch h h1 h2;have a2:=kp_lv h h1 h2;rw[hp]at a1 a2;exact⟨a1,a2⟩
theorem lst_split{f:Nat→Bool}{x:Nat}(hf:f x=true): ∀{n:Nat},x<n→ ∃t,lst f n=lst f x++(x:Int)::t
 |0,h=>by omega
 |n+1,h=>by
   rw[lst_succ];by_cases hx:x=n
   ·subst hx;exact⟨[],by simp[hf]⟩
   obtain⟨t,ht⟩:=lst_split hf (n:=n) Om;rw[ht];split
   ·exact⟨t++ [(n:Int)],by simp⟩
   exact⟨t,rfl⟩
theorem pl_lst{f:Nat→Bool}{n x:Nat}(hx:x<n):pl (lst f n) (x:Int)=if f x then((lst f x).length:Int)else 0:=by
 unfold pl;by_cases hf:f x=true
 ·rw[if_pos hf,if_pos (mem_lst.2 ⟨by omega,by simpa using hf⟩)];obtain⟨t,ht⟩:=lst_split hf hx;have hn:(x:Int)∉lst f x:=fun hm=>by have:=(mem_lst.1 hm).1;omega
  rw[ht,List.idxOf_append,if_neg hn];simp
 rw[if_neg hf,if_neg fun hm=>hf (by simpa using(mem_lst.1 hm).2)]
theorem refNumber{l1 l2:List Bool}{n:Nat}{k:Nat→Bool}(hN:4294967296≤N)(hn:rows.length=n)(hn1:1≤n)(hn2:n<4294967296)(h1:l1.length=n)(h2:l2.length=n)(hk0:k 0=true)(hk: ∀j,0<j→j<n→(bt l1 j&&bt l2 j)=k j):
 ∃P,iterO N (fun s=>F_78 N rows l1 l2 s.1 s.2.1 s.2.2) (List.replicate n 0,1,1)=some P∧P.length=n∧ ∀x:Nat,x<n→P[x]? =some (pl (lst k n) x):=by
 have hle:=lst_len k;have l1':lst k 1= [0]:=by rw[lst_succ];simp[hk0,lst]
 obtain⟨s,q1,⟨q2,q3,q4⟩⟩:=loop_inv (f:=fun s=>F_78 N rows l1 l2 s.1 s.2.1 s.2.2) (fun i (s:LI×Int)=>(s.1,s.2,((i+1:Nat):Int))) (fun s=>s.1) (List.range (n-1))
  (fun i s=>s.1.length=n∧s.2=((lst k (i+1)).length:Int)∧ ∀x:Nat,x<n→s.1[x]? =some (if x<i+1 then pl (lst k n) x else 0)) (N:=N) (s:=(List.replicate n 0,1)) (by simp;omega)
  ⟨by simp,by rw[l1'];rfl,fun x hx=>by
   by_cases h:x<0+1
   ·obtain rfl:x=0:=by omega
    rw[if_pos h,pl_lst hx,hk0];simp[hx,lst]
   rw[if_neg h];simp[hx]⟩
  (fun i x s hx hI=>by
   obtain⟨k1,k2,k3⟩:=hI;obtain⟨P,m⟩:=s;simp only at k1 k2 k3;obtain⟨hi,rfl⟩:=range_get hx;have hin:x+1<n:=by omega
   have hsu:=lst_succ k (x+1);have hlx:=hle (x+1);have hb1:=idx_bt (l:=l1) (i:=x+1) Om;have hb2:=idx_bt (l:=l2) (i:=x+1) Om;have hkx:=hk (x+1) Om hin;have hpx:pl (lst k n) ((x+1:Nat):Int)=if k (x+1)then((lst k (x+1)).length:Int)else 0:=pl_lst hin
   by_cases hc:k (x+1)=true
   ·refine⟨(P.set (x+1) m,((lst k (x+1+1)).length:Int)),?_,by simp[k1],rfl,fun y hy=>?_⟩
    ·rw[hc,Bool.and_eq_true]at hkx;unfold F_78;simp only[hn,show(((x+1:Nat):Int)<(n:Int)) by omega,decide_true,if_true,hb1,hkx.1,hb2,hkx.2,bind,Option.bind_some,idx_nat (show x+1<P.length by omega),setI_nat (show x+1<P.length by omega)];rw[w64_succ Om,k2,w64_succ Om,hsu,if_pos hc,List.length_append];rfl
    show(P.set (x+1) m)[y]? =_;by_cases hyx:y=x+1
    ·subst hyx;rw[List.getElem?_set_self Om,if_pos Om,hpx,if_pos hc,k2]
    rw[List.getElem?_set_ne Om,k3 y hy];by_cases h:y<x+1
    ·rw[if_pos h,if_pos Om]
    rw[if_neg h,if_neg Om]
   have hc':k (x+1)=false:=by simpa using hc
   refine⟨(P,m),?_,k1,?_,fun y hy=>?_⟩
   ·rw[hc']at hkx;unfold F_78;simp only[hn,show(((x+1:Nat):Int)<(n:Int)) by omega,decide_true,if_true,hb1,hb2,bind,Option.bind_some];rw[w64_succ Om]
    cases e1:bt l1 (x+1)with
    |false=>simp
    |true=>
      rw[e1,Bool.true_and]at hkx;simp[hkx]
   ·show m=_;rw[hsu,if_neg hc,k2]
   show P[y]? =_;rw[k3 y hy];by_cases hyx:y=x+1
   ·subst hyx;rw[if_neg Om,if_pos Om,hpx,if_neg hc]
   by_cases h:y<x+1
   ·rw[if_pos h,if_pos Om]
   rw[if_neg h,if_neg Om])
  (fun s _=>by
   unfold F_78;rw[List.length_range,hn,show n-1+1=n by omega];simp)
 refine⟨s.1,q1,q2,fun x hx=>?_⟩;rw[q4 x hx,if_pos (by rw[List.length_range];omega)]
end
open Go Go.Eng
set_option maxRecDepth 100000
theorem alive20:F_74 4294967296=some true:=by kernel_rfl
open Go Go.Eng
set_option maxRecDepth 100000
theorem mget_mset{v:Bool}{k k':Int}: ∀{m:List (Int×Bool)},mget (mset m k v) k'=if k=k' then some v else mget m k'
 | []=>by
   by_cases h:k=k'<;>simp[mget,mset,h]
 |e::m=>by
   have ih:=mget_mset (v:=v) (k:=k) (k':=k') (m:=m);by_cases h1:e.1=k
   ·have:mset (e::m) k v=(k,v)::m:=by simp[mset,List.findIdx?_cons,h1]
    rw[this];by_cases h:k=k'
    ·simp[mget,h]
    simp[mget,h,h1]
   have:mset (e::m) k v=e::mset m k v:=by
    unfold mset;rw[List.findIdx?_cons];have:(e.1==k)=false:=by simp[h1]
    rw[this]
    cases List.findIdx? (fun e=>e.1==k) m with
    |none=>simp
    |some i=>simp
   rw[this];by_cases h2:e.1=k'
   ·have: ¬k=k':=fun hh=>h1 (h2.trans hh.symm);simp[mget,h2,this]
   have e1: ∀m':List (Int×Bool),mget (e::m') k'=mget m' k':=fun m'=>by simp[mget,h2]
   rw[e1,ih,e1]
open Go Go.Eng
set_option maxRecDepth 100000
def key(t:LI):Nat:=t.foldl (fun a c=>a*257+(c.toNat+1)) 0
theorem key_snoc(t:LI)(c:Int):key (t++ [c])=key t*257+(c.toNat+1):=by simp[key]
theorem snoc_of{t:LI}(h:t≠ []): ∃u c,t=u++ [c]:=⟨t.dropLast,t.getLast h,(List.dropLast_concat_getLast h).symm⟩
theorem key_nil:key []=0:=rfl
theorem Byt.app{t:LI}{c:Int}:Byt (t++ [c])↔Byt t∧0≤c∧c<256:=by
 constructor
 ·exact fun h=>⟨fun x hx=>h x (by simp[hx]),h c Sm⟩
 rintro⟨h1,h2⟩ x hx;rcases List.mem_append.1 hx with hx|hx
 ·exact h1 x hx
 simp at hx;subst hx;exact h2
theorem snoc_ind{P:LI→Prop}(h0:P [])(h1: ∀t c,P t→P (t++ [c])): ∀(n:Nat) (t:LI),t.length=n→P t
 |0,t,h=>by
   obtain rfl:=List.length_eq_zero_iff.1 h;exact h0
 |n+1,t,h=>by
   obtain⟨u,c,rfl⟩:=snoc_of (t:=t) (fun e=>by subst e;simp at h);exact h1 u c (snoc_ind h0 h1 n u (by simpa using h))
theorem key_inj: ∀{t u:LI},Byt t→Byt u→key t=key u→t=u:=by
 intro t;refine snoc_ind (P:=fun t=> ∀{u:LI},Byt t→Byt u→key t=key u→t=u) (fun{u} _ hu hk=>?_) (fun t c ih {u} ht hu hk=>?_) _ t rfl
 ·by_cases hn:u= []
  ·exact hn.symm
  obtain⟨v,d,rfl⟩:=snoc_of hn;rw[key_snoc,key_nil]at hk;omega
 by_cases hn:u= []
 ·subst hn;rw[key_snoc,key_nil]at hk;omega
 obtain⟨v,d,rfl⟩:=snoc_of hn;obtain⟨ht1,hc⟩:=Byt.app.1 ht;obtain⟨hu1,hd⟩:=Byt.app.1 hu;rw[key_snoc,key_snoc]at hk;have e1:key t=key v:=by omega
 have e2:c=d:=by omega
 rw[ih ht1 hu1 e1,e2]
section
variable {N:Nat}{rows:List LI}{rule entry:LI}
def Leads(rows:List LI)(rule:LI)(x s:Int)(t:LI):Prop:=Byt t∧rule.getD (t.foldl (nxt rows) s).toNat 0=x
def LeadsIn(rows:List LI)(rule:LI)(x:Int)(k:Nat)(s:Int):Prop:= ∃t,Leads rows rule x s t∧t.length=k
def Dist(rows:List LI)(rule:LI)(x s:Int)(k:Nat):Prop:=LeadsIn rows rule x k s∧ ∀j,j<k→ ¬LeadsIn rows rule x j s
theorem Dist.uniq{x s:Int}{a b:Nat}(h:Dist rows rule x s a)(h':Dist rows rule x s b):a=b:=by
 rcases Nat.lt_trichotomy a b with hl|he|hl
 ·exact absurd h.1 (h'.2 a hl)
 ·exact he
 exact absurd h'.1 (h.2 b hl)
end
open Go Go.Eng
set_option maxRecDepth 100000
theorem least{P:Nat→Prop}: ∀{n:Nat},P n→ ∃k,k≤n∧P k∧ ∀j,j<k→ ¬P j:=by
 intro n
 induction n using Nat.strongRecOn with
 |ind n ih=>
   intro h;by_cases hc: ∃j,j<n∧P j
   ·obtain⟨j,h1,h2⟩:=hc;obtain⟨k,k1,k2,k3⟩:=ih j h1 h2;exact⟨k,by omega,k2,k3⟩
   exact⟨n,Nat.le_refl _,h,fun j hj hp=>hc ⟨j,hj,hp⟩⟩
section
variable {N:Nat}{rows:List LI}{rule entry:LI}
def Best(rows:List LI)(rule:LI)(x s:Int)(g:LI):Prop:=Leads rows rule x s g∧ ∀u,Leads rows rule x s u→key g≤key u
theorem Best.uniq{x s:Int}{a b:LI}(h:Best rows rule x s a)(h':Best rows rule x s b):a=b:=key_inj h.1.1 h'.1.1 (Nat.le_antisymm (h.2 _ h'.1) (h'.2 _ h.1))
end
open Go Go.Eng
set_option maxRecDepth 100000
section
variable {σ:Type}{nx:σ→Int→σ}{G Triv:σ→Prop}{s0:σ}
def LG(nx:σ→Int→σ)(G:σ→Prop)(s:σ)(t:LI):Prop:=Byt t∧G (t.foldl nx s)
def BestG(nx:σ→Int→σ)(G:σ→Prop)(s:σ)(g:LI):Prop:=LG nx G s g∧ ∀u,LG nx G s u→key g≤key u
theorem BestG.uniq{s:σ}{a b:LI}(h:BestG nx G s a)(h':BestG nx G s b):a=b:=key_inj h.1.1 h'.1.1 (Nat.le_antisymm (h.2 _ h'.1) (h'.2 _ h.1))
structure TrivOk(nx:σ→Int→σ)(G Triv:σ→Prop):Prop where
 step: ∀s c,Triv s→Triv (nx s c)
 none: ∀s,Triv s→ ¬G s
def Closed(nx:σ→Int→σ)(G Triv:σ→Prop)(S:List σ)(s:σ):Prop:= ¬G s∧ ∀c:Int,0≤c→c<256→nx s c∈S∨Triv (nx s c)
structure BInv(nx:σ→Int→σ)(G Triv:σ→Prop)(Dm:σ→Prop)(s0:σ)(S:List σ)(Q:List (σ×LI)):Prop where
 a:s0∈S
 nd:S.Nodup
 rng: ∀s∈S,Dm s
 qs: ∀p∈Q,p.1∈S
 byt: ∀p∈Q,Byt p.2∧p.2.foldl nx s0=p.1∧ ∀u,Byt u→u.foldl nx s0=p.1→key p.2≤key u
 len: ∀p∈Q,p.2.length<S.length
 ql:Q.length≤S.length
 cl: ∀s∈S,(∃t,(s,t)∈Q)∨Closed nx G Triv S s
 srt:(Q.map (fun p=>key p.2)).Pairwise (· < ·)
 bnd: ∀p,Q.head?=some p→ ∀q∈Q,key q.2≤key p.2*257
structure BMid(nx:σ→Int→σ)(G Triv:σ→Prop)(Dm:σ→Prop)(s0 s:σ)(t:LI)(c:Nat)(S:List σ)(Q:List (σ×LI)):Prop where
 a:s0∈S
 nd:S.Nodup
 rng: ∀s∈S,Dm s
 qs: ∀p∈Q,p.1∈S
 byt: ∀p∈Q,Byt p.2∧p.2.foldl nx s0=p.1∧ ∀u,Byt u→u.foldl nx s0=p.1→key p.2≤key u
 len: ∀p∈Q,p.2.length<S.length
 ql:Q.length+1≤S.length
 cl: ∀z∈S,z=s∨(∃t,(z,t)∈Q)∨Closed nx G Triv S z
 srt:(Q.map (fun p=>key p.2)).Pairwise (· < ·)
 bnd: ∀q∈Q,key t<key q.2∧key q.2≤key t*257+c
 tb:Byt t∧t.foldl nx s0=s∧t.length<S.length∧s∈S
 ch: ∀d:Nat,d<c→nx s d∈S∨Triv (nx s d)
 sm: ∀v,Byt v→key v<key t→Closed nx G Triv S (v.foldl nx s0)∨Triv (v.foldl nx s0)
theorem Closed.mono{S S':List σ}{s:σ}(h:Closed nx G Triv S s)(hS: ∀x∈S,x∈S'):Closed nx G Triv S' s:=⟨h.1,fun c h0 h1=>(h.2 c h0 h1).imp (hS _) id⟩
theorem BInv.sm{Dm:σ→Prop}{S:List σ}{Q:List (σ×LI)}(hT:TrivOk nx G Triv)(h:BInv nx G Triv Dm s0 S Q):
 ∀v,Byt v→(∀p∈Q,key v<key p.2)→Closed nx G Triv S (v.foldl nx s0)∨Triv (v.foldl nx s0):=by
 intro v;refine snoc_ind (P:=fun v=>Byt v→(∀p∈Q,key v<key p.2)→Closed nx G Triv S (v.foldl nx s0)∨Triv (v.foldl nx s0)) (fun _ hk=>?_) (fun w d ih hb hk=>?_) _ v rfl
 ·rcases h.cl s0 h.a with⟨t,ht⟩|hc
  ·have:=hk _ ht;have h2:=(h.byt _ ht).2.2 [] (fun x hx=>by simp at hx) rfl;omega
  exact .inl hc
 obtain⟨hb1,hd⟩:=Byt.app.1 hb;rw[key_snoc]at hk;have e:(w++ [d]).foldl nx s0=nx (w.foldl nx s0) d:=by rw[List.foldl_append];rfl
 rcases ih hb1 (fun p hp=>by have:=hk p hp;omega)with hc|ht
 ·rw[e];rcases hc.2 d hd.1 hd.2 with hm|ht
  ·rcases h.cl _ hm with⟨t,ht⟩|hc'
   ·have h1:=hk _ ht;have h2:=(h.byt _ ht).2.2 (w++ [d]) hb e;rw[key_snoc]at h2;omega
   exact .inl hc'
  exact .inr ht
 rw[e];exact .inr (hT.step _ _ ht)
theorem BInv.start{Dm:σ→Prop}(hd:Dm s0):BInv nx G Triv Dm s0 [s0] [(s0,[])] where
 a:=by simp
 nd:=by simp
 rng:=fun s hs=>by simp at hs;subst hs;exact hd
 qs:=fun p hp=>by simp at hp;subst hp;simp
 byt:=fun p hp=>by simp at hp;subst hp;exact⟨fun x hx=>by simp at hx,rfl,fun u _ _=>by simp[key]⟩
 len:=fun p hp=>by simp at hp;subst hp;simp
 ql:=by simp
 cl:=fun s hs=>by simp at hs;subst hs;exact .inl ⟨[],by simp⟩
 srt:=by simp
 bnd:=fun p hp q hq=>by simp at hp hq;subst hp;subst hq;simp[key]
theorem BMid.skip{Dm:σ→Prop}{S:List σ}{s:σ}{t:LI}{c:Nat}{Q:List (σ×LI)}(h:BMid nx G Triv Dm s0 s t c S Q)(hk:nx s (c:Int)∈S∨Triv (nx s (c:Int))):BMid nx G Triv Dm s0 s t (c+1) S Q:=
 {h with
  bnd:=fun q hq=>by have:=h.bnd q hq;omega
  ch:=fun d hd=>by
   by_cases hdc:d=c
   ·subst hdc;exact hk
   exact h.ch d Om}
theorem BMid.push{Dm:σ→Prop}{S:List σ}{s:σ}{t:LI}{c:Nat}{Q:List (σ×LI)}(hT:TrivOk nx G Triv)(h:BMid nx G Triv Dm s0 s t c S Q)(hc:c<256)(hn:nx s (c:Int)∉S)(ht: ¬Triv (nx s (c:Int)))(hd:Dm (nx s (c:Int))):
 BMid nx G Triv Dm s0 s t (c+1) (S++ [nx s (c:Int)]) (Q++ [(nx s (c:Int),t++ [(c:Int)])]):=by
 obtain⟨t1,t2,t3,t4⟩:=h.tb;have hkey:key (t++ [(c:Int)])=key t*257+(c+1):=by rw[key_snoc];simp
 have hsub: ∀x∈S,x∈S++ [nx s (c:Int)]:=fun x hx=>by simp[hx]
 refine⟨by simp[h.a],?_,?_,?_,?_,?_,?_,?_,?_,?_,?_,?_,?_⟩
 ·rw[List.nodup_append];exact⟨h.nd,by simp,fun x hx y hy=>by simp at hy;subst hy;intro he;subst he;exact hn hx⟩
 ·intro x hx;rcases List.mem_append.1 hx with hx|hx
  ·exact h.rng x hx
  simp at hx;subst hx;exact hd
 ·intro p hp;rcases List.mem_append.1 hp with hp|hp
  ·exact hsub _ (h.qs p hp)
  simp at hp;subst hp;simp
 ·intro p hp;rcases List.mem_append.1 hp with hp|hp
  ·exact h.byt p hp
  simp at hp;subst hp;refine⟨Byt.app.2 ⟨t1,by omega,by omega⟩,by rw[List.foldl_append,t2];rfl,fun u hu he=>?_⟩;refine Classical.byContradiction fun hlt=>?_;simp only at he hlt;rw[hkey]at hlt;by_cases hu0:u= []
  ·subst hu0;exact hn (he▸h.a)
  obtain⟨v,d,rfl⟩:=snoc_of hu0;obtain⟨hv,hdr⟩:=Byt.app.1 hu;rw[key_snoc]at hlt;have he':nx (v.foldl nx s0) d=nx s (c:Int):=by rw[←he,List.foldl_append];rfl
  have hkv:key v≤key t:=by omega
  by_cases hkt:key v=key t
  ·have hvt:=key_inj hv t1 hkt;rw[hvt,t2]at he';rw[hkt]at hlt;have hdc:d.toNat<c:=by omega
   rcases h.ch d.toNat hdc with hm|hm
   ·rw[show((d.toNat:Nat):Int)=d by omega,he']at hm;exact hn hm
   rw[show((d.toNat:Nat):Int)=d by omega,he']at hm;exact ht hm
  rcases h.sm v hv Om with hcl|htr
  ·rcases hcl.2 d hdr.1 hdr.2 with hm|hm
   ·rw[he']at hm;exact hn hm
   rw[he']at hm;exact ht hm
  have:=hT.step _ d htr;rw[he']at this;exact ht this
 ·intro p hp;rw[List.length_append,List.length_singleton];rcases List.mem_append.1 hp with hp|hp
  ·have:=h.len p hp;omega
  simp at hp;subst hp;simp;omega
 ·have:=h.ql;simp only[List.length_append,List.length_singleton];omega
 ·intro z hz;rcases List.mem_append.1 hz with hz|hz
  ·rcases h.cl z hz with h1|⟨u,h1⟩|h1
   ·exact .inl h1
   ·exact .inr (.inl ⟨u,by simp[h1]⟩)
   exact .inr (.inr (h1.mono hsub))
  simp at hz;subst hz;exact .inr (.inl ⟨t++ [(c:Int)],by simp⟩)
 ·rw[List.map_append,List.pairwise_append];refine⟨h.srt,by simp,fun x hx y hy=>?_⟩;obtain⟨p,hp,rfl⟩:=List.mem_map.1 hx;simp at hy;subst hy;have:=(h.bnd p hp).2;rw[hkey];omega
 ·intro q hq;rcases List.mem_append.1 hq with hq|hq
  ·have:=h.bnd q hq;omega
  simp at hq;subst hq;simp only[hkey];omega
 ·exact⟨t1,t2,by simp;omega,hsub _ t4⟩
 ·intro d hd;by_cases hdc:d=c
  ·subst hdc;exact .inl Sm
  exact(h.ch d Om).imp (hsub _) id
 exact fun v hv hk=>(h.sm v hv hk).imp (fun hc=>hc.mono hsub) id
theorem BMid.done{Dm:σ→Prop}{S:List σ}{s:σ}{t:LI}{Q:List (σ×LI)}(h:BMid nx G Triv Dm s0 s t 256 S Q)(hG: ¬G s):BInv nx G Triv Dm s0 S Q where
 a:=h.a
 nd:=h.nd
 rng:=h.rng
 qs:=h.qs
 byt:=h.byt
 len:=h.len
 ql:=by have:=h.ql;omega
 cl:=fun z hz=>by
  rcases h.cl z hz with rfl|h1
  ·refine .inr ⟨hG,fun c h0 h1=>?_⟩;have:=h.ch c.toNat Om;rwa[show((c.toNat:Nat):Int)=c by omega]at this
  exact h1
 srt:=h.srt
 bnd:=fun p hp q hq=>by
  have h1:=(h.bnd p (List.mem_of_mem_head? (by simp[hp]))).1;have h2:=(h.bnd q hq).2;omega
end
open Go Go.Eng
set_option maxRecDepth 100000
theorem wrap8{c:Nat}(h:c<256):IntKind.wrap .u8 (c:Int)=(c:Int):=by
 simp[IntKind.wrap,IntKind.signed,IntKind.bits];omega
open Go Go.Eng
set_option maxRecDepth 100000
section
variable {σ:Type}{nx:σ→Int→σ}{G:σ→Prop}
def LIn(nx:σ→Int→σ)(G:σ→Prop)(k:Nat)(s:σ):Prop:= ∃t,LG nx G s t∧t.length=k
def Dst(nx:σ→Int→σ)(G:σ→Prop)(s:σ)(k:Nat):Prop:=LIn nx G k s∧ ∀j,j<k→ ¬LIn nx G j s
theorem lg_cons{s:σ}{c:Int}{t:LI}:LG nx G s (c::t)↔(0≤c∧c<256)∧LG nx G (nx s c) t:=by
 unfold LG;constructor
 ·rintro⟨h1,h2⟩;exact⟨h1 c Sm,fun y hy=>h1 y (by simp[hy]),h2⟩
 rintro⟨h1,h2,h3⟩;refine⟨fun y hy=>?_,h3⟩;rcases List.mem_cons.1 hy with rfl|hy
 ·exact h1
 exact h2 y hy
theorem lin_zero{s:σ}:LIn nx G 0 s↔G s:=by
 constructor
 ·rintro⟨t,h,hl⟩;obtain rfl:=List.length_eq_zero_iff.1 hl;exact h.2
 exact fun h=>⟨[],⟨fun y hy=>by simp at hy,h⟩,rfl⟩
theorem lin_succ{s:σ}{k:Nat}:LIn nx G (k+1) s↔ ∃c:Int,(0≤c∧c<256)∧LIn nx G k (nx s c):=by
 constructor
 ·rintro⟨t,h,hl⟩
  cases t with
  |nil=>simp at hl
  |cons c t=>
    obtain⟨h1,h2⟩:=lg_cons.1 h;exact⟨c,h1,t,h2,by simpa using hl⟩
 rintro⟨c,hc,t,h,hl⟩;exact⟨c::t,lg_cons.2 ⟨hc,h⟩,by simp[hl]⟩
theorem Dst.uniq{s:σ}{a b:Nat}(h:Dst nx G s a)(h':Dst nx G s b):a=b:=by
 rcases Nat.lt_trichotomy a b with hl|he|hl
 ·exact absurd h.1 (h'.2 a hl)
 ·exact he
 exact absurd h'.1 (h.2 b hl)
theorem dst_step{s:σ}{d:Nat}(h:Dst nx G s (d+1)): ∃c:Int,(0≤c∧c<256)∧Dst nx G (nx s c) d:=by
 obtain⟨c,hc,hl⟩:=lin_succ.1 h.1;exact⟨c,hc,hl,fun j hj hlj=>h.2 (j+1) Om (lin_succ.2 ⟨c,hc,hlj⟩)⟩
theorem dst_of{s:σ}{d:Nat}(h:LIn nx G d s): ∃k,k≤d∧Dst nx G s k:=by
 obtain⟨k,k1,k2,k3⟩:=least (P:=fun d=>LIn nx G d s) h;exact⟨k,k1,k2,k3⟩
theorem dst_chain{Dm:σ→Prop}(hDm: ∀s c,Dm s→0≤c∧c<256→Dm (nx s c)): ∀{d:Nat} {s:σ},Dm s→Dst nx G s d→ ∃l:List σ,l.length=d+1∧l.Nodup∧ ∀y∈l,Dm y∧ ∃j,j≤d∧Dst nx G y j
 |0,s,hr,hd=>⟨[s],rfl,by simp,fun y hy=>by simp at hy;subst hy;exact⟨hr,0,Nat.le_refl _,hd⟩⟩
 |d+1,s,hr,hd=>by
   obtain⟨c,hc,hd'⟩:=dst_step hd;obtain⟨l,l1,l2,l3⟩:=dst_chain hDm (hDm s c hr hc) hd';refine⟨s::l,by simp[l1],List.nodup_cons.2 ⟨fun hm=>?_,l2⟩,fun y hy=>?_⟩
   ·obtain⟨_,j,hj,hdj⟩:=l3 s hm;have:=hd.uniq hdj;omega
   rcases List.mem_cons.1 hy with rfl|hy
   ·exact⟨hr,d+1,Nat.le_refl _,hd⟩
   obtain⟨a,j,hj,hdj⟩:=l3 y hy;exact⟨a,j,by omega,hdj⟩
theorem dst_down{Dm:σ→Prop}(hDm: ∀s c,Dm s→0≤c∧c<256→Dm (nx s c)): ∀{d e:Nat} {s:σ},Dm s→Dst nx G s d→e≤d→ ∃y,Dm y∧Dst nx G y e
 |0,e,s,hr,hd,he=>by
   obtain rfl:e=0:=by omega
   exact⟨s,hr,hd⟩
 |d+1,e,s,hr,hd,he=>by
   by_cases h:e=d+1
   ·subst h;exact⟨s,hr,hd⟩
   obtain⟨c,hc,hd'⟩:=dst_step hd;exact dst_down hDm (hDm s c hr hc) hd' Om
end
def nx2(rows:List LI)(p:Int×Int)(c:Int):Int×Int:=(nxt rows p.1 c,nxt rows p.2 c)
def Apt(rule:LI)(p:Int×Int):Prop:=rule.getD p.1.toNat 0≠rule.getD p.2.toNat 0
def Dm2(n:Nat)(p:Int×Int):Prop:=(0≤p.1∧p.1<n)∧0≤p.2∧p.2<n
def Alk(rows:List LI)(rule:LI)(i k:Int):Prop:= ∀t,Byt t→rule.getD (t.foldl (nxt rows) i).toNat 0=rule.getD (t.foldl (nxt rows) k).toNat 0
theorem foldl_nx2: ∀(t:LI) (p:Int×Int),t.foldl (nx2 rows) p=(t.foldl (nxt rows) p.1,t.foldl (nxt rows) p.2)
 | [],_=>rfl
 |c::t,p=>by
   rw[List.foldl_cons,foldl_nx2 t];rfl
section
variable {N:Nat}{rows:List LI}{rule entry:LI}
theorem alk_iff{i k:Int}:Alk rows rule i k↔ ∀u,¬LG (nx2 rows) (Apt rule) (i,k) u:=by
 constructor
 ·rintro h u ⟨hu,hg⟩;rw[foldl_nx2]at hg;exact hg (h u hu)
 intro h t ht;refine Classical.byContradiction fun hne=>h t ⟨ht,?_⟩;rw[foldl_nx2];exact hne
theorem Alk.refl(i:Int):Alk rows rule i i:=fun _ _=>rfl
theorem Alk.symm{i k:Int}(h:Alk rows rule i k):Alk rows rule k i:=fun t ht=>(h t ht).symm
theorem Alk.trans{i k l:Int}(h:Alk rows rule i k)(h':Alk rows rule k l):Alk rows rule i l:=fun t ht=>(h t ht).trans (h' t ht)
theorem Alk.step{i k c:Int}(h:Alk rows rule i k)(hc:0≤c∧c<256):Alk rows rule (nxt rows i c) (nxt rows k c):=fun t ht=>h (c::t) fun x hx=>by
 rcases List.mem_cons.1 hx with rfl|hx
 ·exact hc
 exact ht x hx
theorem Alk.rul{i k:Int}(h:Alk rows rule i k):rule.getD i.toNat 0=rule.getD k.toNat 0:=h [] fun x hx=>by simp at hx
theorem alk_of{R:Int→Int→Prop}{n:Nat}(hr: ∀i k,(0≤i∧i<(n:Int))→(0≤k∧k<(n:Int))→R i k→rule.getD i.toNat 0=rule.getD k.toNat 0)
 (hn: ∀i c,(0≤i∧i<(n:Int))→(0≤c∧c<256)→0≤nxt rows i c∧nxt rows i c<(n:Int))
 (hs: ∀i k c,(0≤i∧i<(n:Int))→(0≤k∧k<(n:Int))→R i k→0≤c∧c<256→R (nxt rows i c) (nxt rows k c)): ∀{i k:Int},(0≤i∧i<(n:Int))→(0≤k∧k<(n:Int))→R i k→Alk rows rule i k:=by
 intro i k hi hk h t
 induction t generalizing i k with
 |nil=>intro _;exact hr i k hi hk h
 |cons c t ih=>
   intro hb;have hc:=hb c Sm;exact ih (hn i c hi hc) (hn k c hk hc) (hs i k c hi hk h hc) fun x hx=>hb x (by simp[hx])
theorem dm2_step(hs:Sz rows rule entry)(h:Rt rows rule entry): ∀p c,Dm2 rows.length p→0≤c∧c<256→Dm2 rows.length (nx2 rows p c):=fun _ _ hp hc=>⟨nxt_rng hs h hp.1 hc,nxt_rng hs h hp.2 hc⟩
theorem dm2_len{n:Nat}{l:List (Int×Int)}(hn:l.Nodup)(hd: ∀p∈l,Dm2 n p):l.length≤n*n:=by
 have hA:Acc (n*n) (l.map fun p=>p.1*n+p.2):=by
  refine⟨?_,fun x hx=>?_⟩
  ·unfold List.Nodup at hn ⊢;rw[List.pairwise_map];refine List.Pairwise.imp_of_mem (fun{p q} hp hq hne he=>hne ?_) hn;obtain⟨⟨p1,p2⟩,p3,p4⟩:=hd p hp;obtain⟨⟨q1,q2⟩,q3,q4⟩:=hd q hq
   have h1:p.1=q.1:=by
    rcases Int.lt_trichotomy p.1 q.1 with hl|he'|hl
    ·have:(p.1+1)*n≤q.1*n:=Int.mul_le_mul_of_nonneg_right Om Om;rw[Int.add_mul]at this;omega
    ·exact he'
    have:(q.1+1)*n≤p.1*n:=Int.mul_le_mul_of_nonneg_right Om Om;rw[Int.add_mul]at this;omega
   rw[h1]at he;exact Prod.ext h1 Om
  obtain⟨p,hp,rfl⟩:=List.mem_map.1 hx;obtain⟨⟨p1,p2⟩,p3,p4⟩:=hd p hp;have h1:0≤p.1*n:=Int.mul_nonneg p1 Om;have h2:(p.1+1)*n≤n*n:=Int.mul_le_mul_of_nonneg_right Om Om;rw[Int.add_mul]at h2;rw[Int.natCast_mul];omega
 have:=hA.len;simpa using this
theorem dst2_le(hs:Sz rows rule entry)(h:Rt rows rule entry){p:Int×Int}{d:Nat}(hr:Dm2 rows.length p)(hd:Dst (nx2 rows) (Apt rule) p d):d<rows.length*rows.length:=by
 obtain⟨l,l1,l2,l3⟩:=dst_chain (dm2_step hs h) hr hd;have:=dm2_len l2 fun y hy=>(l3 y hy).1;omega
end
inductive RG:LI→Nat→Prop
 |nil:RG [] 0
 |old {P:LI} {m:Nat} {x:Int}:RG P m→x∈P→RG (P++ [x]) m
 |new {P:LI} {m:Nat}:RG P m→RG (P++ [(m:Int)]) (m+1)
theorem RG.mem{P:LI}{m:Nat}(h:RG P m): ∀{x:Int},x∈P↔0≤x∧x<m:=by
 induction h with
 |nil=>intro x;simp
 |old _ hx ih=>
   intro y;rw[List.mem_append,ih];constructor
   ·rintro(h|h)
    ·exact h
    simp at h;subst h;exact ih.1 hx
   exact .inl
 | @new P m _ ih=>
   intro y;rw[List.mem_append,ih];simp;omega
theorem RG.le{P:LI}{m:Nat}(h:RG P m):m≤P.length:=by
 induction h with
 |nil=>simp
 |old _ _ ih=>simp;omega
 |new _ ih=>simp;omega
theorem RG.first{P:LI}{m:Nat}(h:RG P m)(hl:0<P.length):P[0]? =some 0∧1≤m:=by
 induction h with
 |nil=>simp at hl
 | @old P m x _ hx ih=>
   have hp:0<P.length:=List.length_pos_of_mem hx;rw[List.getElem?_append_left hp];exact ih hp
 | @new P m h ih=>
   by_cases hp:0<P.length
   ·rw[List.getElem?_append_left hp];exact⟨(ih hp).1,by omega⟩
   have:P= []:=List.length_eq_zero_iff.1 Om;subst this;have:=h.le;simp at this;subst this;exact⟨rfl,by omega⟩
theorem RG.uniq{P:LI}{m:Nat}(h:RG P m): ∀{P':LI} {m':Nat},RG P' m'→P.length=P'.length→(∀i k,i<P.length→k<P.length→(P[i]? =P[k]? ↔P'[i]? =P'[k]?))→P=P'∧m=m':=by
 have key: ∀{P P':LI} {x y:Int},P.length=P'.length→(∀i k,i<(P++ [x]).length→k<(P++ [x]).length→((P++ [x])[i]? =(P++ [x])[k]? ↔(P'++ [y])[i]? =(P'++ [y])[k]?))→
  (∀i k,i<P.length→k<P.length→(P[i]? =P[k]? ↔P'[i]? =P'[k]?))∧ ∀k,k<P.length→(some x=P[k]? ↔some y=P'[k]?):=by
  intro P P' x y hl hh;refine⟨fun i k hi hk=>?_,fun k hk=>?_⟩
  ·have:=hh i k (by simp;omega) (by simp;omega);rwa[List.getElem?_append_left hi,List.getElem?_append_left hk,List.getElem?_append_left (hl▸hi),List.getElem?_append_left (hl▸hk)]at this
  have h1:=hh P.length k Sm (by simp;omega);have e1:(P++ [x])[P.length]? =some x:=List.getElem?_concat_length;have e2:(P'++ [y])[P.length]? =some y:=by rw[hl];exact List.getElem?_concat_length
  have e3:(P++ [x])[k]? =P[k]? :=List.getElem?_append_left hk;have e4:(P'++ [y])[k]? =P'[k]? :=List.getElem?_append_left Om;rwa[e1,e2,e3,e4]at h1
 induction h with
 |nil=>
   intro P' m' h' hl _
   cases h' with
   |nil=>exact⟨rfl,rfl⟩
   |old _ _=>simp at hl
   |new _=>simp at hl
 | @old P m x h hx ih=>
   intro P' m' h' hl hh;obtain⟨k,hk,hxk⟩:=List.getElem_of_mem hx
   cases h' with
   |nil=>simp at hl
   | @old P1 _ x1 h1 hx1=>
     have hl':P.length=P1.length:=by simpa using hl
     obtain⟨k1,k2⟩:=key hl' hh;obtain⟨rfl,rfl⟩:=ih h1 hl' k1;have:=(k2 k hk).1 (by rw[List.getElem?_eq_getElem hk,hxk]);rw[List.getElem?_eq_getElem hk,hxk]at this;obtain rfl:=Option.some.inj this;exact⟨rfl,rfl⟩
   | @new P1 m1 h1=>
     have hl':P.length=P1.length:=by simpa using hl
     obtain⟨k1,k2⟩:=key hl' hh;obtain⟨rfl,rfl⟩:=ih h1 hl' k1;have:=(k2 k hk).1 (by rw[List.getElem?_eq_getElem hk,hxk]);have hm:=List.mem_of_getElem? this.symm;have:=(h1.mem.1 hm);omega
 | @new P m h ih=>
   intro P' m' h' hl hh
   cases h' with
   |nil=>simp at hl
   | @old P1 _ x1 h1 hx1=>
     have hl':P.length=P1.length:=by simpa using hl
     obtain⟨k1,k2⟩:=key hl' hh;obtain⟨rfl,rfl⟩:=ih h1 hl' k1;obtain⟨k,hk,hxk⟩:=List.getElem_of_mem hx1;have:=(k2 k hk).2 (by rw[List.getElem?_eq_getElem hk,hxk]);have hm:=List.mem_of_getElem? this.symm;have:=(h.mem.1 hm);omega
   | @new P1 m1 h1=>
     have hl':P.length=P1.length:=by simpa using hl
     obtain⟨k1,k2⟩:=key hl' hh;obtain⟨rfl,rfl⟩:=ih h1 hl' k1;exact⟨rfl,rfl⟩
structure Cls(rows:List LI)(rule:LI)(P:LI)(m:Nat):Prop where
 rg:RG P m
 len:P.length=rows.length
 iff_: ∀i k:Nat,i<rows.length→k<rows.length→(P[i]? =P[k]? ↔Alk rows rule (i:Int) (k:Int))
theorem Cls.uniq{rule P P':LI}{m m':Nat}(h:Cls rows rule P m)(h':Cls rows rule P' m'):P=P'∧m=m':=
 h.rg.uniq h'.rg (h.len.trans h'.len.symm) fun i k hi hk=>(h.iff_ i k (h.len▸hi) (h.len▸hk)).trans (h'.iff_ i k (h.len▸hi) (h.len▸hk)).symm
open Go Go.Eng
set_option maxRecDepth 100000
structure FarSh(n:Nat)(out:List LI):Prop where
 l:out.length=n
 r: ∀r∈out,r.length=n
def fv(out:List LI)(i k:Nat):Int:=(out.getD i []).getD k 0
theorem FarSh.get{n:Nat}{out:List LI}{i k:Nat}(h:FarSh n out)(hi:i<n)(hk:k<n): ∃r,out[i]? =some r∧r.length=n∧r[k]? =some (fv out i k):=by
 have hl:i<out.length:=by rw[h.l];exact hi
 refine⟨out[i],List.getElem?_eq_getElem hl,h.r _ (List.getElem_mem hl),?_⟩;have hr:=h.r _ (List.getElem_mem hl);have hkl:k<out[i].length:=by omega
 unfold fv;rw[getD_of (List.getElem?_eq_getElem hl),getD_of (List.getElem?_eq_getElem hkl)];exact List.getElem?_eq_getElem hkl
theorem FarSh.set{n:Nat}{out:List LI}{i k:Nat}{r:LI}(h:FarSh n out)(hi:i<n)(hk:k<n)(hr:out[i]? =some r)(v:Int):
 FarSh n (out.set i (r.set k v))∧ ∀i' k',i'<n→k'<n→fv (out.set i (r.set k v)) i' k'=if i'=i∧k'=k then v else fv out i' k':=by
 have hrl:=h.r _ (List.mem_of_getElem? hr);have hil:i<out.length:=by rw[h.l];exact hi
 refine⟨⟨by rw[List.length_set];exact h.l,fun x hx=>?_⟩,fun i' k' hi' hk'=>?_⟩
 ·rcases List.mem_or_eq_of_mem_set hx with hx|rfl
  ·exact h.r x hx
  rw[List.length_set];exact hrl
 unfold fv;by_cases he:i'=i
 ·subst he;rw[getD_of (List.getElem?_set_self hil),getD_of hr];by_cases hk2:k'=k
  ·subst hk2;rw[if_pos ⟨rfl,rfl⟩];exact getD_of (List.getElem?_set_self Om)
  rw[if_neg Om,List.getD,List.getElem?_set_ne Om];rfl
 have e:(out.set i (r.set k v)).getD i' []=out.getD i' []:=by
  rw[List.getD,List.getElem?_set_ne Om];rfl
 rw[if_neg Om,e]
section
variable {N:Nat}{rows:List LI}{rule entry:LI}
structure FarR(rows:List LI)(rule:LI)(L:Nat)(P:Nat→Nat→Prop)(out:List LI)(fresh:Bool):Prop where
 sh:FarSh rows.length out
 v: ∀i k:Nat,i<rows.length→k<rows.length→(∃d:Nat,d≤L∧fv out i k=(d:Int)∧Dst (nx2 rows) (Apt rule) ((i:Int),(k:Int)) d)∨
   (fv out i k=((L+1:Nat):Int)∧Dst (nx2 rows) (Apt rule) ((i:Int),(k:Int)) (L+1)∧fresh=true)∨
   (fv out i k= -1∧(∀d,d≤L→ ¬LIn (nx2 rows) (Apt rule) d ((i:Int),(k:Int)))∧(P i k→ ¬LIn (nx2 rows) (Apt rule) (L+1) ((i:Int),(k:Int))))
 f:fresh=true→ ∃i k:Nat,i<rows.length∧k<rows.length∧Dst (nx2 rows) (Apt rule) ((i:Int),(k:Int)) (L+1)
theorem far_step{L i k c:Nat}{out:List LI}{fr:Bool}{r:LI}(_hN:4294967296≤N)(hs:Sz rows rule entry)(h:Rt rows rule entry)(hL:L<4294967296)(hi:i<rows.length)(hk:k<rows.length)(hc:c<256)(hsh:FarSh rows.length out)
 (hr:out[i]? =some r) (hf:fv out i k<0):F_81 N rows ((L+1:Nat):Int) (i:Int) (k:Int) (c:Int) out fr=
  if fv out (nxt rows i c).toNat (nxt rows k c).toNat=(L:Int)then some (.inl (((c+1:Nat):Int),out.set i (r.set k ((L+1:Nat):Int)),true))else some (.inl (((c+1:Nat):Int),out,fr)):=by
 obtain⟨r',e1,e2,e3⟩:=hsh.get hi hk;rw[hr]at e1;obtain rfl:=Option.some.inj e1;obtain⟨row,a1,a2,a3,_⟩:=nxt_get hs (s:=(i:Int)) (c:=(c:Int)) Om Om;obtain⟨row',b1,b2,b3,_⟩:=nxt_get hs (s:=(k:Int)) (c:=(c:Int)) Om Om;have ar:=nxt_rng hs h (s:=(i:Int)) (c:=(c:Int)) Om Om;have br:=nxt_rng hs h (s:=(k:Int)) (c:=(c:Int)) Om Om;generalize nxt rows i c=y at*;generalize nxt rows k c=z at*;obtain⟨q,q1,q2,q3⟩:=hsh.get (i:=y.toNat) (k:=z.toNat) Om Om;have f1:idx out y=some q:=by have:=idx_of q1;rwa[show((y.toNat:Nat):Int)=y by omega]at this
 have f2:idx q z=some (fv out y.toNat z.toNat):=by have:=idx_of q3;rwa[show((z.toNat:Nat):Int)=z by omega]at this
 have hw:w64 (((L+1:Nat):Int)-1)=(L:Int):=by rw[w64,wrap64]<;>omega
 have hkr:k<r.length:=by omega
 have hil:i<out.length:=lt_len hr;unfold F_81;by_cases hv:fv out y.toNat z.toNat=(L:Int)
 ·have hv':(fv out y.toNat z.toNat==(L:Int))=true:=by simpa using hv
  rw[if_pos hv];simp only[show((c:Int)<256) by omega,hf,decide_true,if_true,idx_of hr,idx_of e3,a1,a3,b1,b3,f1,f2,hw,hv',setI_nat hkr,setI_nat hil,bind,Option.bind_some];rw[w64_succ Om]
 have hv':(fv out y.toNat z.toNat==(L:Int))=false:=by simpa using hv
 rw[if_neg hv];simp only[show((c:Int)<256) by omega,hf,decide_true,if_true,idx_of hr,idx_of e3,a1,a3,b1,b3,f1,f2,hw,hv',bind,Option.bind_some,Bool.false_eq_true,if_false];rw[w64_succ Om]
theorem far_stop{L i k c:Nat}{out:List LI}{fr:Bool}(hi:i<rows.length)(hk:k<rows.length)(hsh:FarSh rows.length out)(hf:256≤c∨0≤fv out i k):
 F_81 N rows ((L+1:Nat):Int) (i:Int) (k:Int) (c:Int) out fr=some (.inr (out,fr)):=by
 obtain⟨r,e1,e2,e3⟩:=hsh.get hi hk;unfold F_81;by_cases hc:(c:Int)<256
 ·have: ¬fv out i k<0:=by omega
  simp only[hc,this,decide_true,decide_false,if_true,idx_of e1,idx_of e3,bind,Option.bind_some,Bool.false_eq_true,if_false]
 simp only[hc,decide_false,Bool.false_eq_true,if_false,bind,Option.bind_some]
theorem far_cell{L i k:Nat}{P:Nat→Nat→Prop}{out:List LI}{fr:Bool}(hN:4294967296≤N)(hs:Sz rows rule entry)(h:Rt rows rule entry)(hL:L<4294967296)(hi:i<rows.length)(hk:k<rows.length)(hR:FarR rows rule L P out fr):
 ∃out' fr',iterO N (fun s=>F_81 N rows ((L+1:Nat):Int) (i:Int) (k:Int) s.1 s.2.1 s.2.2) (0,out,fr)=some (out',fr')∧FarR rows rule L (fun a b=>P a b∨(a=i∧b=k)) out' fr':=by
 have hv:=hR.v i k hi hk
 have hneg:0≤fv out i k∨(fv out i k= -1∧ ∀d,d≤L→ ¬LIn (nx2 rows) (Apt rule) d ((i:Int),(k:Int))):=by
  rcases hv with⟨d,_,h1,_⟩|⟨h1,_⟩|⟨h1,h2,_⟩
  ·exact .inl Om
  ·exact .inl Om
  exact .inr ⟨h1,h2⟩
 rcases hneg with hge|⟨hm,hno⟩
 ·refine⟨out,fr,?_,hR.sh,fun a b ha hb=>?_,hR.f⟩
  ·refine iterO_for0 (fun c=>((c:Int),out,fr)) 0 rfl Om (fun c hc=>by omega) (far_stop (c:=0) hi hk hR.sh (.inr hge))
  rcases hR.v a b ha hb with h1|h1|⟨h1,h2,h3⟩
  ·exact .inl h1
  ·exact .inr (.inl h1)
  refine .inr (.inr ⟨h1,h2,fun hp=>?_⟩);rcases hp with hp|⟨rfl,rfl⟩
  ·exact h3 hp
  omega
 obtain⟨r,e1,e2,e3⟩:=hR.sh.get hi hk
 have dec: ∀c:Nat,c<256→(fv out (nxt rows i c).toNat (nxt rows k c).toNat=(L:Int)↔Dst (nx2 rows) (Apt rule) (nxt rows i c,nxt rows k c) L):=by
  intro c hc;have ar:=nxt_rng hs h (s:=(i:Int)) (c:=(c:Int)) Om Om;have br:=nxt_rng hs h (s:=(k:Int)) (c:=(c:Int)) Om Om;have:=hR.v (nxt rows i c).toNat (nxt rows k c).toNat Om Om;rw[show(((nxt rows i c).toNat:Nat):Int)=nxt rows i c by omega,show(((nxt rows k c).toNat:Nat):Int)=nxt rows k c by omega]at this;rcases this with⟨d,d1,d2,d3⟩|⟨d2,d3,_⟩|⟨d2,d3,_⟩
  ·constructor
   ·intro he;obtain rfl:d=L:=by omega
    exact d3
   intro hd;rw[d2,d3.uniq hd]
  ·constructor
   ·intro he;omega
   intro hd;have:=d3.uniq hd;omega
  constructor
  ·intro he;omega
  intro hd;exact absurd hd.1 (d3 L (Nat.le_refl _))
 by_cases hex: ∃c:Nat,c<256∧Dst (nx2 rows) (Apt rule) (nxt rows i c,nxt rows k c) L
 ·obtain⟨c0,hc0,hd0⟩:=hex;obtain⟨c,hcle,⟨hc1,hc2⟩,hc3⟩:=least (P:=fun c:Nat=>c<256∧Dst (nx2 rows) (Apt rule) (nxt rows i c,nxt rows k c) L) ⟨hc0,hd0⟩;obtain⟨g1,g2⟩:=hR.sh.set hi hk e1 ((L+1:Nat):Int);have hDst:Dst (nx2 rows) (Apt rule) ((i:Int),(k:Int)) (L+1):=⟨lin_succ.2 ⟨(c:Int),by omega,hc2.1⟩,fun j hj=>hno j Om⟩;refine⟨out.set i (r.set k ((L+1:Nat):Int)),true,?_,g1,fun a b ha hb=>?_,fun _=>⟨i,k,hi,hk,hDst⟩⟩
  ·refine iterO_for0 (fun a=>((a:Int),(if a≤c then out else out.set i (r.set k ((L+1:Nat):Int))),if a≤c then fr else true)) (c+1) Sm Om (fun a ha=>?_) ?_
   ·simp only[show a≤c by omega,if_true];rw[far_step hN hs h hL hi hk Om hR.sh e1 Om];by_cases hac:a=c
    ·subst hac;rw[if_pos ((dec a hc1).2 hc2)];simp only[show¬a+1≤a by omega,if_false]
    rw[if_neg (fun q=>hc3 a Om ⟨by omega,(dec a Om).1 q⟩)];simp only[show a+1≤c by omega,if_true]
   simp only[show¬c+1≤c by omega,if_false];exact far_stop (c:=c+1) hi hk g1 (.inr (by rw[g2 i k hi hk,if_pos ⟨rfl,rfl⟩];omega))
  rw[g2 a b ha hb];by_cases hab:a=i∧b=k
  ·obtain⟨rfl,rfl⟩:=hab;rw[if_pos ⟨rfl,rfl⟩];exact .inr (.inl ⟨rfl,hDst,rfl⟩)
  rw[if_neg hab];rcases hR.v a b ha hb with h1|⟨h1,h2,_⟩|⟨h1,h2,h3⟩
  ·exact .inl h1
  ·exact .inr (.inl ⟨h1,h2,rfl⟩)
  exact .inr (.inr ⟨h1,h2,fun hp=>hp.elim h3 fun q=>absurd q hab⟩)
 refine⟨out,fr,?_,hR.sh,fun a b ha hb=>?_,hR.f⟩
 ·refine iterO_for0 (fun a=>((a:Int),out,fr)) 256 rfl Om (fun a ha=>?_) (far_stop (c:=256) hi hk hR.sh (.inl Om));rw[far_step hN hs h hL hi hk ha hR.sh e1 Om,if_neg (fun q=>hex ⟨a,ha,(dec a ha).1 q⟩)]
 rcases hR.v a b ha hb with h1|h1|⟨h1,h2,h3⟩
 ·exact .inl h1
 ·exact .inr (.inl h1)
 refine .inr (.inr ⟨h1,h2,fun hp=>?_⟩);rcases hp with hp|⟨rfl,rfl⟩
 ·exact h3 hp
 intro hl;obtain⟨c,hc,hl'⟩:=lin_succ.1 hl;refine hex ⟨c.toNat,by omega,?_⟩;rw[show((c.toNat:Nat):Int)=c by omega];exact⟨hl',fun j hj hlj=>h2 (j+1) Om (lin_succ.2 ⟨c,hc,hlj⟩)⟩
theorem FarR.congr{L:Nat}{P P':Nat→Nat→Prop}{out:List LI}{fr:Bool}(h:FarR rows rule L P out fr)(hp: ∀i k,i<rows.length→k<rows.length→P' i k→P i k):FarR rows rule L P' out fr:=
 ⟨h.sh,fun i k hi hk=>(h.v i k hi hk).imp id fun q=>q.imp id fun⟨a,b,c⟩=>⟨a,b,fun x=>c (hp i k hi hk x)⟩,h.f⟩
theorem far_row{L i:Nat}{P:Nat→Nat→Prop}{out:List LI}{fr:Bool}(hN:4294967296≤N)(hs:Sz rows rule entry)(h:Rt rows rule entry)(hL:L<4294967296)(hi:i<rows.length)(hR:FarR rows rule L P out fr):
 ∃out' fr',iterO N (fun s=>F_130 N rows ((L+1:Nat):Int) (i:Int) s.1 s.2.1 s.2.2) (0,out,fr)=some (out',fr')∧FarR rows rule L (fun a b=>P a b∨a=i) out' fr':=by
 have hn2:=h.n2
 obtain⟨s,h1,h2⟩:=loop_inv (f:=fun s=>F_130 N rows ((L+1:Nat):Int) (i:Int) s.1 s.2.1 s.2.2) (fun k (s:List LI×Bool)=>((k:Int),s.1,s.2)) (fun s=>(s.1,s.2)) (List.range rows.length)
  (fun k s=>FarR rows rule L (fun a b=>P a b∨(a=i∧b<k)) s.1 s.2) (N:=N) (s:=(out,fr)) (by simp;omega) (hR.congr fun a b _ _ q=>q.elim id fun q=>by omega)
  (fun k y s hx hI=>by
   obtain⟨hk,rfl⟩:=range_get hx;obtain⟨out',fr',q1,q2⟩:=far_cell (N:=N) hN hs h hL hi hk hI;refine⟨(out',fr'),?_,q2.congr fun a b _ _ q=>?_⟩
   ·unfold F_130;simp only[show((y:Int)<(rows.length:Int)) by omega,decide_true,if_true,bind];rw[q1];simp only[Option.bind_some];rw[w64_succ Om]
   rcases q with q|⟨q1,q2⟩
   ·exact .inl (.inl q)
   by_cases hb:b=y
   ·exact .inr ⟨q1,hb⟩
   exact .inl (.inr ⟨q1,by omega⟩))
  (fun s _=>by unfold F_130;simp)
 refine⟨s.1,s.2,h1,h2.congr fun a b _ hb q=>q.imp id fun q=>⟨q,by simpa using hb⟩⟩
theorem far_round{L:Nat}{out:List LI}{fr:Bool}(hN:4294967296≤N)(hs:Sz rows rule entry)(h:Rt rows rule entry)(hL:L<4294967296)(hR:FarR rows rule L (fun _ _=>False) out fr):
 ∃out' fr',iterO N (fun s=>F_129 N rows ((L+1:Nat):Int) s.1 s.2.1 s.2.2) (0,out,fr)=some (out',fr')∧FarR rows rule L (fun _ _=>True) out' fr':=by
 have hn2:=h.n2
 obtain⟨s,h1,h2⟩:=loop_inv (f:=fun s=>F_129 N rows ((L+1:Nat):Int) s.1 s.2.1 s.2.2) (fun k (s:List LI×Bool)=>((k:Int),s.1,s.2)) (fun s=>(s.1,s.2)) (List.range rows.length)
  (fun i s=>FarR rows rule L (fun a _=>a<i) s.1 s.2) (N:=N) (s:=(out,fr)) (by simp;omega) (hR.congr fun a b _ _ q=>by omega)
  (fun i y s hx hI=>by
   obtain⟨hi,rfl⟩:=range_get hx;obtain⟨out',fr',q1,q2⟩:=far_row (N:=N) hN hs h hL hi hI;refine⟨(out',fr'),?_,q2.congr fun a b _ _ q=>?_⟩
   ·unfold F_129;simp only[show((y:Int)<(rows.length:Int)) by omega,decide_true,if_true,bind];rw[q1];simp only[Option.bind_some];rw[w64_succ Om]
   by_cases hb:a=y
   ·exact .inr hb
   exact .inl Om)
  (fun s _=>by unfold F_129;simp)
 refine⟨s.1,s.2,h1,h2.congr fun a b ha _ _=>by simpa using ha⟩
def FarIs(rows:List LI)(rule:LI)(F:List LI):Prop:=
 FarSh rows.length F∧ ∀i k:Nat,i<rows.length→k<rows.length→(∃d:Nat,fv F i k=(d:Int)∧Dst (nx2 rows) (Apt rule) ((i:Int),(k:Int)) d)∨(fv F i k= -1∧Alk rows rule (i:Int) (k:Int))
theorem far_spec(hN:4294967296≤N)(hs:Sz rows rule entry)(h:Rt rows rule entry): ∃F,F_1 N rows rule entry=some F∧FarIs rows rule F:=by
 have hn2:=h.n2;have hru:=h.ru;unfold F_1
 obtain⟨F0,a1,a2,a3⟩:=loop_inv (f:=fun s=>F_127 N rows rule s.1 s.2) (fun i (s:List LI)=>(s,(i:Int))) id (List.range rows.length)
  (fun i s=>s.length=i∧ ∀j,j<i→s[j]? =some ((List.range rows.length).map fun k=>if rule.getD j 0=rule.getD k 0 then(-1:Int)else 0)) (N:=N) (s:=[]) (by simp;omega) ⟨rfl,fun j hj=>by omega⟩
  (fun i y s hx hI=>by
   obtain⟨k1,k2⟩:=hI;obtain⟨hi,rfl⟩:=range_get hx
   obtain⟨r,b1,b2,b3⟩:=loop_inv (f:=fun s=>F_128 N rows rule (y:Int) s.1 s.2) (fun k (s:LI)=>(s,(k:Int))) id (List.range rows.length)
    (fun k s=>s.length=rows.length∧ ∀j,j<k→s[j]? =some (if rule.getD y 0=rule.getD j 0 then(-1:Int)else 0)) (N:=N) (s:=List.replicate rows.length 0) (by simp;omega) ⟨by simp,fun j hj=>by omega⟩
    (fun k z s hx hI=>by
     obtain⟨c1,c2⟩:=hI;obtain⟨hk,rfl⟩:=range_get hx;have hzs:z<s.length:=by omega
     have gy:idx rule (y:Int)=some (rule.getD y 0):=by rw[getD_of (List.getElem?_eq_getElem (show y<rule.length by omega))];exact idx_nat _
     have gz:idx rule (z:Int)=some (rule.getD z 0):=by rw[getD_of (List.getElem?_eq_getElem (show z<rule.length by omega))];exact idx_nat _
     have hzs':z<(s.set z (-1)).length:=by simpa using hzs
     refine⟨s.set z (if rule.getD y 0=rule.getD z 0 then(-1:Int)else 0),?_,by simpa using c1,fun j hj=>?_⟩
     ·unfold F_128;simp only[show((z:Int)<(rows.length:Int)) by omega,decide_true,if_true,idx_nat hzs,setI_nat hzs,gy,gz,bind,Option.bind_some];rw[w64_succ Om];by_cases hc:rule.getD y 0=rule.getD z 0
      ·have:(rule.getD y 0 != rule.getD z 0)=false:=by simpa using hc
       simp only[this,Bool.false_eq_true,if_false,Option.bind_some,if_pos hc]
      have:(rule.getD y 0 != rule.getD z 0)=true:=by simpa using hc
      simp only[this,if_true,idx_nat hzs',setI_nat hzs',Option.bind_some,List.set_set,if_neg hc]
     by_cases hjz:j=z
     ·subst hjz;rw[List.getElem?_set_self hzs]
     rw[List.getElem?_set_ne Om,c2 j Om])
    (fun s _=>by unfold F_128;simp)
   have hr:r=(List.range rows.length).map fun k=>if rule.getD y 0=rule.getD k 0 then(-1:Int)else 0:=by
    refine List.ext_getElem? fun j=>?_;by_cases hj:j<rows.length
    ·rw[b3 j (by simpa using hj),List.getElem?_map,List.getElem?_range hj];rfl
    rw[List.getElem?_eq_none Om,List.getElem?_eq_none (by simp;omega)]
   refine⟨s++ [r],?_,by simp[k1],fun j hj=>?_⟩
   ·unfold F_127;simp only[show((y:Int)<(rows.length:Int)) by omega,decide_true,if_true,bind];rw[mk_eq Om];simp only[Option.bind_some];rw[show iterO N (fun s=>F_128 N rows rule (y:Int) s.1 s.2) (List.replicate rows.length 0,0)=_ from b1];simp only[Option.bind_some,id];rw[app_eq (by simp;omega)];simp only[Option.bind_some];rw[w64_succ Om]
   by_cases hjy:j=y
   ·subst hjy;rw[←k1,List.getElem?_concat_length,hr,k1]
   rw[List.getElem?_append_left Om,k2 j Om])
  (fun s _=>by unfold F_127;simp)
 rw[List.length_range]at a2 a3;rw[show iterO N (fun s=>F_127 N rows rule s.1 s.2) ([],0)=_ from a1];simp only[bind,Option.bind_some,id]
 have sh0:FarSh rows.length F0:=⟨a2,fun r hr=>by
  obtain⟨j,hj⟩:=List.mem_iff_getElem?.1 hr;have hjl:=lt_len hj;rw[a3 j Om]at hj;obtain rfl:=Option.some.inj hj;simp⟩
 have v0: ∀i k:Nat,i<rows.length→k<rows.length→fv F0 i k=if rule.getD i 0=rule.getD k 0 then(-1:Int)else 0:=by
  intro i k hi hk;unfold fv;rw[getD_of (a3 i hi)];refine getD_of ?_;rw[List.getElem?_map,List.getElem?_range hk];rfl
 have R0:FarR rows rule 0 (fun _ _=>False) F0 false:=by
  refine⟨sh0,fun i k hi hk=>?_,fun q=>by cases q⟩;rw[v0 i k hi hk];by_cases hc:rule.getD i 0=rule.getD k 0
  ·rw[if_pos hc];refine .inr (.inr ⟨rfl,fun d hd hl=>?_,fun q=>q.elim⟩);obtain rfl:d=0:=by omega
   have:=lin_zero.1 hl;exact this (by simpa using hc)
  rw[if_neg hc];exact .inl ⟨0,Nat.le_refl _,rfl,lin_zero.2 (fun q=>hc (by simpa using q)),fun j hj=>by omega⟩
 have hnn:rows.length*rows.length≤40000:=Nat.le_trans (Nat.mul_le_mul hn2 hn2) (by decide)
 refine iterO_while (f:=fun s=>F_165 N rows s.1 s.2) (fun s=> ∃L:Nat,s.2=((L+1:Nat):Int)∧L≤rows.length*rows.length∧FarR rows rule L (fun _ _=>False) s.1 false) (fun s=>rows.length*rows.length+2-s.2.toNat)
  (fun F=>FarIs rows rule F) ?_ (N:=N) (s:=(F0,1)) ⟨0,rfl,by omega,R0⟩ (by simp;omega)
 rintro⟨out,lg⟩ ⟨L,hl,hL,hR⟩;simp only at hl hR;subst hl;obtain⟨out',fr',q1,q2⟩:=far_round (N:=N) (L:=L) hN hs h Om hR
 cases fr' with
 |false=>
   right;refine⟨out',?_,q2.sh,fun i k hi hk=>?_⟩
   ·unfold F_165;simp only[bind];rw[q1];rfl
   rcases q2.v i k hi hk with⟨d,d1,d2,d3⟩|⟨_,_,d3⟩|⟨d1,d2,d3⟩
   ·exact .inl ⟨d,d2,d3⟩
   ·cases d3
   refine .inr ⟨d1,alk_iff.2 fun u hu=>?_⟩;obtain⟨e,e1,e2⟩:=dst_of (nx:=nx2 rows) (G:=Apt rule) (s:=((i:Int),(k:Int))) (d:=u.length) ⟨u,hu,rfl⟩;by_cases he:e≤L+1
   ·by_cases he':e≤L
    ·exact d2 e he' e2.1
    obtain rfl:e=L+1:=by omega
    exact d3 trivial e2.1
   obtain⟨⟨y1,y2⟩,yd,ye⟩:=dst_down (dm2_step hs h) (e:=L+1) (s:=((i:Int),(k:Int))) ⟨by simp only;omega,by simp only;omega⟩ e2 Om;obtain⟨p1,p2⟩:=yd;simp only at p1 p2;have:=q2.v y1.toNat y2.toNat Om Om;rw[show((y1.toNat:Nat):Int)=y1 by omega,show((y2.toNat:Nat):Int)=y2 by omega]at this;rcases this with⟨d,c1,c2,c3⟩|⟨_,_,c3⟩|⟨_,_,c3⟩
   ·have:=c3.uniq ye;omega
   ·cases c3
   exact c3 trivial ye.1
 |true=>
   left;obtain⟨i,k,hi,hk,hd⟩:=q2.f rfl;have hle:=dst2_le hs h (p:=((i:Int),(k:Int))) ⟨by simp only;omega,by simp only;omega⟩ hd;refine⟨(out',((L+1+1:Nat):Int)),?_,⟨L+1,rfl,by omega,q2.sh,fun i k hi hk=>?_,fun q=>by cases q⟩,by simp only;omega⟩
   ·unfold F_165;simp only[bind];rw[q1];simp only[Option.bind_some,Bool.not_true,Bool.false_eq_true,if_false];rw[w64_succ Om]
   rcases q2.v i k hi hk with⟨d,d1,d2,d3⟩|⟨d1,d2,_⟩|⟨d1,d2,d3⟩
   ·exact .inl ⟨d,by omega,d2,d3⟩
   ·exact .inl ⟨L+1,by omega,d1,d2⟩
   refine .inr (.inr ⟨d1,fun d hd=>?_,fun q=>q.elim⟩);by_cases he:d≤L
   ·exact d2 d he
   obtain rfl:d=L+1:=by omega
   exact d3 trivial
end
open Go Go.Eng
set_option maxRecDepth 100000
theorem mget_mset_g{α β:Type}[BEq α][LawfulBEq α]{v:β}{k k':α}: ∀{m:List (α×β)},mget (mset m k v) k'=if(k==k')=true then some v else mget m k'
 | []=>by
   cases h:k==k'<;>simp[mget,mset,h]
 |e::m=>by
   have ih:=mget_mset_g (v:=v) (k:=k) (k':=k') (m:=m);by_cases h1:e.1=k
   ·have:mset (e::m) k v=(k,v)::m:=by simp[mset,List.findIdx?_cons,h1]
    rw[this];cases h:k==k'
    ·simp[mget,h,h1]
    simp[mget,h]
   have:mset (e::m) k v=e::mset m k v:=by
    unfold mset;rw[List.findIdx?_cons];have:(e.1==k)=false:=by simp[h1]
    rw[this];cases h:List.findIdx? (fun e=>e.1==k) m<;>simp
   rw[this];by_cases h2:e.1=k'
   ·subst h2;have:(k==e.1)=false:=by simp[Ne.symm h1]
    simp[mget,this]
   have e1:mget (e::mset m k v) k'=mget (mset m k v) k':=by
    have:(e.1==k')=false:=by simp[h2]
    simp[mget,this]
   have e2:mget (e::m) k'=mget m k':=by
    have:(e.1==k')=false:=by simp[h2]
    simp[mget,this]
   rw[e1,e2];exact ih
theorem mset_len{α β:Type}[BEq α]{v:β}{k:α}{m:List (α×β)}(h:mget m k=none):(mset m k v).length=m.length+1:=by
 have h1:m.find? (fun e=>e.1==k)=none:=by simpa[mget]using h
 have h2:m.findIdx? (fun e=>e.1==k)=none:=by
  rw[List.findIdx?_eq_none_iff];rw[List.find?_eq_none]at h1;intro x hx;simpa using h1 x hx
 simp[mset,h2]
structure PC(R:Nat→Nat→Prop)(i:Nat)(P:LI)(m:Nat):Prop where
 rg:RG P m
 len:P.length=i
 iff_: ∀a b:Nat,a<i→b<i→(P[a]? =P[b]? ↔R a b)
structure Eqv(R:Nat→Nat→Prop):Prop where
 r: ∀a,R a a
 s: ∀a b,R a b→R b a
 t: ∀a b c,R a b→R b c→R a c
theorem PC.nil{R:Nat→Nat→Prop}:PC R 0 [] 0:=⟨.nil,rfl,fun a b ha=>by omega⟩
theorem PC.old{R:Nat→Nat→Prop}{i m k:Nat}{P:LI}{p:Int}(hE:Eqv R)(h:PC R i P m)(hk:k<i)(hR:R i k)(hp:P[k]? =some p):PC R (i+1) (P++ [p]) m:=by
 refine⟨h.rg.old (List.mem_of_getElem? hp),by simp[h.len],fun a b ha hb=>?_⟩;have hl:=h.len;have top:(P++ [p])[i]? =some p:=by rw[←hl];exact List.getElem?_concat_length
 have low: ∀c,c<i→(P++ [p])[c]? =P[c]? :=fun c hc=>List.getElem?_append_left Om;by_cases h1:a=i
 ·subst h1;by_cases h2:b=a
  ·subst h2;exact⟨fun _=>hE.r _,fun _=>rfl⟩
  rw[top,low b Om,←hp,h.iff_ k b hk Om];exact⟨fun q=>hE.t _ _ _ hR q,fun q=>hE.t _ _ _ (hE.s _ _ hR) q⟩
 by_cases h2:b=i
 ·subst h2;rw[top,low a Om,←hp,h.iff_ a k Om hk];exact⟨fun q=>hE.t _ _ _ q (hE.s _ _ hR),fun q=>hE.t _ _ _ q hR⟩
 rw[low a Om,low b Om];exact h.iff_ a b Om Om
theorem PC.new{R:Nat→Nat→Prop}{i m:Nat}{P:LI}(hE:Eqv R)(h:PC R i P m)(hR: ∀k,k<i→ ¬R i k):PC R (i+1) (P++ [(m:Int)]) (m+1):=by
 refine⟨h.rg.new,by simp[h.len],fun a b ha hb=>?_⟩;have hl:=h.len;have top:(P++ [(m:Int)])[i]? =some (m:Int):=by rw[←hl];exact List.getElem?_concat_length
 have low: ∀c,c<i→(P++ [(m:Int)])[c]? =P[c]? :=fun c hc=>List.getElem?_append_left Om
 have no: ∀c,c<i→P[c]? ≠some (m:Int):=fun c hc hq=>by
  have:=h.rg.mem.1 (List.mem_of_getElem? hq);omega
 by_cases h1:a=i
 ·subst h1;by_cases h2:b=a
  ·subst h2;exact⟨fun _=>hE.r _,fun _=>rfl⟩
  rw[top,low b Om];exact⟨fun q=>absurd q.symm (no b Om),fun q=>absurd q (hR b Om)⟩
 by_cases h2:b=i
 ·subst h2;rw[top,low a Om];exact⟨fun q=>absurd q (no a Om),fun q=>absurd (hE.s _ _ q) (hR a Om)⟩
 rw[low a Om,low b Om];exact h.iff_ a b Om Om
theorem alk_eqv{rule:LI}:Eqv (fun a b=>Alk rows rule (a:Int) (b:Int)):=⟨fun _=> .refl _,fun _ _ h=>h.symm,fun _ _ _ h h'=>h.trans h'⟩
theorem PC.cls{rule P:LI}{m:Nat}(h:PC (fun a b=>Alk rows rule (a:Int) (b:Int)) rows.length P m):Cls rows rule P m:=⟨h.rg,h.len,h.iff_⟩
section
variable {N:Nat}{rows:List LI}{rule entry:LI}
theorem refParts_find{F:List LI}{i m:Nat}{P:LI}(hN:4294967296≤N)(hn2:rows.length≤200)(hF:FarIs rows rule F)(hi:i<rows.length)(hP:PC (fun a b=>Alk rows rule (a:Int) (b:Int)) i P m):
 ∃p,iterO N (fun s=>F_85 N F (i:Int) P s.1 s.2) (-1,0)=some p∧((∃k,k<i∧Alk rows rule (i:Int) (k:Int)∧P[k]? =some p∧0≤p)∨(p= -1∧ ∀k,k<i→ ¬Alk rows rule (i:Int) (k:Int))):=by
 have dec: ∀k:Nat,k<i→(fv F i k<0↔Alk rows rule (i:Int) (k:Int)):=by
  intro k hk;rcases hF.2 i k hi Om with⟨d,d1,d2⟩|⟨d1,d2⟩
  ·constructor
   ·intro he;omega
   intro he;obtain⟨u,hu,_⟩:=d2.1;exact absurd hu (alk_iff.1 he u)
  exact⟨fun _=>d2,fun _=>by omega⟩
 have step: ∀k:Nat,k<i→F_85 N F (i:Int) P (-1) (k:Int)=some (.inl (if fv F i k<0 then P.getD k 0 else-1,((k+1:Nat):Int))):=by
  intro k hk;obtain⟨r,e1,_,e3⟩:=hF.1.get hi (show k<rows.length by omega);have hpl:k<P.length:=by rw[hP.len];exact hk
  have gp:idx P (k:Int)=some (P.getD k 0):=by rw[getD_of (List.getElem?_eq_getElem hpl)];exact idx_nat hpl
  unfold F_85;simp only[show((k:Int)<(i:Int)) by omega,show((-1:Int)<0) by omega,decide_true,if_true,idx_of e1,idx_of e3,gp,bind,Option.bind_some];rw[w64_succ Om];by_cases hf:fv F i k<0
  ·simp only[hf,decide_true,if_true,Option.bind_some]
  simp only[hf,decide_false,Bool.false_eq_true,if_false,Option.bind_some]
 by_cases hex: ∃k,k<i∧Alk rows rule (i:Int) (k:Int)
 ·obtain⟨k0,hk0,ha0⟩:=hex;obtain⟨k,hkle,⟨hk1,hk2⟩,hk3⟩:=least (P:=fun k:Nat=>k<i∧Alk rows rule (i:Int) (k:Int)) ⟨hk0,ha0⟩;have hpl:k<P.length:=by rw[hP.len];exact hk1
  have hpk:P[k]? =some (P.getD k 0):=by rw[getD_of (List.getElem?_eq_getElem hpl)];exact List.getElem?_eq_getElem hpl
  have hp0:=(hP.rg.mem.1 (List.mem_of_getElem? hpk)).1;refine⟨P.getD k 0,?_,.inl ⟨k,hk1,hk2,hpk,hp0⟩⟩;refine iterO_for0 (fun a=>((if a≤k then(-1:Int)else P.getD k 0),(a:Int))) (k+1) Sm Om (fun a ha=>?_) ?_
  ·simp only[show a≤k by omega,if_true];rw[step a Om];by_cases hak:a=k
   ·subst hak;simp only[(dec a hk1).2 hk2,if_true,show¬a+1≤a by omega,if_false]
   have: ¬fv F i a<0:=fun q=>hk3 a Om ⟨by omega,(dec a Om).1 q⟩;simp only[this,if_false,show a+1≤k by omega,if_true]
  simp only[show¬k+1≤k by omega,if_false];unfold F_85;have: ¬P.getD k 0<0:=by omega
  simp only[this,decide_false,ite_self,bind,Option.bind_some,Bool.false_eq_true,if_false]
 have hno: ∀k,k<i→ ¬Alk rows rule (i:Int) (k:Int):=fun k hk q=>hex ⟨k,hk,q⟩;refine⟨-1,?_,.inr ⟨rfl,hno⟩⟩;refine iterO_for0 (fun a=>((-1:Int),(a:Int))) i rfl Om (fun a ha=>?_) ?_
 ·rw[step a ha,if_neg (fun q=>hno a ha ((dec a ha).1 q))]
 unfold F_85;simp only[show¬((i:Int)<(i:Int)) by omega,decide_false,bind,Option.bind_some,Bool.false_eq_true,if_false]
theorem refParts_spec(hN:4294967296≤N)(hs:Sz rows rule entry)(h:Rt rows rule entry): ∃P m,F_29 N rows rule entry=some P∧Cls rows rule P m:=by
 have hn2:=h.n2;obtain⟨F,f1,f2⟩:=far_spec (N:=N) hN hs h;unfold F_29;simp only[f1,bind,Option.bind_some]
 obtain⟨s,h1,h2⟩:=loop_inv (f:=fun s=>F_84 N rows F s.1 s.2.1 s.2.2) (fun i (s:LI×Nat)=>((i:Int),s.1,(s.2:Int))) (fun s=>s.1) (List.range rows.length)
  (fun i s=>PC (fun a b=>Alk rows rule (a:Int) (b:Int)) i s.1 s.2) (N:=N) (s:=([],0)) (by simp;omega) .nil
  (fun i y s hx hI=>by
   obtain⟨P,m⟩:=s;obtain⟨hi,rfl⟩:=range_get hx;simp only at hI;have hPl:=hI.len;have hml:=hI.rg.le;obtain⟨p,q1,q2⟩:=refParts_find (N:=N) hN hn2 f2 hi hI;rcases q2 with⟨k,k1,k2,k3,k4⟩|⟨rfl,k2⟩
   ·refine⟨(P++ [p],m),?_,hI.old alk_eqv k1 k2 k3⟩;unfold F_84;simp only[show((y:Int)<(rows.length:Int)) by omega,decide_true,if_true,bind];rw[q1];simp only[show¬p<0 by omega,decide_false,Bool.false_eq_true,if_false,Option.bind_some];rw[app_eq (by simp;omega)];simp only[Option.bind_some];rw[w64_succ Om]
   refine⟨(P++ [(m:Int)],m+1),?_,hI.new alk_eqv k2⟩;unfold F_84;simp only[show((y:Int)<(rows.length:Int)) by omega,decide_true,if_true,bind];rw[q1];simp only[show((-1:Int)<0) by omega,decide_true,if_true,Option.bind_some];rw[app_eq (by simp;omega)];simp only[Option.bind_some];rw[w64_succ (n:=m) Om,w64_succ Om])
  (fun s _=>by unfold F_84;simp)
 rw[List.length_range]at h2;refine⟨s.1,s.2,?_,h2.cls⟩;rw[show iterO N (fun s=>F_84 N rows F s.1 s.2.1 s.2.2) (0,[],0)=_ from h1];rfl
end
end Go.Proofs.YtchjfkdljnmmgaaGreatDoor
