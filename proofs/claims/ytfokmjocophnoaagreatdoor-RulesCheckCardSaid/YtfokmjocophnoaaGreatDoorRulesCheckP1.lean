import Derived.Test.YtfokmjocophnoaaGreatDoorRulesCheckD1
import Derived.LaidEql
import Derived.RowKitTokens
import Derived.Shelf.Sort.Plain
import Derived.Stop.Asserts
import Derived.Test.YtfokmjocophnoaaGreatDoorChecked
import Derived.Test.YtfokmjocophnoaaGreatDoorProg
import Derived.WalkKit
namespace Go.Proofs.YtfokmjocophnoaaGreatDoor
open Go Go.Proofs Go.Shelf
variable {N:Nat}{rows:List Go.Eng.LI}{rule entry:Go.Eng.LI}
def sortInts_ren:Go.Shelf.Ren:=⟨fun|189=>141|125=>174|257=>173|128=>204|129=>205|294=>195|295=>196|296=>197|297=>198|298=>199|299=>200|216=>201|300=>202|301=>203|328=>228|329=>229|330=>230|331=>231|332=>232|215=>233|343=>252|n=>n,fun|28=>33|3=>3|46=>83|0=>0|51=>317|53=>57|4=>4|183=>309|182=>308|131=>314|5=>5|9=>9|218=>349|222=>353|228=>368|229=>91|n=>n,fun|n=>n⟩
theorem sortInts:Go.Proofs.Lays.n189 Tryz.prog sortInts_ren:={
 mixed:=by kernel_rfl
 f125:=Tryz.func174.trans (congrArg some (by kernel_rfl))
 f128:=Tryz.func204.trans (congrArg some (by kernel_rfl))
 f129:=Tryz.func205.trans (congrArg some (by kernel_rfl))
 f189:=Tryz.func141.trans (congrArg some (by kernel_rfl))
 f215:=Tryz.func233.trans (congrArg some (by kernel_rfl))
 f216:=Tryz.func201.trans (congrArg some (by kernel_rfl))
 f257:=Tryz.func173.trans (congrArg some (by kernel_rfl))
 f294:=Tryz.func195.trans (congrArg some (by kernel_rfl))
 f295:=Tryz.func196.trans (congrArg some (by kernel_rfl))
 f296:=Tryz.func197.trans (congrArg some (by kernel_rfl))
 f297:=Tryz.func198.trans (congrArg some (by kernel_rfl))
 f298:=Tryz.func199.trans (congrArg some (by kernel_rfl))
 f299:=Tryz.func200.trans (congrArg some (by kernel_rfl))
 f300:=Tryz.func202.trans (congrArg some (by kernel_rfl))
 f301:=Tryz.func203.trans (congrArg some (by kernel_rfl))
 f328:=Tryz.func228.trans (congrArg some (by kernel_rfl))
 f329:=Tryz.func229.trans (congrArg some (by kernel_rfl))
 f330:=Tryz.func230.trans (congrArg some (by kernel_rfl))
 f331:=Tryz.func231.trans (congrArg some (by kernel_rfl))
 f332:=Tryz.func232.trans (congrArg some (by kernel_rfl))
 f343:=Tryz.func252.trans (congrArg some (by kernel_rfl))
 t0:=Tryz.underlying0
 a0:=Tryz.isAgg0
 z0:=Tryz.sizeOf0
 v0:=Tryz.zeroValue0
 t3:=Tryz.underlying3
 a3:=Tryz.isAgg3
 z3:=Tryz.sizeOf3
 v3:=Tryz.zeroValue3
 t4:=Tryz.underlying4
 a4:=Tryz.isAgg4
 z4:=Tryz.sizeOf4
 v4:=Tryz.zeroValue4
 t5:=Tryz.underlying5
 a5:=Tryz.isAgg5
 z5:=Tryz.sizeOf5
 v5:=Tryz.zeroValue5
 t9:=Tryz.underlying9
 a9:=Tryz.isAgg9
 z9:=Tryz.sizeOf9
 v9:=Tryz.zeroValue9
 t28:=Tryz.underlying33
 a28:=Tryz.isAgg33
 z28:=Tryz.sizeOf33
 v28:=Tryz.zeroValue33
 t46:=Tryz.underlying83
 a46:=Tryz.isAgg83
 z46:=Tryz.sizeOf83
 v46:=Tryz.zeroValue83
 t51:=Tryz.underlying317
 a51:=Tryz.isAgg317
 z51:=Tryz.sizeOf317
 v51:=Tryz.zeroValue317
 t53:=Tryz.underlying57
 a53:=Tryz.isAgg57
 z53:=Tryz.sizeOf57
 v53:=Tryz.zeroValue57
 t131:=Tryz.underlying314
 a131:=Tryz.isAgg314
 z131:=Tryz.sizeOf314
 v131:=Tryz.zeroValue314
 t182:=Tryz.underlying308
 a182:=Tryz.isAgg308
 z182:=Tryz.sizeOf308
 v182:=Tryz.zeroValue308
 t183:=Tryz.underlying309
 a183:=Tryz.isAgg309
 z183:=Tryz.sizeOf309
 v183:=Tryz.zeroValue309
 t218:=Tryz.underlying349
 a218:=Tryz.isAgg349
 z218:=Tryz.sizeOf349
 v218:=Tryz.zeroValue349
 t222:=Tryz.underlying353
 a222:=Tryz.isAgg353
 z222:=Tryz.sizeOf353
 v222:=Tryz.zeroValue353
 t228:=Tryz.underlying368
 a228:=Tryz.isAgg368
 z228:=Tryz.sizeOf368
 v228:=Tryz.zeroValue368
 t229:=Tryz.underlying91
 a229:=Tryz.isAgg91
 z229:=Tryz.sizeOf91
 v229:=Tryz.zeroValue91}
open Go.RowKit Go.Extern.Stop Go.Stop Go.Extern
set_option maxRecDepth 20000
theorem Is.typeOf(v:Value)(w:World):(Extern.ReflectliteType.typeOf #[.iface 391 v]).run Tryz.prog w= .ok (.iface 235 (.agg #[.pointer (some ⟨22,391,none⟩)])) w:=by kernel_rfl
def Is.cmp:Array Value→Sem Value:=Extern.ReflectliteType.method fun t=>do Rtype.noPackHeld "Comparable" t;pure (.bool (←typeInfo t).comparable)
theorem Is.comparable(w:World):(Is.cmp #[.agg #[.pointer (some ⟨22,391,none⟩)]]).run Tryz.prog w= .ok (.bool true) w:=by kernel_rfl
theorem Is.methodComparable(v:Value)(w:World):(Go.method 526 235 v "Comparable").run Tryz.prog w= .ok (302,v) w:=by kernel_rfl
theorem Is.comp:(Tryz.prog.info? 391).map (·.comparable)=some true:=by kernel_rfl
theorem Is.size:(Tryz.prog.info? 414).map (·.size)=some 1:=by kernel_rfl
theorem Is.noIs(v:Value)(xT:TypeId)(w:World):(Instr.typeAssert (.iface 391 v) xT 237 true).run Tryz.prog w= .ok (.tuple #[.nilIface,.bool false]) w:=run_typeAssert_lacksB Tryz.underlying237 (by kernel_rfl) (by kernel_rfl) v xT w
theorem Is.noUnwrap(v:Value)(xT:TypeId)(w:World):(Instr.typeAssert (.iface 391 v) xT 240 true).run Tryz.prog w= .ok (.tuple #[.nilIface,.bool false]) w:=run_typeAssert_lacksB Tryz.underlying240 (by kernel_rfl) (by kernel_rfl) v xT w
theorem Is.noUnwraps(v:Value)(xT:TypeId)(w:World):(Instr.typeAssert (.iface 391 v) xT 242 true).run Tryz.prog w= .ok (.tuple #[.nilIface,.bool false]) w:=run_typeAssert_lacksB Tryz.underlying242 (by kernel_rfl) (by kernel_rfl) v xT w
theorem is_same(a:Addr)(w:World):
 Calls Tryz.prog 50 #[.iface 391 (.pointer (some a)),.iface 391 (.pointer (some a))] w fun e w'=>e= .returned (.bool true)∧w'=w:=by
 obtain⟨i,hi,hcmp⟩:=Option.map_eq_some_iff.1 Is.comp;obtain⟨j,hj,hjs⟩:=Option.map_eq_some_iff.1 Is.size;have h8:= @run_callFunc_extern Tryz.prog 91 _ Extern.ReflectliteType.typeOf Tryz.func91 (by kernel_rfl) (by kernel_rfl) (by kernel_rfl) (by kernel_rfl);have h32:= @run_callFunc_extern Tryz.prog 302 _ Is.cmp Tryz.func302 (by kernel_rfl) (by kernel_rfl) (by kernel_rfl) (by kernel_rfl);have tT:=Is.typeOf;have cT:=Is.comparable;have mR:=Is.methodComparable;have heq:=run_eql_iface_ptr_same (P:=Tryz.prog) w a Tryz.underlying29 Tryz.underlying391 hi hcmp hj
 go_enter Tryz.func50,Tryz.ntmps50
 go_wp2
 refine wp_loop_rounds 1 ?_;rw[rounds_succ]
 go_wp2
 go_ret
 exact⟨rfl,rfl⟩
theorem is_nil(b:Addr)(w:World):
 Calls Tryz.prog 50 #[.nilIface,.iface 391 (.pointer (some b))] w fun e w'=>e= .returned (.bool false)∧w'=w:=by
 have hn:=run_eql_iface_nil_left (P:=Tryz.prog) w 391 (.pointer (some b)) Tryz.underlying29
 go_enter Tryz.func50,Tryz.ntmps50
 go_wp2
 go_ret
 exact⟨rfl,rfl⟩
theorem is_other(a b:Addr)(ca cb:Array Value)(ta tb:TypeId)(w:World)(hne:a≠b)(ha:w.heap[a.block]? =some (.cells ca ta (0,0)))(hb:w.heap[b.block]? =some (.cells cb tb (0,0))):
 Calls Tryz.prog 50 #[.iface 391 (.pointer (some a)),.iface 391 (.pointer (some b))] w fun e w'=>e= .returned (.bool false)∧w'=w:=by
 obtain⟨i,hi,hcmp⟩:=Option.map_eq_some_iff.1 Is.comp;obtain⟨j,hj,hjs⟩:=Option.map_eq_some_iff.1 Is.size;have h8:= @run_callFunc_extern Tryz.prog 91 _ Extern.ReflectliteType.typeOf Tryz.func91 (by kernel_rfl) (by kernel_rfl) (by kernel_rfl) (by kernel_rfl);have h32:= @run_callFunc_extern Tryz.prog 302 _ Is.cmp Tryz.func302 (by kernel_rfl) (by kernel_rfl) (by kernel_rfl) (by kernel_rfl);have tT:=Is.typeOf;have cT:=Is.comparable;have mR:=Is.methodComparable;have nE:=Is.noIs;have uE:=Is.noUnwrap;have vE:=Is.noUnwraps;have heq:=run_eql_iface_ptr_other (P:=Tryz.prog) w Tryz.underlying29 Tryz.underlying391 hi hcmp hj (by rw[hjs];decide) hne ha hb
 go_enter Tryz.func50,Tryz.ntmps50
 go_wp2
 refine wp_loop_rounds 1 ?_;rw[rounds_succ]
 go_wp2
 go_ret
 exact⟨rfl,rfl⟩
theorem isC:Go.Eng.IsC Tryz.prog 50 391:=⟨is_same,is_nil,is_other⟩
open Go Go.Eng Go.Cr
set_option maxRecDepth 100000
theorem runX:XOk Tryz.prog ⟨240,264,1000000,0⟩:=⟨⟨_,Tryz.func240,by kernel_rfl,by kernel_rfl,by kernel_rfl,by kernel_rfl⟩,⟨_,Tryz.func264,by kernel_rfl,by kernel_rfl,by kernel_rfl,by kernel_rfl⟩,.inl (by kernel_rfl)⟩
theorem runM:Tryz.prog.follows .mixedOrders=true:=by kernel_rfl
open Go Go.Eng Go.Cr
set_option maxRecDepth 100000
theorem run17:isTrue (run Tryz.prog ⟨240,264,1000000,0⟩ 1000 (.f 17 []) [] (h0T 21 .u8 tab_math_bits_deBruijn64tab))=true:=by kernel_rfl
theorem runC17:RunC Tryz.prog 17 (fun ρ=>GTab ρ 21 .u8 tab_math_bits_deBruijn64tab):=runCT runX runM run17 ⟨_,_,Tryz.func17,by kernel_rfl,rfl⟩ (by decide) (by decide)
end Go.Proofs.YtfokmjocophnoaaGreatDoor
namespace Go.Eng
open Go
theorem iterO_for{σ τ:Type}{f:σ→Option (σ ⊕ τ)}{r:τ}(st:Nat→σ): ∀(n:Nat) {N k:Nat},n<N→(∀i,k≤i→i<k+n→f (st i)=some (.inl (st (i+1))))→f (st (k+n))=some (.inr r)→iterO N f (st k)=some r
 |0,0,_,h,_,_=>absurd h (Nat.not_lt_zero _)
 |0,N+1,k,_,_,he=>by simp only[iterO];rw[show f (st k)=_ from he]
 |n+1,0,_,h,_,_=>absurd h (Nat.not_lt_zero _)
 |n+1,N+1,k,h,hs,he=>by
   simp only[iterO];rw[hs k (Nat.le_refl _) Om];exact iterO_for st n Om (fun i h1 h2=>hs i Om Om) (by rw[show k+1+n=k+(n+1) by omega];exact he)
theorem iterO_for0{σ τ:Type}{f:σ→Option (σ ⊕ τ)}{r:τ}{s:σ}(st:Nat→σ)(n:Nat){N:Nat}(h0:st 0=s)(hN:n<N)(hs: ∀i,i<n→f (st i)=some (.inl (st (i+1))))(he:f (st n)=some (.inr r)):iterO N f s=some r:=by
 subst h0;exact iterO_for st n hN (fun i _ h=>hs i Om) (by rw[Nat.zero_add];exact he)
theorem iterO_while{σ τ:Type}{f:σ→Option (σ ⊕ τ)}(I:σ→Prop)(μ:σ→Nat)(Q:τ→Prop)(step: ∀s,I s→(∃s',f s=some (.inl s')∧I s'∧μ s'<μ s)∨ ∃r,f s=some (.inr r)∧Q r):
 ∀{N:Nat} {s:σ},I s→μ s<N→ ∃r,iterO N f s=some r∧Q r
 |0,_,_,h=>absurd h (Nat.not_lt_zero _)
 |N+1,s,hI,h=>by
   rcases step s hI with⟨s',h1,h2,h3⟩|⟨r,h1,h2⟩
   ·obtain⟨r,h4,h5⟩:=iterO_while I μ Q step (N:=N) h2 Om;exact⟨r,by simp only[iterO,h1];exact h4,h5⟩
   exact⟨r,by simp only[iterO,h1],h2⟩
theorem wrap64{x:Int}(h1: -9223372036854775808≤x)(h2:x≤9223372036854775807):IntKind.wrap .i64 x=x:=by
 simp only[IntKind.wrap,IntKind.signed,IntKind.bits];simp;omega
theorem w64_succ{n:Nat}(h:n<9223372036854775807):w64 ((n:Int)+1)=((n+1:Nat):Int):=by
 rw[w64,wrap64]<;>omega
theorem idx_nat{α:Type}{xs:List α}{i:Nat}(h:i<xs.length):idx xs (i:Int)=some xs[i]:=by simp[idx,h]
theorem idx_of{α:Type}{xs:List α}{i:Nat}{x:α}(h:xs[i]? =some x):idx xs (i:Int)=some x:=by simp[idx,h]
theorem setI_nat{α:Type}{xs:List α}{i:Nat}{x:α}(h:i<xs.length):setI xs (i:Int) x=some (xs.set i x):=by simp[setI,h]
theorem app_eq{α:Type}{xs ys:List α}(h:xs.length+ys.length≤4294967296):app xs ys=some (xs++ys):=by simp[app,h]
theorem loop_find{α τ:Type}{f:Int→Option (Int ⊕ (Unit ⊕ τ))}(xs:List α)(p:α→Bool)(g:Nat→τ){N:Nat}(hN:xs.length<N)
 (hb: ∀(i:Nat) (x:α),xs[i]? =some x→f (i:Int)=if p x then some (.inr (.inr (g i)))else some (.inl ((i+1:Nat):Int))) (he:f (xs.length:Int)=some (.inr (.inl ()))):
 iterO N f 0=some (match xs.findIdx? p with|some i=> .inr (g i)|none=> .inl ()):=by
 cases h:xs.findIdx? p with
 |none=>
   have h':=List.findIdx?_eq_none_iff.1 h;refine iterO_for0 (fun i=>(i:Int)) xs.length rfl hN (fun i hi=>?_) he;rw[hb i xs[i] (List.getElem?_eq_getElem hi),h' _ (List.getElem_mem hi)];simp
 |some k=>
   obtain⟨hk,hp,hlt⟩:=List.findIdx?_eq_some_iff_getElem.1 h;refine iterO_for0 (fun i=>(i:Int)) k rfl Om (fun i hi=>?_) ?_
   ·rw[hb i _ (List.getElem?_eq_getElem Om)];have:=hlt i hi;simp[this]
   rw[hb k _ (List.getElem?_eq_getElem hk)];simp[hp]
theorem loop_any{α τ:Type}{f:Int→Option (Int ⊕ (Unit ⊕ τ))}(xs:List α)(p:α→Bool)(b:τ){N:Nat}(hN:xs.length<N)
 (hb: ∀(i:Nat) (x:α),xs[i]? =some x→f (i:Int)=if p x then some (.inr (.inr b))else some (.inl ((i+1:Nat):Int))) (he:f (xs.length:Int)=some (.inr (.inl ()))):
 iterO N f 0=some (if xs.any p then .inr b else .inl ()):=by
 rw[loop_find xs p (fun _=>b) hN hb he]
 cases h:xs.findIdx? p with
 |none=>
   have h':=List.findIdx?_eq_none_iff.1 h;have:xs.any p=false:=by rw[List.any_eq_false];intro x hx;rw[h' x hx];simp
   simp[this]
 |some k=>
   obtain⟨hk,hp,hlt⟩:=List.findIdx?_eq_some_iff_getElem.1 h;have:xs.any p=true:=List.any_eq_true.2 ⟨_,List.getElem_mem hk,hp⟩;simp[this]
theorem loop_inv{α σ τ ι:Type}{f:ι→Option (ι ⊕ τ)}(st:Nat→σ→ι)(out:σ→τ)(xs:List α)(I:Nat→σ→Prop){N:Nat}{s:σ}(hN:xs.length<N)
 (hI:I 0 s) (hb: ∀(i:Nat) (x:α) (s:σ),xs[i]? =some x→I i s→ ∃s',f (st i s)=some (.inl (st (i+1) s'))∧I (i+1) s') (he: ∀s,I xs.length s→f (st xs.length s)=some (.inr (out s))):
 ∃s',iterO N f (st 0 s)=some (out s')∧I xs.length s':=by
 have key: ∀(k i:Nat) (s:σ) (M:Nat),i+k=xs.length→k<M→I i s→ ∃s',iterO M f (st i s)=some (out s')∧I xs.length s':=by
  intro k
  induction k with
  |zero=>
    intro i s M hi hM h;obtain⟨M,rfl⟩: ∃m,M=m+1:=⟨M-1,by omega⟩;obtain rfl:i=xs.length:=by omega
    exact⟨s,by simp only[iterO];rw[he s h],h⟩
  |succ k ih=>
    intro i s M hi hM h;obtain⟨M,rfl⟩: ∃m,M=m+1:=⟨M-1,by omega⟩;obtain⟨s',h1,h2⟩:=hb i _ s (List.getElem?_eq_getElem Om) h;obtain⟨s'',h3,h4⟩:=ih (i+1) s' M Om Om h2;exact⟨s'',by simp only[iterO];rw[h1];exact h3,h4⟩
 exact key xs.length 0 s N Om hN hI
end Go.Eng
namespace Go.Proofs.YtfokmjocophnoaaGreatDoor
open Go Go.Eng
variable {N:Nat}{rows:List Go.Eng.LI}{rule entry:Go.Eng.LI}
theorem lt_len{α:Type}{xs:List α}{i:Nat}{x:α}(h:xs[i]? =some x):i<xs.length:=(List.getElem?_eq_some_iff.1 h).1
open Go Go.Eng
theorem range_get{n i x:Nat}(h:(List.range n)[i]? =some x):i<n∧x=i:=by
 have hl:=lt_len h;simp at hl;rw[List.getElem?_range hl]at h;exact⟨hl,(Option.some.inj h).symm⟩
theorem sameInts_spec{a b:LI}(hN:4294967296≤N)(ha:a.length<4294967296):F_38 N a b=some (decide (a=b)):=by
 unfold F_38;by_cases h:a.length=b.length
 case neg=>
  have:((a.length:Int) != (b.length:Int))=true:=by simp;omega
  have hne:a≠b:=fun e=>h (by rw[e]);simp[this,hne]
 have e0:((a.length:Int) != (b.length:Int))=false:=by simp[h]
 simp only[e0,Bool.false_eq_true,if_false]
 rw[loop_any (List.range a.length) (fun i=>a.getD i 0 != b.getD i 0) false (by simp;omega) (fun i x hx=>by
  obtain⟨hi,rfl⟩:=range_get hx;have hib:x<b.length:=by omega
  unfold F_82;have g1:a.getD x 0=a[x]:=by simp[List.getD,List.getElem?_eq_getElem hi]
  have g2:b.getD x 0=b[x]:=by simp[List.getD,List.getElem?_eq_getElem hib]
  rw[g1,g2];simp only[show((x:Int)<(a.length:Int)) by omega,decide_true,if_true,idx_nat hi,idx_nat hib,bind,Option.bind_some];rw[w64_succ Om]) (by simp[F_82])]
 by_cases c:((List.range a.length).any fun i=>a.getD i 0 != b.getD i 0)=true
 ·have:a≠b:=by
   obtain⟨i,_,hp⟩:=List.any_eq_true.1 c;intro e;simp[e]at hp
  rw[if_pos c];simp[this]
 have:a=b:=by
  apply List.ext_getElem h;intro i h1 h2;have h3:=List.any_eq_false.1 (by simpa using c:((List.range a.length).any fun i=>a.getD i 0 != b.getD i 0)=false) i (by simpa using h1);have g1:a.getD i 0=a[i]:=by simp[List.getD,List.getElem?_eq_getElem h1]
  have g2:b.getD i 0=b[i]:=by simp[List.getD,List.getElem?_eq_getElem h2]
  rw[g1,g2]at h3;simpa using h3
 rw[if_neg c];simp[this]
open Go Go.Eng
set_option maxRecDepth 100000
theorem ba_ext{a b:ByteArray}(h:a.data.toList=b.data.toList):a=b:=by
 obtain⟨⟨a⟩⟩:=a;obtain⟨⟨b⟩⟩:=b;simp at h;rw[h]
theorem ba_toList(b:ByteArray):b.toList=b.data.toList:=by
 have go: ∀(k i:Nat) (r:List UInt8),i+k=b.size→ByteArray.toList.loop b i r=r.reverse++b.data.toList.drop i:=by
  intro k
  induction k with
  |zero=>
    intro i r h;unfold ByteArray.toList.loop;rw[if_neg Om,List.drop_of_length_le (by have:b.data.toList.length=b.size:=(by rw[Array.length_toList];rfl);omega),List.append_nil]
  |succ k ih=>
    intro i r h;unfold ByteArray.toList.loop;have hl:b.data.toList.length=b.size:=by rw[Array.length_toList];rfl
    have hi:i<b.data.toList.length:=by omega
    rw[if_pos Om,ih (i+1) _ Om,List.drop_eq_getElem_cons hi,List.reverse_cons,List.append_assoc]
    have:b.get! i=b.data.toList[i]:=by
     have hi':i<b.data.size:=by simpa using hi
     show b.data[i]! =_;rw[getElem!_pos b.data i hi'];simp
    rw[this];rfl
 have:=go b.size 0 [] Om;simpa[ByteArray.toList]using this
open Go Go.Eng
set_option maxRecDepth 100000
mutual
def cnt:Nd→Nat
 | .mk _ _ l _ _ _=>1+cntL l
def cntL:List Nd→Nat
 | []=>0
 |x::l=>cnt x+cntL l
end
abbrev kd(t:Nd):List Nd:=t.un.2.2.1
theorem cnt_un(t:Nd):cnt t=1+cntL (kd t):=by
 cases t;simp only[cnt];rfl
theorem cntL_mem{x:Nd}: ∀{l:List Nd},x∈l→cnt x≤cntL l
 |y::l,h=>by
   simp only[cntL];rcases List.mem_cons.1 h with rfl|h
   ·omega
   have:=cntL_mem h;omega
theorem cnt_kid{t x:Nd}(h:x∈kd t):cnt x<cnt t:=by
 have:=cntL_mem h;rw[cnt_un t];omega
theorem cntL_len: ∀(l:List Nd),l.length≤cntL l
 | []=>Nat.le_refl _
 |x::l=>by
   have:=cntL_len l;have:=cnt_un x;simp only[cntL,List.length_cons];omega
theorem cntL_drop{l:List Nd}{i:Nat}{x:Nd}(h:l[i]? =some x):cntL (l.drop i)=cnt x+cntL (l.drop (i+1)):=by
 rw[List.drop_eq_getElem_cons (lt_len h)];simp only[cntL];rw[(List.getElem?_eq_some_iff.1 h).2]
theorem Nd.of_eq(x:Nd):Nd.of (x.un.1,(x.un.2.1.1,x.un.2.1.2.1,x.un.2.1.2.2.1,x.un.2.1.2.2.2),x.un.2.2.1,x.un.2.2.2.1,x.un.2.2.2.2.1,x.un.2.2.2.2.2)=x:=by
 cases x;rfl
theorem of7_spec: ∀(L:Nat) (t:Nd) (N:Nat),L+5≤N→1≤L→L≤1000→
 ∃ks,F_5 N t.un.1 t.un.2.1.1 t.un.2.1.2.1 t.un.2.1.2.2.1 t.un.2.1.2.2.2 t.un.2.2.1 t.un.2.2.2.1 t.un.2.2.2.2.1 t.un.2.2.2.2.2 (L:Int)=some (ks,((L-cnt t:Nat):Int))∧(cnt t<L→ks=kd t):=by
 intro L
 induction L using Nat.strongRecOn with
 |ind L IH=>
   intro t N hN h1 h2;obtain⟨M,rfl⟩: ∃m,N=m+1:=⟨N-1,by omega⟩
   have key: ∀(left i:Nat) (acc:List Nd) (K:Nat),left<K→left<L→acc.length=i→i+left≤1000→i≤(kd t).length→
    ∃acc',(iterO K (fun s=>F_37 M (F_5 M) (kd t) s.1 s.2.1 s.2.2) ((left:Int),(i:Int),acc)=some (.inl (((left-cntL ((kd t).drop i):Nat):Int),acc'))∨
      iterO K (fun s=>F_37 M (F_5 M) (kd t) s.1 s.2.1 s.2.2) ((left:Int),(i:Int),acc)=some (.inr (acc',((left-cntL ((kd t).drop i):Nat):Int))))∧
      (cntL ((kd t).drop i)<left→acc'=acc++(kd t).drop i):=by
    intro left
    induction left using Nat.strongRecOn with
    |ind left ih=>
      intro i acc K hK hL ha hb hi;obtain⟨K,rfl⟩: ∃m,K=m+1:=⟨K-1,by omega⟩;by_cases hlt:i<(kd t).length
      ·have hx:(kd t)[i]? =some (kd t)[i]:=List.getElem?_eq_getElem hlt;generalize(kd t)[i]=x at hx;have hc:=cntL_drop hx;have hp:=cnt_un x;by_cases h0:left=0
       ·refine⟨acc,.inr ?_,fun h=>by omega⟩;subst h0;simp only[iterO,F_37];rw[if_pos (by simpa using hlt),idx_of hx];simp
       obtain⟨ks,e1,e2⟩:=IH left hL x M Om Om Om;obtain⟨acc',g1,g2⟩:=ih (left-cnt x) Om (i+1) (acc++ [Nd.of (x.un.1,(x.un.2.1.1,x.un.2.1.2.1,x.un.2.1.2.2.1,x.un.2.1.2.2.2),ks,x.un.2.2.2.1,x.un.2.2.2.2.1,x.un.2.2.2.2.2)]) K Om Om (by simp[ha]) Om Om
       have hs:F_37 M (F_5 M) (kd t) (left:Int) (i:Int) acc=some (.inl (((left-cnt x:Nat):Int),((i+1:Nat):Int),acc++ [Nd.of (x.un.1,(x.un.2.1.1,x.un.2.1.2.1,x.un.2.1.2.2.1,x.un.2.1.2.2.2),ks,x.un.2.2.2.1,x.un.2.2.2.2.1,x.un.2.2.2.2.2)])):=by
        unfold F_37;rw[if_pos (by simpa using hlt),idx_of hx];simp only[bind,Option.bind_some];rw[if_neg (by simp;omega),e1];simp only[Option.bind_some];rw[app_eq (by simp;omega),w64_succ Om];rfl
       refine⟨acc',?_,fun h=>?_⟩
       ·simp only[iterO,hs];rw[hc,show left-(cnt x+cntL ((kd t).drop (i+1)))=left-cnt x-cntL ((kd t).drop (i+1)) by omega];exact g1
       rw[g2 Om,e2 Om,Nd.of_eq,List.append_assoc,List.drop_eq_getElem_cons hlt,(List.getElem?_eq_some_iff.1 hx).2];rfl
      have hd:(kd t).drop i= []:=List.drop_eq_nil_of_le Om;refine⟨acc,.inl ?_,fun _=>by simp[hd]⟩;simp only[iterO,F_37];rw[if_neg (by simpa using hlt),hd];simp[cntL]
   obtain⟨acc',g1,g2⟩:=key (L-1) 0 [] M Om Om rfl Om Om;have hw:w64 ((L:Int)-1)=((L-1:Nat):Int):=by rw[w64,wrap64]<;>omega
   have hcu:=cnt_un t;rw[List.drop_zero]at g1 g2;refine⟨acc',?_,fun h=>by rw[g2 Om];rfl⟩;rw[F_5,hw,show L-cnt t=L-1-cntL (kd t) by omega];rcases g1 with g1|g1
   ·show(iterO M (fun s=>F_37 M (F_5 M) (kd t) s.1 s.2.1 s.2.2) (((L-1:Nat):Int),((0:Nat):Int),[]) >>= _)=_;rw[g1];rfl
   show(iterO M (fun s=>F_37 M (F_5 M) (kd t) s.1 s.2.1 s.2.2) (((L-1:Nat):Int),((0:Nat):Int),[]) >>= _)=_;rw[g1];rfl
open Go Go.Eng
set_option maxRecDepth 100000
def sl(s:ByteArray):LI:=s.data.toList.map fun u=>((u.toNat:Nat):Int)
theorem sl_len(s:ByteArray):(sl s).length=s.size:=by
 unfold sl;rw[List.length_map,Array.length_toList];rfl
theorem sidx_sl(s:ByteArray)(i:Int):sidx s i=idx (sl s) i:=by
 unfold sidx idx sl;rw[List.getElem?_map]
theorem emp_sl(s:ByteArray):(s.toList==ByteArray.empty.toList)=decide (s.size=0):=by
 rw[ba_toList,ba_toList];have:s.size=s.data.toList.length:=by rw[Array.length_toList];rfl
 rw[this];show(s.data.toList== [])=_;cases s.data.toList<;>simp
def ltC(c:Int):Bool:=decide (97≤c)&&decide (c≤122)
def dgC(c:Int):Bool:=decide (48≤c)&&decide (c≤57)
def nmB(l:LI):Bool:=decide (1≤l.length)&&decide (l.length≤12)&&ltC (l.getD 0 0)&&l.all (fun c=>ltC c||dgC c)
theorem nm_code{s:ByteArray}(hN:9300000000000000000≤N)(hs:s.size≤maxLen):F_28 N s=some (nmB (sl s)):=by
 have hm:s.size<9223372036854775808:=by unfold maxLen at hs;omega
 have hl:=sl_len s;unfold F_28
 rw[loop_any (List.range s.size) (fun i=> !ltC ((sl s).getD i 0)&&(i==0|| !dgC ((sl s).getD i 0))) false (by simp;omega) (fun i x hx=>by
  obtain⟨hi,rfl⟩:=range_get hx
  have hx:(sl s)[x]? =some ((sl s).getD x 0):=by
   rw[List.getD,List.getElem?_eq_getElem Om];rfl
  generalize(sl s).getD x 0=c at hx;unfold F_104;rw[if_pos (by simpa using hi)];simp only[sidx_sl,idx_of hx,bind,Option.bind_some];rw[w64_succ Om];unfold ltC dgC;by_cases c1:97≤c
  ·by_cases c2:c≤122
   ·simp[c1,c2]
   by_cases h0:x=0
   ·subst h0;simp[c1,c2]
   have: ¬(x:Int)=0:=by omega
   have c3: ¬c<48:=by omega
   have c4:c>57:=by omega
   simp[c1,c2,h0,c3,c4]
  by_cases h0:x=0
  ·subst h0;simp[c1]
  by_cases c3:c<48
  ·simp[c1,h0,c3]
  by_cases c4:c>57
  ·simp[c1,h0,c3,c4]
  simp[c1,h0,c3,c4,show 48≤c by omega,show c≤57 by omega]) (by unfold F_104;simp)]
 by_cases h0:s.size=0
 ·have e:sl s= []:=List.eq_nil_of_length_eq_zero Om
  have e2:(s.toList != ByteArray.empty.toList)=false:=by
   show(!(s.toList==ByteArray.empty.toList))=_;rw[emp_sl];simp[h0]
  rw[h0,e2,nmB,e];rfl
 have e2:(s.toList != ByteArray.empty.toList)=true:=by
  show(!(s.toList==ByteArray.empty.toList))=_;rw[emp_sl];simp[h0]
 simp only[e2,if_true,bind,Option.bind_some]
 cases hl:sl s with
 |nil=>
   have:=sl_len s;rw[hl]at this;simp at this;omega
 |cons c t=>
   have hsz:s.size=t.length+1:=by rw[←sl_len s,hl];rfl
   rw[hsz,List.range_succ_eq_map,List.any_cons,List.any_map]
   have e3:(fun i=> !ltC ((c::t).getD i 0)&&(i==0|| !dgC ((c::t).getD i 0)))∘Nat.succ=fun i=> !(ltC (t.getD i 0)||dgC (t.getD i 0)):=by
    funext i;simp[Bool.not_or]
   rw[e3]
   have e4:((List.range t.length).any fun i=> !(ltC (t.getD i 0)||dgC (t.getD i 0)))= !t.all (fun c=>ltC c||dgC c):=by
    rw[List.any_eq_not_all_not]
    congr 1
    simp only[Bool.not_not];rw[Bool.eq_iff_iff,List.all_eq_true,List.all_eq_true];constructor
    ·intro h x hx;obtain⟨i,hi,rfl⟩:=List.getElem_of_mem hx;have:=h i (by simpa using hi);rwa[List.getD,List.getElem?_eq_getElem hi]at this
    intro h i hi;have hi:i<t.length:=by simpa using hi
    have:=h _ (List.getElem_mem hi);rw[List.getD,List.getElem?_eq_getElem hi];exact this
   rw[e4];unfold nmB;simp only[List.length_cons,List.getD_cons_zero,List.all_cons];generalize t.all (fun c=>ltC c||dgC c)=q;by_cases c3:t.length+1≤12
   ·have c4:(t.length:Int)+1≤12:=by omega
    cases ltC c<;>cases q<;>simp[c3,c4]
   have c4: ¬(t.length:Int)+1≤12:=by omega
   cases ltC c<;>cases q<;>simp[c3,c4]
theorem nm_ref{s:ByteArray}(hN:9300000000000000000≤N):F_20 N s=some (nmB (sl s)):=by
 have hl:=sl_len s;unfold F_20 nmB;by_cases h1:s.size<1
 ·have:(s.size:Int)<1:=by omega
  have h2: ¬1≤s.size:=by omega
  simp[this,hl,h2]
 by_cases h2:s.size>12
 ·have:(s.size:Int)>12:=by omega
  have h3: ¬s.size≤12:=by omega
  simp[this,hl,h3]
 have b1: ¬(s.size:Int)<1:=by omega
 have b2: ¬(s.size:Int)>12:=by omega
 have hx:(sl s)[0]? =some ((sl s).getD 0 0):=by
  rw[List.getD,List.getElem?_eq_getElem Om];rfl
 have e0:sidx s 0=some ((sl s).getD 0 0):=by
  rw[sidx_sl];exact idx_of (i:=0) hx
 simp only[b1,b2,decide_false,Bool.false_eq_true,if_false,e0,bind,Option.bind_some]
 rw[loop_any (sl s) (fun c=> !(ltC c||dgC c)) false Om (fun i c hx=>by
  have hi:=lt_len hx;unfold F_84;rw[if_pos (by simpa using(show(i:Int)<(s.size:Int) by omega))];simp only[sidx_sl,idx_of hx,bind,Option.bind_some];rw[w64_succ Om];unfold ltC dgC;by_cases c1:c<97
  ·by_cases c3:c<48
   ·simp[c1,c3,show¬97≤c by omega,show¬48≤c by omega]
   by_cases c4:c>57
   ·simp[c1,c3,c4,show¬97≤c by omega,show¬c≤57 by omega]
   simp[c1,c3,c4,show¬97≤c by omega,show 48≤c by omega,show c≤57 by omega]
  by_cases c2:c>122
  ·simp[c1,c2,show¬c≤122 by omega,show c>57 by omega,show¬c≤57 by omega]
  simp[c1,c2,show 97≤c by omega,show c≤122 by omega]) (by unfold F_84;rw[hl];simp)]
 have e5:((sl s).any fun c=> !(ltC c||dgC c))= !(sl s).all (fun c=>ltC c||dgC c):=by
  rw[List.any_eq_not_all_not];simp
 rw[e5,hl];generalize(sl s).all (fun c=>ltC c||dgC c)=q;have g1:1≤s.size:=by omega
 have g2:s.size≤12:=by omega
 generalize(sl s).getD 0 0=c;unfold ltC;by_cases c1:c<97
 ·simp[c1,show¬97≤c by omega]
 by_cases c2:c>122
 ·simp[c1,c2,show¬c≤122 by omega]
 cases q<;>simp[c1,c2,g1,g2,show 97≤c by omega,show c≤122 by omega]
open Go Go.Eng
set_option maxRecDepth 100000
def bareB(k:Int)(z:Bool)(mn mx:Int)(e:Bool):Bool:=(k==1||z)&&(k==4||(mn==0&&mx==0))&&(k==5||e)
def kindB(k:Int)(n:Nat)(mn mx:Int)(q:Bool):Bool:=
 if(k==1)=true then n==0 else if(k==2)=true then true else if(k==3)=true then decide (2≤n)else
  if(k==4)=true then n==1&&decide (0≤mn)&&decide (mn≤40)&&(mx== -1||(decide (mn≤mx)&&decide (1≤mx)&&decide (mx≤40)))else k==5&&n==0&&q
def okB(k:Int)(z:Bool)(n:Nat)(mn mx:Int)(e q:Bool):Bool:=bareB k z mn mx e&&kindB k n mn mx q
theorem imax_le{a b c:Int}:a≥imax b c↔b≤a∧c≤a:=by
 unfold imax;split<;>omega
theorem bare_spec{k a b c d:Int}{l:List Nd}{mn mx:Int}{s:ByteArray}:
 F_116 N k a b c d l mn mx s=some (bareB k (([a,b,c,d]:LI)== [0,0,0,0]) mn mx (s.toList==ByteArray.empty.toList)):=by
 unfold F_116 bareB;generalize(([a,b,c,d]:LI)== [0,0,0,0])=z;generalize(s.toList==ByteArray.empty.toList)=e;generalize(k==1)=k1;generalize(k==4)=k4;generalize(k==5)=k5;generalize(mn==0)=m1;generalize(mx==0)=m2;cases z<;>cases e<;>cases k1<;>cases k4<;>cases k5<;>cases m1<;>cases m2<;>rfl
theorem beq_nat(n m:Nat):((n:Int)==(m:Int))=(n==m):=by
 rw[Bool.eq_iff_iff,beq_iff_eq,beq_iff_eq];omega
theorem node_code{k a b c d:Int}{l:List Nd}{mn mx:Int}{s:ByteArray}(hN:9300000000000000000≤N)(hs:s.size≤maxLen):
 F_117 N k a b c d l mn mx s=some (okB k (([a,b,c,d]:LI)== [0,0,0,0]) l.length mn mx (s.toList==ByteArray.empty.toList) (nmB (sl s))):=by
 unfold F_117 okB kindB;rw[bare_spec,nm_code hN hs,show((l.length:Int)==0)=(l.length==0)from beq_nat _ 0,show((l.length:Int)==1)=(l.length==1)from beq_nat _ 1]
 have e2:decide (mx≥imax mn 1)=(decide (mn≤mx)&&decide (1≤mx)):=by
  rw[Bool.eq_iff_iff];simp only[decide_eq_true_eq,Bool.and_eq_true];exact imax_le
 have e3:decide ((l.length:Int)≥2)=decide (2≤l.length):=by
  rw[Bool.eq_iff_iff,decide_eq_true_eq,decide_eq_true_eq];omega
 rw[e2,e3];simp only[ge_iff_le];generalize bareB k (([a,b,c,d]:LI)== [0,0,0,0]) mn mx (s.toList==ByteArray.empty.toList)=z;generalize nmB (sl s)=q;generalize(l.length==0)=n0;generalize(l.length==1)=n1;generalize decide (2≤l.length)=n2;generalize decide (0≤mn)=m1;generalize decide (mn≤40)=m2;generalize(mx== -1)=m3;generalize decide (mn≤mx)=m4;generalize decide (1≤mx)=m5;generalize decide (mx≤40)=m6;cases z
 ·rfl
 cases h1:k==1
 ·cases h2:k==2
  ·cases h3:k==3
   ·cases h4:k==4
    ·cases h5:k==5<;>cases n0<;>cases q<;>rfl
    cases n1<;>cases m1<;>cases m2<;>cases m3<;>cases m4<;>cases m5<;>cases m6<;>rfl
   rfl
  rfl
 rfl
theorem node_ref{k a b c d:Int}{l:List Nd}{n:Nat}{mn mx lv:Int}{s:ByteArray}(hN:9300000000000000000≤N):
 F_106 N k a b c d l mn mx s lv (n:Int)=some (okB k (([a,b,c,d]:LI)== [0,0,0,0]) n mn mx (s.toList==ByteArray.empty.toList) (nmB (sl s))):=by
 unfold F_106 okB kindB bareB;rw[nm_ref hN,show(k != 1)= !(k==1)from rfl,show(k != 4)= !(k==4)from rfl,show(k != 5)= !(k==5)from rfl,show(mn != 0)= !(mn==0)from rfl,show(mx != 0)= !(mx==0)from rfl,show(([a,b,c,d]:LI) != [0,0,0,0])= !(([a,b,c,d]:LI)== [0,0,0,0])from rfl,show(s.toList != ByteArray.empty.toList)= !(s.toList==ByteArray.empty.toList)from rfl,show((n:Int) != 1)= !((n:Int)==1)from rfl,show((n:Int)==0)=(n==0)from beq_nat _ 0,show((n:Int)==1)=(n==1)from beq_nat _ 1]
 have e3:decide ((n:Int)>1)=decide (2≤n):=by
  rw[Bool.eq_iff_iff,decide_eq_true_eq,decide_eq_true_eq];omega
 have e4:decide (mn<0)= !decide (0≤mn):=by
  rw[Bool.eq_iff_iff];simp
 have e5:decide (mn>40)= !decide (mn≤40):=by
  rw[Bool.eq_iff_iff];simp
 rw[e3,e4,e5];simp only[ge_iff_le];generalize(([a,b,c,d]:LI)== [0,0,0,0])=z;generalize(s.toList==ByteArray.empty.toList)=e;generalize nmB (sl s)=q;generalize(n==0)=n0;generalize(n==1)=n1;generalize decide (2≤n)=n2;generalize decide (0≤mn)=m1;generalize decide (mn≤40)=m2;generalize(mx== -1)=m3;generalize decide (mn≤mx)=m4;generalize decide (1≤mx)=m5;generalize decide (mx≤40)=m6;generalize(mn==0)=m7;generalize(mx==0)=m8;cases h1:k==1
 ·cases h2:k==2
  ·cases h3:k==3
   ·cases h4:k==4
    ·cases h5:k==5<;>cases z<;>cases e<;>cases m7<;>cases m8<;>cases n0<;>cases q<;>rfl
    have h5:(k==5)=false:=by
     rw[beq_iff_eq.1 h4];rfl
    rw[h5];cases z
    ·rfl
    cases e
    ·rfl
    cases n1<;>cases m1<;>cases m2<;>cases m3<;>cases m4<;>cases m5<;>cases m6<;>rfl
   have h4:(k==4)=false:=by
    rw[beq_iff_eq.1 h3];rfl
   have h5:(k==5)=false:=by
    rw[beq_iff_eq.1 h3];rfl
   rw[h4,h5];cases z<;>cases e<;>cases m7<;>cases m8<;>rfl
  have h4:(k==4)=false:=by
   rw[beq_iff_eq.1 h2];rfl
  have h5:(k==5)=false:=by
   rw[beq_iff_eq.1 h2];rfl
  rw[h4,h5];cases z<;>cases e<;>cases m7<;>cases m8<;>rfl
 have h4:(k==4)=false:=by
  rw[beq_iff_eq.1 h1];rfl
 have h5:(k==5)=false:=by
  rw[beq_iff_eq.1 h1];rfl
 rw[h4,h5];cases z<;>cases e<;>cases m7<;>cases m8<;>rfl
open Go Go.Eng
set_option maxRecDepth 100000
mutual
def wk:Nat→Nd→List (Nd×Int)
 |lv,.mk k s l a b t=>(.mk k s l a b t,(lv:Int))::(if lv>24 then []else wkL (lv+1) l)
def wkL:Nat→List Nd→List (Nd×Int)
 |_,[]=>[]
 |lv,x::l=>wk lv x++wkL lv l
end
theorem wk_un(lv:Nat)(t:Nd):wk lv t=(t,(lv:Int))::(if lv>24 then []else wkL (lv+1) (kd t)):=by
 cases t;simp only[wk];rfl
theorem wkL_drop{lv:Nat}{l:List Nd}{i:Nat}{x:Nd}(h:l[i]? =some x):wkL lv (l.drop i)=wk lv x++wkL lv (l.drop (i+1)):=by
 rw[List.drop_eq_getElem_cons (lt_len h)];simp only[wkL];rw[(List.getElem?_eq_some_iff.1 h).2]
def run{σ α:Type}(Y:α→σ→Option (σ×Bool)):List α→Nat→σ→Option ((σ×Int) ⊕ ((σ×Int) ⊕ (σ×Int)))
 | [],n,s=>some (.inr (.inr (s,(n:Int))))
 |_::_,0,s=>some (.inl (s,0))
 |x::xs,n+1,s=>Y x s >>= fun q=>if(!q.2)=true then some (.inr (.inl (q.1,((n+1:Nat):Int))))else run Y xs n q.1
def nxt{σ α:Type}(Y:α→σ→Option (σ×Bool))(ys:List α):(σ×Int) ⊕ ((σ×Int) ⊕ (σ×Int))→Option ((σ×Int) ⊕ ((σ×Int) ⊕ (σ×Int)))
 | .inl p=>some (.inl p)
 | .inr (.inl p)=>some (.inr (.inl p))
 | .inr (.inr p)=>run Y ys p.2.toNat p.1
theorem run_app{σ α:Type}(Y:α→σ→Option (σ×Bool))(ys:List α): ∀(xs:List α) (n:Nat) (s:σ),run Y (xs++ys) n s=run Y xs n s >>= nxt Y ys
 | [],n,s=>by simp[run,nxt,bind]
 |x::xs,0,s=>by simp[run,nxt,bind]
 |x::xs,n+1,s=>by
   simp only[List.cons_append,run,bind]
   cases Y x s with
   |none=>rfl
   |some q=>
     simp only[Option.bind_some];by_cases h:(!q.2)=true
     ·rw[if_pos h,if_pos h];rfl
     rw[if_neg h,if_neg h];exact run_app Y ys xs n q.1
def cv{σ:Type}:(σ×Int) ⊕ ((σ×Int) ⊕ (σ×Int))→(σ×Int) ⊕ ((σ×Int) ⊕ ((σ×Int) ⊕ (σ×Int)))
 | .inl p=> .inr (.inl p)
 | .inr (.inl p)=> .inr (.inr (.inl p))
 | .inr (.inr p)=> .inl p
theorem run_nat{σ α:Type}{Y:α→σ→Option (σ×Bool)}: ∀{xs:List α} {n:Nat} {s:σ} {p:σ×Int},run Y xs n s=some (.inr (.inr p))→ ∃m:Nat,p.2=(m:Int)∧m≤n
 | [],n,s,p,h=>by
   simp only[run,Option.some.injEq,Sum.inr.injEq]at h;subst h;exact⟨n,rfl,Nat.le_refl _⟩
 |x::xs,0,s,p,h=>by simp[run]at h
 |x::xs,n+1,s,p,h=>by
   simp only[run,bind]at h
   cases hy:Y x s with
   |none=>rw[hy]at h;simp at h
   |some q=>
     rw[hy]at h;simp only[Option.bind_some]at h;split at h
     ·simp at h
     obtain⟨m,h1,h2⟩:=run_nat h;exact⟨m,h1,by omega⟩
theorem walk_run{σ:Type}(Y:Nd×Int→σ→Option (σ×Bool)): ∀(c:Nat) (t:Nd),cnt t=c→ ∀(lv n N:Nat) (s:σ),cnt t+5≤N→cnt t<100000→lv≤25→n≤100000→
 F_17 N (n:Int) Y s t.un.1 t.un.2.1.1 t.un.2.1.2.1 t.un.2.1.2.2.1 t.un.2.1.2.2.2 t.un.2.2.1 t.un.2.2.2.1 t.un.2.2.2.2.1 t.un.2.2.2.2.2 (lv:Int)=run Y (wk lv t) n s:=by
 intro c
 induction c using Nat.strongRecOn with
 |ind c IH=>
   intro t hc lv n N s hN hb hlv hn;obtain⟨M,rfl⟩: ∃m,N=m+1:=⟨N-1,by omega⟩;have hcu:=cnt_un t;have hll:=cntL_len (kd t);rw[F_17,wk_un]
   cases n with
   |zero=>simp[run]
   |succ n=>
     have e0:(((n+1:Nat):Int)==0)=false:=by simp;omega
     have e1:w64 (((n+1:Nat):Int)-1)=(n:Int):=by rw[w64,wrap64]<;>omega
     simp only[e0,e1,Bool.false_eq_true,if_false,Nd.of_eq,run,bind]
     cases hY:Y (t,(lv:Int)) s with
     |none=>rfl
     |some q=>
       simp only[Option.bind_some];by_cases hq:(!q.2)=true
       ·rw[if_pos hq,if_pos hq]
       rw[if_neg hq,if_neg hq];by_cases h24:lv>24
       ·have:(lv:Int)>24:=by omega
        simp[this,h24,run]
       have h24': ¬(lv:Int)>24:=by omega
       simp only[h24',decide_false,Bool.false_eq_true,if_false,h24]
       have key: ∀(r i n K:Nat) (s:σ),i+r=(kd t).length→r<K→n≤100000→
        iterO K (fun s=>F_73 M (F_17 M) Y (kd t) (lv:Int) s.1 s.2.1 s.2.2) (s,(n:Int),(i:Int))=(run Y (wkL (lv+1) ((kd t).drop i)) n s).map cv:=by
        intro r
        induction r with
        |zero=>
          intro i n K s hi hK hn;obtain⟨K,rfl⟩: ∃m,K=m+1:=⟨K-1,by omega⟩;rw[List.drop_eq_nil_of_le Om];simp only[iterO,F_73];rw[if_neg (by simp;omega)];simp[wkL,run,cv]
        |succ r ih=>
          intro i n K s hi hK hn;obtain⟨K,rfl⟩: ∃m,K=m+1:=⟨K-1,by omega⟩;have hlt:i<(kd t).length:=by omega
          have hx:(kd t)[i]? =some (kd t)[i]:=List.getElem?_eq_getElem hlt;generalize(kd t)[i]=x at hx;have hm:=cnt_kid (List.mem_of_getElem? hx);have hw:w64 ((lv:Int)+1)=((lv+1:Nat):Int):=w64_succ Om;have e:=IH (cnt x) Om x rfl (lv+1) n M s Om Om Om hn
          have hs:F_73 M (F_17 M) Y (kd t) (lv:Int) s (n:Int) (i:Int)=(run Y (wk (lv+1) x) n s).bind (fun z=>match z with
           | .inl p=>some (.inr (.inr (.inl p)))
           | .inr (.inl p)=>some (.inr (.inr (.inr (.inl p))))
           | .inr (.inr p)=>some (.inl (p.1,p.2,((i+1:Nat):Int)))):=by
           unfold F_73;rw[if_pos (by simpa using hlt),idx_of hx];simp only[bind,Option.bind_some];rw[hw,e,w64_succ Om]
           cases run Y (wk (lv+1) x) n s with
           |none=>rfl
           |some z=>
             match z with
             | .inl p=>rfl
             | .inr (.inl p)=>rfl
             | .inr (.inr p)=>rfl
          rw[wkL_drop hx,run_app];simp only[iterO,hs]
          cases hr:run Y (wk (lv+1) x) n s with
          |none=>rfl
          |some z=>
            match z,hr with
            | .inl p,_=>rfl
            | .inr (.inl p),_=>rfl
            | .inr (.inr p),hr=>
              obtain⟨m,h1,h2⟩:=run_nat hr;obtain⟨s',q'⟩:=p;simp only at h1;subst h1;simp only[bind,Option.bind_some,nxt,Int.toNat_natCast];exact ih (i+1) m K s' Om Om Om
       have:=key (kd t).length 0 n M q.1 Om Om Om;rw[List.drop_zero]at this;rw[show((0:Int))=((0:Nat):Int)from rfl,this]
       cases run Y (wkL (lv+1) (kd t)) n q.1 with
       |none=>rfl
       |some z=>
         match z with
         | .inl p=>rfl
         | .inr (.inl p)=>rfl
         | .inr (.inr p)=>rfl
def okT(t:Nd):Bool:=
 okB t.un.1 (([t.un.2.1.1,t.un.2.1.2.1,t.un.2.1.2.2.1,t.un.2.1.2.2.2]:LI)== [0,0,0,0]) (kd t).length t.un.2.2.2.1 t.un.2.2.2.2.1 (t.un.2.2.2.2.2.toList==ByteArray.empty.toList) (nmB (sl t.un.2.2.2.2.2))
def okX(x:Nd×Int):Bool:=decide (x.2≤24)&&okT x.1
def rtT(t:Nd):Bool:=decide ((wk 1 t).length≤600)&&(wk 1 t).all okX
mutual
theorem wk_Q: ∀(lv:Nat) (t:Nd),NdQ t→ ∀x∈wk lv t,NdQ x.1
 |lv,.mk k s l a b t,h,x,hx=>by
   have hl:NdQL l:=by simp only[NdQ]at h;exact h.2
   simp only[wk]at hx;rcases List.mem_cons.1 hx with rfl|hx
   ·exact h
   split at hx
   ·simp at hx
   exact wkL_Q (lv+1) l hl x hx
theorem wkL_Q: ∀(lv:Nat) (l:List Nd),NdQL l→ ∀x∈wkL lv l,NdQ x.1
 |_,[],_,x,hx=>by simp[wkL]at hx
 |lv,y::l,h,x,hx=>by
   simp only[NdQL]at h;simp only[wkL]at hx;rcases List.mem_append.1 hx with hx|hx
   ·exact wk_Q lv y h.1 x hx
   exact wkL_Q lv l h.2 x hx
end
def yR(N:Nat):Nd×Int→Int ⊕ Unit→Option ((Int ⊕ Unit)×Bool):=YS (σ1:=Int) (σ2:=Unit) (fun x s=>F_72 N x.1 x.2 s)
theorem right_run(hN:9300000000000000000≤N): ∀(l:List (Nd×Int)) (m:Nat),m≤600→(∀x∈l,NdQ x.1)→
 (if m+l.length≤600∧l.all okX=true then∃n,run (yR N) l (601-m) (.inl (m:Int))=some (.inr (.inr (.inl (((m+l.length:Nat)):Int),n)))
  else∃n,run (yR N) l (601-m) (.inl (m:Int))=some (.inr (.inl (.inr (),n))))
 | [],m,hm,_=>by
   rw[if_pos (by simpa using hm)];exact⟨_,rfl⟩
 |x::l,m,hm,hq=>by
   have hx:=hq x Sm
   have e:run (yR N) (x::l) (601-m) (.inl (m:Int))=
    (if m+1≤600∧okX x=true then run (yR N) l (601-(m+1)) (.inl ((m+1:Nat):Int))else some (.inr (.inl (.inr (),((601-m:Nat):Int))))):=by
    have r0:yR N x (.inl (m:Int))=some (if m+1≤600∧okX x=true then(.inl ((m+1:Nat):Int),true)else(.inr (),false)):=by
     show F_72 N x.1 x.2 (m:Int)=_;unfold F_72;rw[node_code hN hx.text,w64_succ Om];have:okT x.1=okB x.1.un.1 (([x.1.un.2.1.1,x.1.un.2.1.2.1,x.1.un.2.1.2.2.1,x.1.un.2.1.2.2.2]:LI)== [0,0,0,0]) x.1.un.2.2.1.length x.1.un.2.2.2.1 x.1.un.2.2.2.2.1 (x.1.un.2.2.2.2.2.toList==ByteArray.empty.toList) (nmB (sl x.1.un.2.2.2.2.2)):=rfl;rw[←this];unfold okX;by_cases h1:x.2>24
     ·have h1': ¬x.2≤24:=by omega
      simp[h1,h1']
     have h1':x.2≤24:=by omega
     by_cases h2:m+1≤600
     ·have h3: ¬600<(m:Int)+1:=by omega
      cases okT x.1<;>simp[h1,h1',h2,h3]
     have h3:600<(m:Int)+1:=by omega
     simp[h1,h2,h3]
    rw[show 601-m=(601-(m+1))+1 by omega];simp only[run];rw[r0];by_cases h:m+1≤600∧okX x=true
    ·rw[if_pos h,if_pos h];rfl
    rw[if_neg h,if_neg h];rfl
   rw[e];by_cases h1:m+1≤600∧okX x=true
   ·rw[if_pos h1];have ih:=right_run hN l (m+1) h1.1 (fun y hy=>hq y (by simp[hy]))
    have e2:(m+(x::l).length≤600∧(x::l).all okX=true)↔(m+1+l.length≤600∧l.all okX=true):=by
     simp only[List.length_cons,List.all_cons,h1.2,Bool.true_and];rw[show m+(l.length+1)=m+1+l.length by omega]
    by_cases h2:m+1+l.length≤600∧l.all okX=true
    ·rw[if_pos h2]at ih;rw[if_pos (e2.2 h2)];obtain⟨n,hn⟩:=ih;exact⟨n,by rw[hn,List.length_cons,show m+1+l.length=m+(l.length+1) by omega]⟩
    rw[if_neg h2]at ih;rw[if_neg (fun h=>h2 (e2.1 h))];exact ih
   rw[if_neg h1,if_neg]
   ·exact⟨_,rfl⟩
   rintro⟨h2,h3⟩;simp only[List.length_cons,List.all_cons,Bool.and_eq_true]at h2 h3;exact h1 ⟨by omega,h3.1⟩
theorem right_code{t:Nd}(hN:9300000000000000000≤N)(hc:cnt t<1000)(hq:NdQ t):
 F_16 N t.un.1 t.un.2.1.1 t.un.2.1.2.1 t.un.2.1.2.2.1 t.un.2.1.2.2.2 t.un.2.2.1 t.un.2.2.2.1 t.un.2.2.2.2.1 t.un.2.2.2.2.2=some (rtT t):=by
 unfold F_16 F_63 F_124;have e:=walk_run (yR N) _ t rfl 1 601 N (.inl 0) Om Om Om Om;have r:=right_run hN (wk 1 t) 0 Om (fun x hx=>wk_Q 1 t hq x hx);simp only[bind,Option.bind_some];rw[show(YS (σ1:=Int) (σ2:=Unit) fun x s=>F_72 N x.1 x.2 s)=yR N from rfl,show((601:Int))=((601:Nat):Int)from rfl,show((1:Int))=((1:Nat):Int)from rfl,e];unfold rtT;by_cases h:0+(wk 1 t).length≤600∧(wk 1 t).all okX=true
 ·rw[if_pos h]at r;obtain⟨n,hn⟩:=r;have hn:run (yR N) (wk 1 t) 601 (.inl 0)=_:=hn;rw[hn];have h1:(wk 1 t).length≤600:=by omega
  simp[h.2,h1]
 rw[if_neg h]at r;obtain⟨n,hn⟩:=r;have hn:run (yR N) (wk 1 t) 601 (.inl 0)=_:=hn;rw[hn];by_cases h1:(wk 1 t).length≤600
 ·have:(wk 1 t).all okX=false:=by
   cases hh:(wk 1 t).all okX with
   |false=>rfl
   |true=>exact absurd ⟨by omega,hh⟩ h
  simp[this]
 simp[h1]
def stp(x:Nd×Int):Nd×Int×Int:=(Nd.of (x.1.un.1,(x.1.un.2.1.1,x.1.un.2.1.2.1,x.1.un.2.1.2.2.1,x.1.un.2.1.2.2.2),[],x.1.un.2.2.2.1,x.1.un.2.2.2.2.1,x.1.un.2.2.2.2.2),x.2,((kd x.1).length:Int))
theorem walk_ref: ∀(c:Nat) (t:Nd),cnt t=c→ ∀(lv N:Nat) (acc:List (Nd×Int×Int)),cnt t+5≤N→cnt t<100000→lv≤25→acc.length≤601→
 F_7 N t.un.1 t.un.2.1.1 t.un.2.1.2.1 t.un.2.1.2.2.1 t.un.2.1.2.2.2 t.un.2.2.1 t.un.2.2.2.1 t.un.2.2.2.2.1 t.un.2.2.2.2.2 (lv:Int) acc=some (acc++((wk lv t).take (601-acc.length)).map stp):=by
 intro c
 induction c using Nat.strongRecOn with
 |ind c IH=>
   intro t hc lv N acc hN hb hlv ha;obtain⟨M,rfl⟩: ∃m,N=m+1:=⟨N-1,by omega⟩;have hcu:=cnt_un t;have hll:=cntL_len (kd t);rw[F_7];by_cases h6:acc.length=601
   ·have:(acc.length:Int)≥601:=by omega
    rw[if_pos (by simpa using this),h6];simp
   have: ¬(acc.length:Int)≥601:=by omega
   rw[if_neg (by simpa using this),app_eq (by simp;omega)];simp only[bind,Option.bind_some];have e0:601-acc.length=(600-acc.length)+1:=by omega
   rw[wk_un,e0,List.take_succ_cons,List.map_cons];have e1:(Nd.of (t.un.1,(t.un.2.1.1,t.un.2.1.2.1,t.un.2.1.2.2.1,t.un.2.1.2.2.2),[],t.un.2.2.2.1,t.un.2.2.2.2.1,t.un.2.2.2.2.2),(lv:Int),(t.un.2.2.1.length:Int))=stp (t,(lv:Int)):=rfl;rw[e1];generalize stp (t,(lv:Int))=y;by_cases h24:lv>24
   ·have:(lv:Int)>24:=by omega
    rw[if_pos (by simpa using this),if_pos h24];simp
   have: ¬(lv:Int)>24:=by omega
   rw[if_neg (by simpa using this),if_neg h24]
   have key: ∀(r i K:Nat) (acc:List (Nd×Int×Int)),i+r=(kd t).length→r<K→acc.length≤601→
    iterO K (fun s=>F_46 M (F_7 M) (kd t) (lv:Int) s.1 s.2) (acc,(i:Int))=some (.inl (acc++((wkL (lv+1) ((kd t).drop i)).take (601-acc.length)).map stp))∨
    iterO K (fun s=>F_46 M (F_7 M) (kd t) (lv:Int) s.1 s.2) (acc,(i:Int))=some (.inr (acc++((wkL (lv+1) ((kd t).drop i)).take (601-acc.length)).map stp)):=by
    intro r
    induction r with
    |zero=>
      intro i K acc hi hK ha;obtain⟨K,rfl⟩: ∃m,K=m+1:=⟨K-1,by omega⟩;rw[List.drop_eq_nil_of_le Om];refine .inl ?_;simp only[iterO,F_46];rw[if_neg (by simp;omega)];simp[wkL]
    |succ r ih=>
      intro i K acc hi hK ha;obtain⟨K,rfl⟩: ∃m,K=m+1:=⟨K-1,by omega⟩;have hlt:i<(kd t).length:=by omega
      have hx:(kd t)[i]? =some (kd t)[i]:=List.getElem?_eq_getElem hlt;generalize(kd t)[i]=x at hx;have hm:=cnt_kid (List.mem_of_getElem? hx);by_cases h6:acc.length=601
      ·refine .inr ?_;have:(acc.length:Int)≥601:=by omega
       simp only[iterO,F_46];rw[if_pos (by simpa using hlt),idx_of hx];simp only[bind,Option.bind_some];rw[if_pos (by simpa using this),h6];simp
      have h6': ¬(acc.length:Int)≥601:=by omega
      have hw:w64 ((lv:Int)+1)=((lv+1:Nat):Int):=w64_succ Om;have e:=IH (cnt x) Om x rfl (lv+1) M acc Om Om Om ha
      have hs:F_46 M (F_7 M) (kd t) (lv:Int) acc (i:Int)=some (.inl (acc++((wk (lv+1) x).take (601-acc.length)).map stp,((i+1:Nat):Int))):=by
       unfold F_46;rw[if_pos (by simpa using hlt),idx_of hx];simp only[bind,Option.bind_some];rw[if_neg (by simpa using h6'),hw,e,w64_succ Om];rfl
      have hl:(acc++((wk (lv+1) x).take (601-acc.length)).map stp).length=acc.length+min (601-acc.length) (wk (lv+1) x).length:=by simp
      have g:=ih (i+1) K (acc++((wk (lv+1) x).take (601-acc.length)).map stp) Om Om (by rw[hl];omega)
      have e3:acc++((wk (lv+1) x).take (601-acc.length)).map stp++((wkL (lv+1) ((kd t).drop (i+1))).take (601-(acc++((wk (lv+1) x).take (601-acc.length)).map stp).length)).map stp=acc++((wkL (lv+1) ((kd t).drop i)).take (601-acc.length)).map stp:=by
       rw[hl,wkL_drop hx,List.take_append,List.map_append,List.append_assoc]
       congr 4
       omega
      rw[e3]at g;simp only[iterO,hs];exact g
   have hl:(acc++ [y]).length=acc.length+1:=by simp
   have g:=key (kd t).length 0 M (acc++ [y]) Om Om Om;rw[List.drop_zero,hl,show 601-(acc.length+1)=600-acc.length by omega,show acc++ [y]++((wkL (lv+1) (kd t)).take (600-acc.length)).map stp=acc++y::((wkL (lv+1) (kd t)).take (600-acc.length)).map stp by simp]at g;rw[show((0:Int))=((0:Nat):Int)from rfl];rcases g with g|g<;>rw[g]<;>rfl
theorem right_ref{t:Nd}(hN:9300000000000000000≤N)(hc:cnt t<1000):
 F_25 N t.un.1 t.un.2.1.1 t.un.2.1.2.1 t.un.2.1.2.2.1 t.un.2.1.2.2.2 t.un.2.2.1 t.un.2.2.2.1 t.un.2.2.2.2.1 t.un.2.2.2.2.2=some (rtT t):=by
 unfold F_25;rw[show((1:Int))=((1:Nat):Int)from rfl,walk_ref _ t rfl 1 N [] Om Om Om Sm];simp only[bind,Option.bind_some,List.nil_append,List.length_nil,Nat.sub_zero]
 rw[loop_any (((wk 1 t).take 601).map stp) (fun y=>decide (y.2.1>24)|| !okB y.1.un.1 (([y.1.un.2.1.1,y.1.un.2.1.2.1,y.1.un.2.1.2.2.1,y.1.un.2.1.2.2.2]:LI)== [0,0,0,0]) y.2.2.toNat y.1.un.2.2.2.1 y.1.un.2.2.2.2.1 (y.1.un.2.2.2.2.2.toList==ByteArray.empty.toList) (nmB (sl y.1.un.2.2.2.2.2))) false (by simp;omega) (fun i y hy=>by
  have hi:=lt_len hy
  have hi6:i<601:=by
   simp at hi;omega
  unfold F_85;rw[if_pos (by simpa using hi),idx_of hy];simp only[bind,Option.bind_some]
  have hn:y.2.2=((y.2.2.toNat:Nat):Int):=by
   have:=List.mem_of_getElem? hy;obtain⟨x,_,rfl⟩:=List.mem_map.1 this;simp[stp]
  rw[hn,node_ref hN,w64_succ Om];rw[←hn];by_cases h:y.2.1>24
  ·simp[h]
  generalize okB y.1.un.1 (([y.1.un.2.1.1,y.1.un.2.1.2.1,y.1.un.2.1.2.2.1,y.1.un.2.1.2.2.2]:LI)== [0,0,0,0]) y.2.2.toNat y.1.un.2.2.2.1 y.1.un.2.2.2.2.1 (y.1.un.2.2.2.2.2.toList==ByteArray.empty.toList) (nmB (sl y.1.un.2.2.2.2.2))=q;cases q<;>simp[h]) (by unfold F_85;simp)]
 rw[List.any_map]
 have e2:((fun y:Nd×Int×Int=>decide (y.2.1>24)|| !okB y.1.un.1 (([y.1.un.2.1.1,y.1.un.2.1.2.1,y.1.un.2.1.2.2.1,y.1.un.2.1.2.2.2]:LI)== [0,0,0,0]) y.2.2.toNat y.1.un.2.2.2.1 y.1.un.2.2.2.2.1 (y.1.un.2.2.2.2.2.toList==ByteArray.empty.toList) (nmB (sl y.1.un.2.2.2.2.2)))∘stp)=fun x=> !okX x:=by
  funext x
  have e3:decide (x.2>24)= !decide (x.2≤24):=by
   rw[Bool.eq_iff_iff];simp
  unfold okX;rw[Bool.not_and,←e3];rfl
 rw[e2];unfold rtT
 have e4:((wk 1 t).take 601).any (fun x=> !okX x)= !((wk 1 t).take 601).all okX:=by
  rw[List.any_eq_not_all_not];simp
 rw[e4];by_cases h:(wk 1 t).length≤600
 ·rw[List.take_of_length_le Om];have:((wk 1 t).length:Int)≤600:=by omega
  cases(wk 1 t).all okX<;>simp[h,this]
 have: ¬(min 601 (wk 1 t).length≤600):=by omega
 cases((wk 1 t).take 601).all okX<;>simp[h]<;>omega
open Go Go.Eng
set_option maxRecDepth 100000
def RT(lv:Nat)(t:Nd):Prop:= ∀x∈wk lv t,okX x=true
theorem RT.node{lv:Nat}{t:Nd}(h:RT lv t):lv≤24∧okT t=true:=by
 have:=h (t,(lv:Int)) (by rw[wk_un];simp);unfold okX at this;simp only[Bool.and_eq_true,decide_eq_true_eq]at this;exact⟨by omega,this.2⟩
theorem wkL_mem{lv:Nat}{x:Nd}: ∀{l:List Nd},x∈l→ ∀y∈wk lv x,y∈wkL lv l
 |z::l,h,y,hy=>by
   simp only[wkL];rcases List.mem_cons.1 h with rfl|h
   ·exact List.mem_append.2 (.inl hy)
   exact List.mem_append.2 (.inr (wkL_mem h y hy))
theorem RT.kid{lv:Nat}{t x:Nd}(h:RT lv t)(hx:x∈kd t):RT (lv+1) x:=fun y hy=>by
 have h24:=h.node.1;refine h y ?_;rw[wk_un,if_neg Om];exact List.mem_cons_of_mem _ (wkL_mem hx y hy)
theorem RT.of{t:Nd}(h:rtT t=true):RT 1 t:=by
 unfold rtT at h;simp only[Bool.and_eq_true,List.all_eq_true]at h;exact h.2
abbrev kn(t:Nd):Int:=t.un.1
abbrev lo(t:Nd):Int:=t.un.2.2.2.1
abbrev hi(t:Nd):Int:=t.un.2.2.2.2.1
theorem ok_kind{t:Nd}(h:okT t=true):(kn t=1∧kd t= [])∨kn t=2∨(kn t=3∧2≤(kd t).length)∨
 (kn t=4∧(kd t).length=1∧0≤lo t∧lo t≤40∧(hi t= -1∨(lo t≤hi t∧1≤hi t∧hi t≤40)))∨(kn t=5∧kd t= []):=by
 unfold okT okB kindB at h;rw[Bool.and_eq_true]at h;have h:=h.2;simp only[beq_iff_eq]at h;split at h
 ·rename_i h1;exact .inl ⟨h1,List.eq_nil_of_length_eq_zero (by simpa using h)⟩
 split at h
 ·rename_i h1;exact .inr (.inl h1)
 split at h
 ·rename_i h1;exact .inr (.inr (.inl ⟨h1,by simpa using h⟩))
 split at h
 ·rename_i h1;simp only[Bool.and_eq_true,Bool.or_eq_true,beq_iff_eq,decide_eq_true_eq]at h;have h2:hi t= -1∨((lo t≤hi t∧1≤hi t)∧hi t≤40):=h.2;exact .inr (.inr (.inr (.inl ⟨h1,h.1.1.1,h.1.1.2,h.1.2,h2.imp id fun h=>⟨h.1.1,h.1.2,h.2⟩⟩)))
 simp only[Bool.and_eq_true,beq_iff_eq]at h;exact .inr (.inr (.inr (.inr ⟨h.1.1,List.eq_nil_of_length_eq_zero h.1.2⟩)))
def adj(k mn mx x:Int):Int:=if k=4 then(if mx= -1 then min (x*(mn+1)) 1048576 else min (x*mx) 1048576)else x
mutual
def wgt:Nd→Int
 | .mk k _ l mn mx _=>wgtL k mn mx 1 l
def wgtL:Int→Int→Int→Int→List Nd→Int
 |_,_,_,w,[]=>w
 |k,mn,mx,w,x::l=>wgtL k mn mx (min (w+adj k mn mx (wgt x)) 1048576) l
end
theorem wgt_un(t:Nd):wgt t=wgtL (kn t) (lo t) (hi t) 1 (kd t):=by
 cases t;simp only[wgt];rfl
theorem wgtL_drop{k mn mx w:Int}{l:List Nd}{i:Nat}{x:Nd}(h:l[i]? =some x):wgtL k mn mx w (l.drop i)=wgtL k mn mx (min (w+adj k mn mx (wgt x)) 1048576) (l.drop (i+1)):=by
 rw[List.drop_eq_getElem_cons (lt_len h)];simp only[wgtL];rw[(List.getElem?_eq_some_iff.1 h).2]
theorem mul_bd{a b:Int}(h1:0≤a)(h2:a≤1048576)(h3:0≤b)(h4:b≤41):0≤a*b∧a*b≤42991616:=by
 refine⟨Int.mul_nonneg h1 h3,?_⟩;have:=Int.mul_le_mul h2 h4 h3 Om;omega
structure Bd(k mn mx:Int):Prop where
 b:k=4→0≤mn∧mn≤40∧(mx= -1∨(1≤mx∧mx≤40))
theorem ok_bd{t:Nd}(h:okT t=true):Bd (kn t) (lo t) (hi t):=⟨fun h4=>by
 rcases ok_kind h with⟨h1,_⟩|h1|⟨h1,_⟩|⟨_,_,a,b,c⟩|⟨h1,_⟩
 ·omega
 ·omega
 ·omega
 ·exact⟨a,b,by omega⟩
 omega⟩
theorem adj_bd{k mn mx x:Int}(h:Bd k mn mx)(h1:1≤x)(h2:x≤1048576):0≤adj k mn mx x∧adj k mn mx x≤1048576:=by
 unfold adj;split
 ·rename_i h4;obtain⟨a,b,c⟩:=h.b h4;split
  ·have:=(mul_bd (a:=x) (b:=mn+1) Om h2 Om Om).1;omega
  have:=(mul_bd (a:=x) (b:=mx) Om h2 Om Om).1;omega
 omega
theorem wgtL_bd{k mn mx:Int}(h:Bd k mn mx): ∀(l:List Nd) (w:Int),(∀x∈l,1≤wgt x∧wgt x≤1048576)→1≤w→w≤1048576→1≤wgtL k mn mx w l∧wgtL k mn mx w l≤1048576
 | [],w,_,h1,h2=>by simp only[wgtL];omega
 |x::l,w,hx,h1,h2=>by
   simp only[wgtL];have:=hx x Sm;have:=adj_bd h this.1 this.2;exact wgtL_bd h l _ (fun y hy=>hx y (by simp[hy])) Om Om
theorem wgt_bd: ∀(c:Nat) (t:Nd),cnt t=c→ ∀lv,RT lv t→1≤wgt t∧wgt t≤1048576:=by
 intro c
 induction c using Nat.strongRecOn with
 |ind c IH=>
   intro t hc lv h;rw[wgt_un];exact wgtL_bd (ok_bd h.node.2) _ _ (fun x hx=>IH (cnt x) (by have:=cnt_kid hx;omega) x rfl _ (h.kid hx)) Om Om
theorem cut_spec(N:Nat)(x:Int):F_74 N x=some (min x 1048576):=by
 unfold F_74;by_cases h:x>1048576
 ·rw[if_pos (by simpa using h)]
  congr 1;omega
 rw[if_neg (by simpa using h)]
 congr 1;omega
theorem weight_ref: ∀(c:Nat) (t:Nd),cnt t=c→ ∀(lv N:Nat),RT lv t→cnt t+5≤N→cnt t<100000→
 F_12 N t.un.1 t.un.2.1.1 t.un.2.1.2.1 t.un.2.1.2.2.1 t.un.2.1.2.2.2 t.un.2.2.1 t.un.2.2.2.1 t.un.2.2.2.2.1 t.un.2.2.2.2.2=some (wgt t):=by
 intro c
 induction c using Nat.strongRecOn with
 |ind c IH=>
   intro t hc lv N h hN hb;obtain⟨M,rfl⟩: ∃m,N=m+1:=⟨N-1,by omega⟩;have hcu:=cnt_un t;have hll:=cntL_len (kd t);have hbd:=ok_bd h.node.2;rw[F_12]
   have key: ∀(r i K:Nat) (w:Int),i+r=(kd t).length→r<K→1≤w→w≤1048576→
    iterO K (fun s=>F_55 M (F_12 M) (kn t) (kd t) (lo t) (hi t) s.1 s.2) ((i:Int),w)=some (wgtL (kn t) (lo t) (hi t) w ((kd t).drop i)):=by
    intro r
    induction r with
    |zero=>
      intro i K w hi_ hK h1 h2;obtain⟨K,rfl⟩: ∃m,K=m+1:=⟨K-1,by omega⟩;rw[List.drop_eq_nil_of_le Om];simp only[iterO,F_55];rw[if_neg (by simp;omega)];simp[wgtL]
    |succ r ih=>
      intro i K w hi_ hK h1 h2;obtain⟨K,rfl⟩: ∃m,K=m+1:=⟨K-1,by omega⟩;have hlt:i<(kd t).length:=by omega
      have hx:(kd t)[i]? =some (kd t)[i]:=List.getElem?_eq_getElem hlt;generalize(kd t)[i]=x at hx;have hmem:=List.mem_of_getElem? hx;have hm:=cnt_kid hmem;have e:=IH (cnt x) Om x rfl (lv+1) M (h.kid hmem) Om Om;have hw:=wgt_bd _ x rfl _ (h.kid hmem);have ha:=adj_bd hbd hw.1 hw.2
      have hs:F_55 M (F_12 M) (kn t) (kd t) (lo t) (hi t) (i:Int) w=some (.inl (((i+1:Nat):Int),min (w+adj (kn t) (lo t) (hi t) (wgt x)) 1048576)):=by
       unfold F_55;rw[if_pos (by simpa using hlt),idx_of hx];simp only[bind,Option.bind_some];rw[e,w64_succ Om];simp only[Option.bind_some,cut_spec];have fin: ∀z:Int,0≤z→z≤1048576→w64 (w+z)=w+z:=fun z h3 h4=>by rw[w64,wrap64]<;>omega
       by_cases h4:kn t=4
       ·obtain⟨a,b,c⟩:=hbd.b h4;have e4:(kn t==4)=true:=by simpa using h4
        rw[e4];by_cases h5:hi t= -1
        ·have e5:(hi t== -1)=true:=by simpa using h5
         have eq1:w64 (lo t+1)=lo t+1:=by rw[w64,wrap64]<;>omega
         have mb:=mul_bd (a:=wgt x) (b:=lo t+1) Om hw.2 Om Om;have eq2:w64 (wgt x*(lo t+1))=wgt x*(lo t+1):=by rw[w64,wrap64]<;>omega
         have ea:adj (kn t) (lo t) (hi t) (wgt x)=min (wgt x*(lo t+1)) 1048576:=by unfold adj;rw[if_pos h4,if_pos h5]
         rw[ea]at ha;simp only[e5,if_true,Option.bind_some,eq1,eq2,ea,fin _ ha.1 ha.2]
        have e5:(hi t== -1)=false:=by simpa using h5
        have mb:=mul_bd (a:=wgt x) (b:=hi t) Om hw.2 Om Om;have eq2:w64 (wgt x*hi t)=wgt x*hi t:=by rw[w64,wrap64]<;>omega
        have ea:adj (kn t) (lo t) (hi t) (wgt x)=min (wgt x*hi t) 1048576:=by unfold adj;rw[if_pos h4,if_neg h5]
        rw[ea]at ha;simp only[e5,if_true,Bool.false_eq_true,if_false,Option.bind_some,eq2,ea,fin _ ha.1 ha.2]
       have e4:(kn t==4)=false:=by simpa using h4
       have ea:adj (kn t) (lo t) (hi t) (wgt x)=wgt x:=by unfold adj;rw[if_neg h4]
       rw[ea]at ha;simp only[e4,Bool.false_eq_true,if_false,Option.bind_some,ea,fin _ ha.1 ha.2]
      simp only[iterO,hs];rw[wgtL_drop hx];exact ih (i+1) K _ Om Om Om Om
   have g:=key (kd t).length 0 M 1 Om Om Om Om;rw[List.drop_zero,←wgt_un]at g;show(iterO M (fun s=>F_55 M (F_12 M) (kn t) (kd t) (lo t) (hi t) s.1 s.2) (((0:Nat):Int),1) >>= _)=_;rw[g];rfl
open Go Go.Eng
set_option maxRecDepth 100000
theorem or_tot(hN:5≤N)(x1 x2 x3 x4 x5 x6 x7 x8:Int): ∃r,F_15 N x1 x2 x3 x4 x5 x6 x7 x8=some r:=by
 obtain⟨M,rfl⟩: ∃m,N=m+5:=⟨N-5,by omega⟩;unfold F_15
 have s: ∀(j:Nat) (a b c d:Int),j<4→ ∃e f g h,F_79 (M+5) x5 x6 x7 x8 a b c d (j:Int)=some (.inl (e,f,g,h,((j+1:Nat):Int))):=fun j a b c d hj=>by
  unfold F_79;rw[if_pos (by simpa using(show(j:Int)<4 by omega))];have h1:j<([a,b,c,d]:LI).length:=hj;have h2:j<([x5,x6,x7,x8]:LI).length:=hj;simp only[idx_nat h1,idx_nat h2,bind,Option.bind_some,setI_nat h1];rw[w64_succ Om];exact⟨_,_,_,_,rfl⟩
 obtain⟨a1,b1,c1,d1,h1⟩:=s 0 x1 x2 x3 x4 Om;obtain⟨a2,b2,c2,d2,h2⟩:=s 1 a1 b1 c1 d1 Om;obtain⟨a3,b3,c3,d3,h3⟩:=s 2 a2 b2 c2 d2 Om;obtain⟨a4,b4,c4,d4,h4⟩:=s 3 a3 b3 c3 d3 Om;have h5:F_79 (M+5) x5 x6 x7 x8 a4 b4 c4 d4 ((4:Nat):Int)=some (.inr (a4,b4,c4,d4)):=rfl;rw[show((0:Int))=((0:Nat):Int)from rfl];simp only[iterO,h1,h2,h3,h4,h5];exact⟨_,rfl⟩
theorem times_tot(a b:Int): ∃r,F_62 N a b=some r:=by
 unfold F_62;by_cases h:a>0
 ·have:nz a=some ():=by unfold nz;rw[if_neg Om]
  rw[if_pos (by simpa using h),this];simp only[bind,Option.bind_some];split<;>exact⟨_,rfl⟩
 rw[if_neg (by simpa using h)];exact⟨_,rfl⟩
theorem behind_tot(hN:5≤N)(x1 x2 x18 x19:Bool)(x3 x4 x5 x6 x7 x8 x9 x10 x11 x12 x13 x14 x15 x16 x17:Int)(x20 x21 x22 x23 x24 x25 x26 x27 x28 x29 x30 x31 x32 x33 x34:Int): ∃r,F_113 N x1 x2 x3 x4 x5 x6 x7 x8 x9 x10 x11 x12 x13 x14 x15 x16 x17 x18 x19 x20 x21 x22 x23 x24 x25 x26 x27 x28 x29 x30 x31 x32 x33 x34=some r:=by
 have o:=or_tot hN;unfold F_113 F_49 F_41;simp only[bind,Option.bind_some];obtain⟨⟨p1,p2,p3,p4⟩,e1⟩:=o x14 x15 x16 x17 x31 x32 x33 x34;obtain⟨⟨q1,q2,q3,q4⟩,e2⟩:=o x6 x7 x8 x9 x23 x24 x25 x26;obtain⟨⟨r1,r2,r3,r4⟩,e3⟩:=o x27 x28 x29 x30 x10 x11 x12 x13;rw[e1,e2,e3];cases x1<;>cases x18<;>cases x2<;>cases x19<;>exact⟨_,rfl⟩
theorem orF_tot(hN:5≤N)(x1 x2 x18 x19:Bool)(x3 x4 x5 x6 x7 x8 x9 x10 x11 x12 x13 x14 x15 x16 x17:Int)(x20 x21 x22 x23 x24 x25 x26 x27 x28 x29 x30 x31 x32 x33 x34:Int): ∃r,F_114 N x1 x2 x3 x4 x5 x6 x7 x8 x9 x10 x11 x12 x13 x14 x15 x16 x17 x18 x19 x20 x21 x22 x23 x24 x25 x26 x27 x28 x29 x30 x31 x32 x33 x34=some r:=by
 have o:=or_tot hN;unfold F_114;simp only[bind];obtain⟨⟨p1,p2,p3,p4⟩,e1⟩:=o x14 x15 x16 x17 x31 x32 x33 x34;obtain⟨⟨q1,q2,q3,q4⟩,e2⟩:=o x6 x7 x8 x9 x23 x24 x25 x26;obtain⟨⟨r1,r2,r3,r4⟩,e3⟩:=o x10 x11 x12 x13 x27 x28 x29 x30;rw[e1,e2,e3];cases x1<;>cases x18<;>cases x2<;>exact⟨_,rfl⟩
theorem again_tot(x1 x2:Bool)(x3 x4 x5 x6 x7 x8 x9 x10 x11 x12 x13 x14 x15 x16 x17 x18 x19:Int): ∃r,F_112 N x1 x2 x3 x4 x5 x6 x7 x8 x9 x10 x11 x12 x13 x14 x15 x16 x17 x18 x19=some r:=by
 unfold F_112 F_100 F_49;obtain⟨a,e1⟩:=times_tot (N:=N) x3 x18;obtain⟨b,e2⟩:=times_tot (N:=N) x4 x19;rw[e1,e2];simp only[bind,Option.bind_some];cases x1
 ·cases x2<;>cases x19==(-1)<;>cases decide (x4>0)<;>exact⟨_,rfl⟩
 cases x18==0<;>exact⟨_,rfl⟩
open Go Go.Eng
set_option maxRecDepth 100000
theorem l1_tot{M:Nat}(hM:5≤M)(lst:List (Bool×Bool×Int×Int×Int×(Int×Int×Int×Int)×(Int×Int×Int×Int)×(Int×Int×Int×Int)))(hl:lst.length<M)(hl2:lst.length<4294967296)(s0:Bool×Bool×Int×Int×Int×Int×Int×Int×Int×Int×Int×Int×Int×Int×Int×Int): ∃r,iterO M (fun s:Int×Bool×Bool×Int×Int×Int×Int×Int×Int×Int×Int×Int×Int×Int×Int×Int×Int=>F_67 M lst s.1 s.2.1 s.2.2.1 s.2.2.2.1 s.2.2.2.2.1 s.2.2.2.2.2.1 s.2.2.2.2.2.2.1 s.2.2.2.2.2.2.2.1 s.2.2.2.2.2.2.2.2.1 s.2.2.2.2.2.2.2.2.2.1 s.2.2.2.2.2.2.2.2.2.2.1 s.2.2.2.2.2.2.2.2.2.2.2.1 s.2.2.2.2.2.2.2.2.2.2.2.2.1 s.2.2.2.2.2.2.2.2.2.2.2.2.2.1 s.2.2.2.2.2.2.2.2.2.2.2.2.2.2.1 s.2.2.2.2.2.2.2.2.2.2.2.2.2.2.2.1 s.2.2.2.2.2.2.2.2.2.2.2.2.2.2.2.2) (0,s0)=some r:=by
 obtain⟨r,h,_⟩:=loop_inv (f:=fun s:Int×Bool×Bool×Int×Int×Int×Int×Int×Int×Int×Int×Int×Int×Int×Int×Int×Int=>F_67 M lst s.1 s.2.1 s.2.2.1 s.2.2.2.1 s.2.2.2.2.1 s.2.2.2.2.2.1 s.2.2.2.2.2.2.1 s.2.2.2.2.2.2.2.1 s.2.2.2.2.2.2.2.2.1 s.2.2.2.2.2.2.2.2.2.1 s.2.2.2.2.2.2.2.2.2.2.1 s.2.2.2.2.2.2.2.2.2.2.2.1 s.2.2.2.2.2.2.2.2.2.2.2.2.1 s.2.2.2.2.2.2.2.2.2.2.2.2.2.1 s.2.2.2.2.2.2.2.2.2.2.2.2.2.2.1 s.2.2.2.2.2.2.2.2.2.2.2.2.2.2.2.1 s.2.2.2.2.2.2.2.2.2.2.2.2.2.2.2.2) (fun i (s:Bool×Bool×Int×Int×Int×Int×Int×Int×Int×Int×Int×Int×Int×Int×Int×Int)=>((i:Int),s)) id lst (fun _ _=>True) (N:=M) (s:=s0) hl trivial (fun i y s hx _=>by
  have hi:=lt_len hx;obtain⟨b1,b2,a3,a4,a5,a6,a7,a8,a9,a10,a11,a12,a13,a14,a15,a16⟩:=s;obtain⟨y1,y2,y3,y4,y5,⟨y6,y7,y8,y9⟩,⟨y10,y11,y12,y13⟩,⟨y14,y15,y16,y17⟩⟩:=y;obtain⟨r,e⟩:=behind_tot hM b1 b2 y1 y2 a3 a4 0 a5 a6 a7 a8 a9 a10 a11 a12 a13 a14 a15 a16 y3 y4 y5 y6 y7 y8 y9 y10 y11 y12 y13 y14 y15 y16 y17;unfold F_67;rw[if_pos (by simpa using hi),idx_of hx];simp only[bind,Option.bind_some];rw[e,w64_succ Om];exact⟨r,rfl,trivial⟩) (fun s _=>by unfold F_67;simp)
 exact⟨r,h⟩
theorem l2_tot{M:Nat}(hM:5≤M)(lst:List (Bool×Bool×Int×Int×Int×(Int×Int×Int×Int)×(Int×Int×Int×Int)×(Int×Int×Int×Int)))(hl:lst.length<M)(hl2:lst.length<4294967296)(s0:Bool×Bool×Int×Int×Int×Int×Int×Int×Int×Int×Int×Int×Int×Int×Int×Int×Int): ∃r,iterO M (fun s:Int×Bool×Bool×Int×Int×Int×Int×Int×Int×Int×Int×Int×Int×Int×Int×Int×Int×Int=>F_68 M lst s.1 s.2.1 s.2.2.1 s.2.2.2.1 s.2.2.2.2.1 s.2.2.2.2.2.1 s.2.2.2.2.2.2.1 s.2.2.2.2.2.2.2.1 s.2.2.2.2.2.2.2.2.1 s.2.2.2.2.2.2.2.2.2.1 s.2.2.2.2.2.2.2.2.2.2.1 s.2.2.2.2.2.2.2.2.2.2.2.1 s.2.2.2.2.2.2.2.2.2.2.2.2.1 s.2.2.2.2.2.2.2.2.2.2.2.2.2.1 s.2.2.2.2.2.2.2.2.2.2.2.2.2.2.1 s.2.2.2.2.2.2.2.2.2.2.2.2.2.2.2.1 s.2.2.2.2.2.2.2.2.2.2.2.2.2.2.2.2.1 s.2.2.2.2.2.2.2.2.2.2.2.2.2.2.2.2.2) (0,s0)=some r:=by
 obtain⟨r,h,_⟩:=loop_inv (f:=fun s:Int×Bool×Bool×Int×Int×Int×Int×Int×Int×Int×Int×Int×Int×Int×Int×Int×Int×Int=>F_68 M lst s.1 s.2.1 s.2.2.1 s.2.2.2.1 s.2.2.2.2.1 s.2.2.2.2.2.1 s.2.2.2.2.2.2.1 s.2.2.2.2.2.2.2.1 s.2.2.2.2.2.2.2.2.1 s.2.2.2.2.2.2.2.2.2.1 s.2.2.2.2.2.2.2.2.2.2.1 s.2.2.2.2.2.2.2.2.2.2.2.1 s.2.2.2.2.2.2.2.2.2.2.2.2.1 s.2.2.2.2.2.2.2.2.2.2.2.2.2.1 s.2.2.2.2.2.2.2.2.2.2.2.2.2.2.1 s.2.2.2.2.2.2.2.2.2.2.2.2.2.2.2.1 s.2.2.2.2.2.2.2.2.2.2.2.2.2.2.2.2.1 s.2.2.2.2.2.2.2.2.2.2.2.2.2.2.2.2.2) (fun i (s:Bool×Bool×Int×Int×Int×Int×Int×Int×Int×Int×Int×Int×Int×Int×Int×Int×Int)=>((i:Int),s)) id lst (fun _ _=>True) (N:=M) (s:=s0) hl trivial (fun i y s hx _=>by
  have hi:=lt_len hx;obtain⟨b1,b2,a3,a4,a5,a6,a7,a8,a9,a10,a11,a12,a13,a14,a15,a16,a17⟩:=s;obtain⟨y1,y2,y3,y4,y5,⟨y6,y7,y8,y9⟩,⟨y10,y11,y12,y13⟩,⟨y14,y15,y16,y17⟩⟩:=y;obtain⟨r,e⟩:=orF_tot hM b1 b2 y1 y2 a3 a4 a5 a6 a7 a8 a9 a10 a11 a12 a13 a14 a15 a16 a17 y3 y4 y5 y6 y7 y8 y9 y10 y11 y12 y13 y14 y15 y16 y17;unfold F_68;rw[if_pos (by simpa using hi),idx_of hx];simp only[bind,Option.bind_some];rw[e,w64_succ Om];exact⟨r,rfl,trivial⟩) (fun s _=>by unfold F_68;simp)
 exact⟨r,h⟩
theorem wgtL_ne{k mn mx:Int}(h:k≠4): ∀(l:List Nd) (w:Int),wgtL k mn mx w l=wgtL 0 0 0 w l
 | [],w=>by simp only[wgtL]
 |x::l,w=>by
   simp only[wgtL];have e1:adj k mn mx (wgt x)=wgt x:=by unfold adj;rw[if_neg h]
   have e2:adj 0 0 0 (wgt x)=wgt x:=rfl;rw[e1,e2];exact wgtL_ne h l _
theorem imin_min(a b:Int):imin a b=min a b:=by
 unfold imin;split<;>omega
theorem times_spec{a n:Int}(h1:1≤a)(h2:a≤1048576)(h3:0≤n)(h4:n≤41):F_62 N a n=some (min (a*n) 1048576):=by
 have mb:=mul_bd (a:=a) (b:=n) Om h2 h3 h4;have ew:w64 (a*n)=a*n:=by rw[w64,wrap64]<;>omega
 have hq:(1048576:Int).tdiv a=1048576/a:=Int.tdiv_eq_ediv_of_nonneg Om;have hq0:0≤(1048576:Int)/a:=Int.ediv_nonneg Om Om;have hq1:(1048576:Int)/a≤1048576:=Int.ediv_le_self _ Om
 have hq2:(1048576:Int)<a*(1048576/a+1):=by
  have:=Int.lt_mul_ediv_self_add (x:=1048576) (k:=a) Om;rw[Int.mul_add,Int.mul_one];omega
 unfold F_62;have hn:nz a=some ():=by unfold nz;rw[if_neg Om]
 rw[if_pos (by simpa using(show a>0 by omega)),hn];simp only[bind,Option.bind_some,hq];rw[show w64 ((1048576:Int)/a)=1048576/a by rw[w64,wrap64]<;>omega];by_cases c:n>1048576/a
 ·rw[if_pos (by simpa using c)];have:a*(1048576/a+1)≤a*n:=Int.mul_le_mul_of_nonneg_left Om Om
  congr 1
  omega
 rw[if_neg (by simpa using c),ew,imin_min]
set_option maxHeartbeats 1000000 in
theorem known_spec: ∀(c:Nat) (t:Nd),cnt t=c→ ∀(lv N:Nat),RT lv t→cnt t+10≤N→cnt t<100000→
 ∃r,F_4 N t.un.1 t.un.2.1.1 t.un.2.1.2.1 t.un.2.1.2.2.1 t.un.2.1.2.2.2 t.un.2.2.1 t.un.2.2.2.1 t.un.2.2.2.2.1 t.un.2.2.2.2.2=some r∧r.2.2.2.2.1=wgt t:=by
 intro c
 induction c using Nat.strongRecOn with
 |ind c IH=>
   intro t hc lv N h hN hb;obtain⟨M,rfl⟩: ∃m,N=m+1:=⟨N-1,by omega⟩;have hcu:=cnt_un t;have hll:=cntL_len (kd t);have hbd:=ok_bd h.node.2;have hkw: ∀x∈kd t,1≤wgt x∧wgt x≤1048576:=fun x hx=>wgt_bd _ x rfl _ (h.kid hx);rw[F_4]
   have key: ∀(r i K:Nat) (lst:List (Bool×Bool×Int×Int×Int×(Int×Int×Int×Int)×(Int×Int×Int×Int)×(Int×Int×Int×Int))) (w:Int),i+r=(kd t).length→r<K→lst.length=i→1≤w→w≤1048576→(∀(j:Nat) (x:Nd) (y:(Bool×Bool×Int×Int×Int×(Int×Int×Int×Int)×(Int×Int×Int×Int)×(Int×Int×Int×Int))),(kd t)[j]? =some x→lst[j]? =some y→y.2.2.2.2.1=wgt x)→
    ∃lst',iterO K (fun s=>F_61 M (F_4 M) (kd t) s.1 s.2.1 s.2.2) ((i:Int),lst,w)=some (lst',wgtL 0 0 0 w ((kd t).drop i))∧lst'.length=(kd t).length∧ ∀(j:Nat) (x:Nd) (y:(Bool×Bool×Int×Int×Int×(Int×Int×Int×Int)×(Int×Int×Int×Int)×(Int×Int×Int×Int))),(kd t)[j]? =some x→lst'[j]? =some y→y.2.2.2.2.1=wgt x:=by
    intro r
    induction r with
    |zero=>
      intro i K lst w hi_ hK hl h1 h2 hp;obtain⟨K,rfl⟩: ∃m,K=m+1:=⟨K-1,by omega⟩;rw[List.drop_eq_nil_of_le Om];refine⟨lst,?_,by omega,hp⟩;simp only[iterO,F_61];rw[if_neg (by simp;omega)];simp[wgtL]
    |succ r ih=>
      intro i K lst w hi_ hK hl h1 h2 hp;obtain⟨K,rfl⟩: ∃m,K=m+1:=⟨K-1,by omega⟩;have hlt:i<(kd t).length:=by omega
      have hx:(kd t)[i]? =some (kd t)[i]:=List.getElem?_eq_getElem hlt;generalize(kd t)[i]=x at hx;have hmem:=List.mem_of_getElem? hx;have hm:=cnt_kid hmem;obtain⟨⟨f1,f2,f3,f4,f5,f6,f7,f8,f9,f10,f11,f12,f13,f14,f15,f16,f17⟩,e,ew⟩:=IH (cnt x) Om x rfl (lv+1) M (h.kid hmem) Om Om;simp only at ew;have hw:=hkw x hmem
      have hs:F_61 M (F_4 M) (kd t) (i:Int) lst w=some (.inl (((i+1:Nat):Int),lst++ [(f1,f2,f3,f4,f5,(f6,f7,f8,f9),(f10,f11,f12,f13),(f14,f15,f16,f17))],min (w+wgt x) 1048576)):=by
       unfold F_61;rw[if_pos (by simpa using hlt),idx_of hx];simp only[bind,Option.bind_some];rw[e,w64_succ Om];simp only[Option.bind_some];rw[app_eq (by simp;omega)];simp only[Option.bind_some,F_41];rw[ew,imin_min,show w64 (w+wgt x)=w+wgt x by rw[w64,wrap64]<;>omega]
      obtain⟨lst',g1,g2,g3⟩:=ih (i+1) K (lst++ [(f1,f2,f3,f4,f5,(f6,f7,f8,f9),(f10,f11,f12,f13),(f14,f15,f16,f17))]) (min (w+wgt x) 1048576) Om Om (by simp[hl]) Om Om (fun j x' y hj hy=>by
       by_cases c:j<lst.length
       ·rw[List.getElem?_append_left c]at hy;exact hp j x' y hj hy
       have:=lt_len hy;simp at this;obtain rfl:j=i:=by omega
       rw[List.getElem?_append_right Om,hl,Nat.sub_self]at hy;simp only[List.getElem?_cons_zero,Option.some.injEq]at hy;rw[hx]at hj;obtain rfl:=Option.some.inj hj;rw[←hy];exact ew)
      refine⟨lst',?_,g2,g3⟩;simp only[iterO,hs];rw[wgtL_drop hx];exact g1
   obtain⟨lst,g,hl,hp⟩:=key (kd t).length 0 M [] 1 Om Om rfl Om Om (fun j x y _ hy=>by simp at hy);rw[List.drop_zero]at g;have g:iterO M (fun s=>F_61 M (F_4 M) (kd t) s.1 s.2.1 s.2.2) (0,[],1)=some (lst,wgtL 0 0 0 1 (kd t)):=g;rw[g];simp only[bind,Option.bind_some];have hwne:kn t≠4→wgtL 0 0 0 1 (kd t)=wgt t:=fun hne=>by rw[wgt_un,wgtL_ne hne]
   generalize wgtL 0 0 0 1 (kd t)=W at hwne;rcases ok_kind h.node.2 with⟨k1,_⟩|k2|⟨k3,n3⟩|⟨k4,n4,a,b,c⟩|⟨k5,_⟩
   ·have e1:(t.un.1==1)=true:=by simpa using k1
    have hW:=hwne Om;rw[if_pos e1];unfold F_122 F_49;simp only[Option.bind_some];split<;>exact⟨_,rfl,hW⟩
   ·have e1: ¬(t.un.1==1)=true:=by show¬(kn t==1)=true;rw[k2];decide
    have e2:(t.un.1==2)=true:=by simpa using k2
    have hW:=hwne Om;rw[if_neg e1,if_pos e2];unfold F_100;simp only[Option.bind_some];obtain⟨⟨r1,r2,r3,r4,r5,r6,r7,r8,r9,r10,r11,r12,r13,r14,r15,r16⟩,er⟩:=l1_tot (M:=M) Om lst Om Om (false,true,0,0,0,0,0,0,0,0,0,0,0,0,0,0);rw[er];exact⟨_,rfl,hW⟩
   ·have e1: ¬(t.un.1==1)=true:=by show¬(kn t==1)=true;rw[k3];decide
    have e2: ¬(t.un.1==2)=true:=by show¬(kn t==2)=true;rw[k3];decide
    have e3:(t.un.1==3)=true:=by simpa using k3
    have hW:=hwne Om;rw[if_neg e1,if_neg e2,if_pos e3];have h0:0<lst.length:=by omega
    have i0:idx lst 0=some lst[0]:=idx_nat h0
    have s0:slc lst 1 (lst.length:Int)=some (lst.drop 1):=by
     unfold slc;rw[if_pos Om];simp
    rw[i0];simp only[Option.bind_some];rw[s0];simp only[Option.bind_some];obtain⟨⟨r1,r2,r3,r4,r5,r6,r7,r8,r9,r10,r11,r12,r13,r14,r15,r16,r17⟩,er⟩:=l2_tot (M:=M) Om (lst.drop 1) (by simp;omega) (by simp;omega) (lst[0].1,lst[0].2.1,lst[0].2.2.1,lst[0].2.2.2.1,lst[0].2.2.2.2.1,lst[0].2.2.2.2.2.1.1,lst[0].2.2.2.2.2.1.2.1,lst[0].2.2.2.2.2.1.2.2.1,lst[0].2.2.2.2.2.1.2.2.2,lst[0].2.2.2.2.2.2.1.1,lst[0].2.2.2.2.2.2.1.2.1,lst[0].2.2.2.2.2.2.1.2.2.1,lst[0].2.2.2.2.2.2.1.2.2.2,lst[0].2.2.2.2.2.2.2.1,lst[0].2.2.2.2.2.2.2.2.1,lst[0].2.2.2.2.2.2.2.2.2.1,lst[0].2.2.2.2.2.2.2.2.2.2);rw[er];exact⟨_,rfl,hW⟩
   ·have e1: ¬(t.un.1==1)=true:=by show¬(kn t==1)=true;rw[k4];decide
    have e2: ¬(t.un.1==2)=true:=by show¬(kn t==2)=true;rw[k4];decide
    have e3: ¬(t.un.1==3)=true:=by show¬(kn t==3)=true;rw[k4];decide
    have e4:(t.un.1==4)=true:=by simpa using k4
    rw[if_neg e1,if_neg e2,if_neg e3,if_pos e4];have h0:0<lst.length:=by omega
    have i0:idx lst 0=some lst[0]:=idx_nat h0
    obtain⟨x,hz⟩: ∃z,kd t= [z]:=by
     match hk:kd t,n4 with
     | [z],_=>exact⟨z,rfl⟩
    have hx:(kd t)[0]? =some x:=by rw[hz];rfl
    have hy:lst[0]? =some lst[0]:=List.getElem?_eq_getElem h0;have hwy:=hp 0 _ _ hx hy;have hkx:=hkw _ (List.mem_of_getElem? hx)
    have hwt:wgt t=min (1+adj (kn t) (lo t) (hi t) (wgt x)) 1048576:=by
     rw[wgt_un,hz];simp only[wgtL]
    rw[i0];simp only[Option.bind_some];obtain⟨⟨r1,r2,r3,r4,r5,r6,r7,r8,r9,r10,r11,r12,r13,r14,r15,r16,r17⟩,er⟩:=again_tot (N:=M) lst[0].1 lst[0].2.1 lst[0].2.2.1 lst[0].2.2.2.1 lst[0].2.2.2.2.1 lst[0].2.2.2.2.2.1.1 lst[0].2.2.2.2.2.1.2.1 lst[0].2.2.2.2.2.1.2.2.1 lst[0].2.2.2.2.2.1.2.2.2 lst[0].2.2.2.2.2.2.1.1 lst[0].2.2.2.2.2.2.1.2.1 lst[0].2.2.2.2.2.2.1.2.2.1 lst[0].2.2.2.2.2.2.1.2.2.2 lst[0].2.2.2.2.2.2.2.1 lst[0].2.2.2.2.2.2.2.2.1 lst[0].2.2.2.2.2.2.2.2.2.1 lst[0].2.2.2.2.2.2.2.2.2.2 t.un.2.2.2.1 t.un.2.2.2.2.1;rw[er];simp only[Option.bind_some];rw[hwy];unfold F_41
    have fin: ∀z:Int,0≤z→z≤1048576→imin (w64 (1+z)) 1048576=min (1+z) 1048576:=fun z h3 h4=>by
     rw[imin_min,show w64 (1+z)=1+z by rw[w64,wrap64]<;>omega]
    have ha:=adj_bd hbd hkx.1 hkx.2;by_cases h5:hi t= -1
    ·have e5:(t.un.2.2.2.2.1== -1)=true:=by simpa using h5
     have eq1:w64 (t.un.2.2.2.1+1)=lo t+1:=by
      show w64 (lo t+1)=_;rw[w64,wrap64]<;>omega
     rw[if_pos e5,eq1];simp only[Option.bind_some];rw[times_spec hkx.1 hkx.2 Om Om];have ea:adj (kn t) (lo t) (hi t) (wgt x)=min (wgt x*(lo t+1)) 1048576:=by unfold adj;rw[if_pos k4,if_pos h5]
     rw[ea]at ha hwt;refine⟨_,rfl,?_⟩;exact(fin _ ha.1 ha.2).trans hwt.symm
    have e5: ¬(t.un.2.2.2.2.1== -1)=true:=by simpa using h5
    rw[if_neg e5];simp only[Option.bind_some];rw[times_spec hkx.1 hkx.2 (show 0≤hi t by omega) (show hi t≤41 by omega)];have ea:adj (kn t) (lo t) (hi t) (wgt x)=min (wgt x*hi t) 1048576:=by unfold adj;rw[if_pos k4,if_neg h5]
    rw[ea]at ha hwt;refine⟨_,rfl,?_⟩;exact(fin _ ha.1 ha.2).trans hwt.symm
   have e1: ¬(t.un.1==1)=true:=by show¬(kn t==1)=true;rw[k5];decide
   have e2: ¬(t.un.1==2)=true:=by show¬(kn t==2)=true;rw[k5];decide
   have e3: ¬(t.un.1==3)=true:=by show¬(kn t==3)=true;rw[k5];decide
   have e4: ¬(t.un.1==4)=true:=by show¬(kn t==4)=true;rw[k5];decide
   have hW:=hwne Om;rw[if_neg e1,if_neg e2,if_neg e3,if_neg e4];exact⟨_,rfl,hW⟩
theorem weight_code{t:Nd}(hN:9300000000000000000≤N)(hc:cnt t<1000)(hq:NdQ t)(h:rtT t=true):
 F_99 N t.un.1 t.un.2.1.1 t.un.2.1.2.1 t.un.2.1.2.2.1 t.un.2.1.2.2.2 t.un.2.2.1 t.un.2.2.2.1 t.un.2.2.2.2.1 t.un.2.2.2.2.2=some (wgt t):=by
 unfold F_99 F_123;obtain⟨⟨r1,r2,r3,r4,r5,r6,r7,r8,r9,r10,r11,r12,r13,r14,r15,r16,r17⟩,e,ew⟩:=known_spec _ t rfl 1 N (RT.of h) Om Om;rw[right_code hN hc hq,h,e];simp only at ew;rw[←ew];rfl
open Go Go.Eng
set_option maxRecDepth 100000
theorem ba_eq(a b:ByteArray):(a.toList==b.toList)=decide (a=b):=by
 rw[ba_toList,ba_toList,Bool.eq_iff_iff,beq_iff_eq,decide_eq_true_eq];exact⟨ba_ext,fun h=>by rw[h]⟩
theorem ba_ne(a b:ByteArray):(a.toList != b.toList)= !decide (a=b):=by
 show(!(a.toList==b.toList))=_;rw[ba_eq]
theorem ba_emp(a:ByteArray):decide (a=ByteArray.empty)=decide (a.size=0):=by
 rw[←ba_eq,emp_sl]
def memB(l:List ByteArray)(s:ByteArray):Bool:=l.any fun x=>decide (x=s)
theorem memB_iff{l:List ByteArray}{s:ByteArray}:memB l s=true↔s∈l:=by
 unfold memB;rw[List.any_eq_true];constructor
 ·rintro⟨x,hx,he⟩;simp at he;exact he▸hx
 intro h;exact⟨s,h,by simp⟩
theorem memB_f{l:List ByteArray}{s:ByteArray}:memB l s=false↔s∉l:=by
 rw[←memB_iff];simp
def plc(l:List ByteArray)(s:ByteArray):Int:=
 match l.findIdx? (fun x=>decide (x=s))with
 |some i=>(i:Int)
 |none=> -1
theorem plc_some{l:List ByteArray}{s:ByteArray}(h:s∈l): ∃i:Nat,plc l s=(i:Int)∧l[i]? =some s∧ ∀j,j<i→l[j]? ≠some s:=by
 unfold plc
 cases hf:l.findIdx? (fun x=>decide (x=s))with
 |none=>
   have:=List.findIdx?_eq_none_iff.1 hf s h;simp at this
 |some i=>
   obtain⟨hi,hp,hl⟩:=List.findIdx?_eq_some_iff_getElem.1 hf;refine⟨i,rfl,?_,fun j hj he=>?_⟩
   ·rw[List.getElem?_eq_getElem hi];simp at hp;rw[hp]
   have:=hl j hj;rw[List.getElem?_eq_getElem Om]at he;simp at this;exact this (Option.some.inj he)
theorem plc_none{l:List ByteArray}{s:ByteArray}(h:s∉l):plc l s= -1:=by
 unfold plc
 have:l.findIdx? (fun x=>decide (x=s))=none:=List.findIdx?_eq_none_iff.2 fun x hx=>by
  simp;intro e;exact h (e▸hx)
 rw[this]
theorem plc_ge(l:List ByteArray)(s:ByteArray):decide (plc l s≥0)=memB l s:=by
 by_cases h:s∈l
 ·obtain⟨i,e,_⟩:=plc_some h;rw[e,memB_iff.2 h];simp
 rw[plc_none h,memB_f.2 h];simp
theorem plc_lt(l:List ByteArray)(s:ByteArray):decide (plc l s<0)= !memB l s:=by
 by_cases h:s∈l
 ·obtain⟨i,e,_⟩:=plc_some h;rw[e,memB_iff.2 h];simp
 rw[plc_none h,memB_f.2 h];simp
section
variable {N:Nat}{l:List ByteArray}
theorem index_spec(hN:9300000000000000000≤N)(hl:l.length≤1000000)(s:ByteArray):F_21 N l s=some (plc l s):=by
 unfold F_21 plc
 rw[loop_find l (fun x=>decide (x=s)) (fun i=>(i:Int)) Om (fun i x hx=>by
  have hi:=lt_len hx;unfold F_71;rw[if_pos (by simpa using hi),idx_of hx];simp only[bind,Option.bind_some,ba_eq];rw[w64_succ Om];by_cases h:x=s
  ·simp[h]
  have: ¬s=x:=fun e=>h e.symm;simp[h,this]) (by unfold F_71;simp)]
 cases l.findIdx? (fun x=>decide (x=s))<;>rfl
theorem place_spec(hN:9300000000000000000≤N)(hl:l.length≤1000000)(s:ByteArray):F_23 N l s=some (plc l s):=by
 unfold F_23 plc
 rw[loop_find l (fun x=>decide (x=s)) (fun i=>(i:Int)) Om (fun i x hx=>by
  have hi:=lt_len hx;unfold F_92;rw[if_pos (by simpa using hi),idx_of hx];simp only[bind,Option.bind_some,ba_eq];rw[w64_succ Om]) (by unfold F_92;simp)]
 cases l.findIdx? (fun x=>decide (x=s))<;>rfl
theorem contains_spec(hN:9300000000000000000≤N)(hl:l.length≤1000000)(s:ByteArray):F_69 N l s=some (memB l s):=by
 unfold F_69;rw[index_spec hN hl];simp only[bind,Option.bind_some];rw[plc_ge]
theorem in_spec(hN:9300000000000000000≤N)(hl:l.length≤1000000)(s:ByteArray):F_39 N l s=some (memB l s):=by
 unfold F_39
 rw[loop_any l (fun x=>decide (x=s)) true Om (fun i x hx=>by
  have hi:=lt_len hx;unfold F_88;rw[if_pos (by simpa using hi),idx_of hx];simp only[bind,Option.bind_some,ba_eq];rw[w64_succ Om]) (by unfold F_88;simp)]
 show(match(if memB l s=true then(.inr true:Unit ⊕ Bool)else .inl ())with| .inr z=>some z| .inl _=>some false)=_;cases memB l s<;>rfl
def badU(l:List ByteArray)(i:Nat):Bool:=match l[i]? with
 |some x=> !nmB (sl x)||memB (l.take i) x
 |none=>false
def ulB(l:List ByteArray):Bool:= !(List.range l.length).any (badU l)
theorem slc_take{α:Type}{l:List α}{i:Nat}(h:i≤l.length):slc l 0 (i:Int)=some (l.take i):=by
 unfold slc;rw[if_pos Om];simp
theorem unlike_code(hN:9300000000000000000≤N)(hl:l.length≤1000000)(hs: ∀s∈l,s.size≤maxLen):F_31 N l=some (ulB l):=by
 unfold F_31 ulB
 rw[loop_any (List.range l.length) (badU l) false (by simp;omega) (fun i x hx=>by
  obtain⟨hi,rfl⟩:=range_get hx;have hx:l[x]? =some l[x]:=List.getElem?_eq_getElem hi;unfold badU;rw[hx];generalize l[x]=s at hx;unfold F_96;rw[if_pos (by simpa using hi),idx_of hx];simp only[bind,Option.bind_some];rw[nm_code hN (hs s (List.mem_of_getElem? hx)),slc_take Om];simp only[Option.bind_some];rw[contains_spec hN (by simp;omega),w64_succ Om];by_cases h1:nmB (sl s)=true<;>by_cases h2:memB (l.take x) s=true<;>simp[h1,h2]) (by unfold F_96;simp)]
 cases(List.range l.length).any (badU l)<;>rfl
theorem unlike_ref(hN:9300000000000000000≤N)(hl:l.length≤1000000):F_30 N l=some (ulB l):=by
 unfold F_30 ulB
 rw[loop_any (List.range l.length) (badU l) false (by simp;omega) (fun i x hx=>by
  obtain⟨hi,rfl⟩:=range_get hx;have hx:l[x]? =some l[x]:=List.getElem?_eq_getElem hi;unfold badU;rw[hx];generalize l[x]=s at hx;unfold F_90;rw[if_pos (by simpa using hi),idx_of hx];simp only[bind,Option.bind_some];rw[nm_ref hN,slc_take Om];simp only[Option.bind_some];rw[in_spec hN (by simp;omega),w64_succ Om];by_cases h1:nmB (sl s)=true<;>by_cases h2:memB (l.take x) s=true<;>simp[h1,h2]) (by unfold F_90;simp)]
 cases(List.range l.length).any (badU l)<;>rfl
theorem ulB_mem(h:ulB l=true): ∀s∈l,nmB (sl s)=true:=fun s hs=>by
 obtain⟨i,hi,rfl⟩:=List.getElem_of_mem hs;unfold ulB at h;rw[Bool.not_eq_true',List.any_eq_false]at h;have:=h i (by simpa using hi);unfold badU at this;rw[List.getElem?_eq_getElem hi]at this;simp at this;exact this.1
theorem ulB_nd(h:ulB l=true):l.Nodup:=by
 rw[List.nodup_iff_pairwise_ne,List.pairwise_iff_getElem];intro i j hi hj hij he;unfold ulB at h;rw[Bool.not_eq_true',List.any_eq_false]at h;have:=h j (by simpa using hj);unfold badU at this;rw[List.getElem?_eq_getElem hj]at this;simp at this;have h3:=memB_f.1 this.2;refine h3 ?_;rw[←he];exact List.mem_of_getElem? (i:=i) (by rw[List.getElem?_take_of_lt hij];exact List.getElem?_eq_getElem hi)
theorem long_spec(hN:9300000000000000000≤N)(l:List ByteArray): ∃b,F_19 N l 500=some b∧(b=false→l.length≤500∧ ∀s∈l,s.size≤500):=by
 unfold F_19
 obtain⟨r,h1,h2⟩:=iterO_while (f:=fun s:Int×Int=>F_53 N l 500 s.1 s.2) (τ:=Unit ⊕ Bool)
  (fun s=> ∃i n:Nat,s=((i:Int),(n:Int))∧i≤l.length∧i≤n∧n≤500∧ ∀j x,j<i→l[j]? =some x→x.size≤500) (fun s=>501-s.1.toNat)
  (fun r=>match r with| .inl _=>l.length≤500∧ ∀s∈l,s.size≤500| .inr b=>b=true) (fun s hs=>by
   obtain⟨i,n,rfl,h1,h2,h3,h4⟩:=hs;by_cases hi:i<l.length
   ·have hx:l[i]? =some l[i]:=List.getElem?_eq_getElem hi;generalize l[i]=x at hx;by_cases c1:x.size>500
    ·refine .inr ⟨.inr true,?_,rfl⟩;unfold F_53;rw[if_pos (by simpa using hi),idx_of hx];simp only[bind,Option.bind_some];rw[if_pos (by simp;omega)]
    have e1:w64 (1+(x.size:Int))=((1+x.size:Nat):Int):=by rw[w64,wrap64]<;>omega
    have e2:w64 ((n:Int)+((1+x.size:Nat):Int))=((n+(1+x.size):Nat):Int):=by rw[w64,wrap64]<;>omega
    by_cases c2:n+(1+x.size)>500
    ·refine .inr ⟨.inr true,?_,rfl⟩;unfold F_53;rw[if_pos (by simpa using hi),idx_of hx];simp only[bind,Option.bind_some];rw[if_neg (by simp;omega),e1,e2,if_pos (by simp;omega)]
    refine .inl ⟨(((i+1:Nat):Int),((n+(1+x.size):Nat):Int)),?_,⟨i+1,n+(1+x.size),rfl,by omega,by omega,by omega,fun j y hj hy=>?_⟩,?_⟩
    ·unfold F_53;rw[if_pos (by simpa using hi),idx_of hx];simp only[bind,Option.bind_some];rw[if_neg (by simp;omega),e1,e2,if_neg (by simp;omega),w64_succ Om]
    ·by_cases e:j=i
     ·subst e;rw[hx]at hy;rw[←Option.some.inj hy];omega
     exact h4 j y Om hy
    simp only[Int.toNat_natCast];omega
   refine .inr ⟨.inl (),?_,by omega,fun s hs=>?_⟩
   ·unfold F_53;rw[if_neg (by simpa using hi)]
   obtain⟨j,hj,rfl⟩:=List.getElem_of_mem hs;exact h4 j _ Om (List.getElem?_eq_getElem hj)) (N:=N) (s:=(0,0)) ⟨0,0,rfl,by omega,by omega,by omega,fun j _ hj=>by omega⟩ (by simp;omega)
 rw[h1]
 match r,h2 with
 | .inl _,h2=>exact⟨false,rfl,fun _=>h2⟩
 | .inr b,h2=>exact⟨b,rfl,fun h=>by rw[h2]at h;cases h⟩
end
abbrev Lt:=ByteArray×Nd×Int
abbrev On:=List ByteArray×Nd×(ByteArray×ByteArray)×Int
structure LOk(x:Lt):Prop where
 t:cnt x.2.1<700
 n:x.1.size≤50
structure OOk(x:On):Prop where
 t:cnt x.2.1<700
 c:x.1.length≤500
 s: ∀s∈x.1,s.size≤500
 e:x.2.2.1.1.size≤50
 b:x.2.2.1.2.size≤50
structure Fsz(C:List ByteArray)(Ls:List Lt)(Os:List On):Prop where
 c:C.length≤20
 s: ∀s∈C,s.size≤500
 l:Ls.length≤40
 o:Os.length≤60
 lt: ∀x∈Ls,LOk x
 ot: ∀x∈Os,OOk x
theorem of13_l{Ls:List Lt}(hN:9300000000000000000≤N)(hl:Ls.length≤40): ∀(r i K:Nat) (acc:List Lt),i+r=Ls.length→r<K→acc.length=i→
 (∃a,iterO K (fun s=>F_43 N Ls s.1 s.2) (acc,(i:Int))=some (.inr (a,[],false)))∨
 (iterO K (fun s=>F_43 N Ls s.1 s.2) (acc,(i:Int))=some (.inl (acc++Ls.drop i))∧ ∀x∈Ls.drop i,LOk x):=by
 intro r
 induction r with
 |zero=>
   intro i K acc hi hK ha;obtain⟨K,rfl⟩: ∃m,K=m+1:=⟨K-1,by omega⟩;rw[List.drop_eq_nil_of_le Om];refine .inr ⟨?_,by simp⟩;simp only[iterO,F_43];rw[if_neg (by simp;omega)];simp
 |succ r ih=>
   intro i K acc hi hK ha;obtain⟨K,rfl⟩: ∃m,K=m+1:=⟨K-1,by omega⟩;have hlt:i<Ls.length:=by omega
   have hx:Ls[i]? =some Ls[i]:=List.getElem?_eq_getElem hlt;rw[List.drop_eq_getElem_cons hlt];generalize Ls[i]=x at hx;obtain⟨ks,e1,e2⟩:=of7_spec 700 x.2.1 N Om Om Om;rw[show((700:Nat):Int)=700 from rfl]at e1;by_cases c1:cnt x.2.1<700∧x.1.size≤50
   ·have hs:F_43 N Ls acc (i:Int)=some (.inl (acc++ [x],((i+1:Nat):Int))):=by
     unfold F_43;rw[if_pos (by simpa using hlt),idx_of hx];simp only[bind,Option.bind_some];rw[e1,w64_succ Om];simp only[Option.bind_some];rw[e2 c1.1,Nd.of_eq,app_eq (by simp;omega)];have g1: ¬((700-cnt x.2.1:Nat):Int)≤0:=by omega
     have g2: ¬(x.1.size:Int)>50:=by omega
     rw[if_neg (by simpa using g1)];simp[g2]
    rcases ih (i+1) K (acc++ [x]) Om Om (by simp[ha])with⟨a,h⟩|⟨h1,h2⟩
    ·exact .inl ⟨a,by simp only[iterO,hs];exact h⟩
    refine .inr ⟨by simp only[iterO,hs];rw[h1];simp,fun y hy=>?_⟩;rcases List.mem_cons.1 hy with rfl|hy
    ·exact⟨c1.1,c1.2⟩
    exact h2 y hy
   refine .inl ⟨acc,?_⟩;simp only[iterO,F_43];rw[if_pos (by simpa using hlt),idx_of hx];simp only[bind,Option.bind_some];rw[e1];simp only[Option.bind_some];by_cases g1:700≤cnt x.2.1
   ·have:((700-cnt x.2.1:Nat):Int)≤0:=by omega
    rw[if_pos (by simpa using this)];rfl
   have: ¬((700-cnt x.2.1:Nat):Int)≤0:=by omega
   have g2:(x.1.size:Int)>50:=by omega
   rw[if_neg (by simpa using this)];simp[g2]
theorem of13_o{Ls:List Lt}{Os:List On}(hN:9300000000000000000≤N)(hl:Os.length≤60): ∀(r i K:Nat) (acc:List On),i+r=Os.length→r<K→acc.length=i→
 (∃a b,iterO K (fun s=>F_44 N Os Ls s.1 s.2) (acc,(i:Int))=some (.inr (a,b,false)))∨
 (iterO K (fun s=>F_44 N Os Ls s.1 s.2) (acc,(i:Int))=some (.inl (acc++Os.drop i))∧ ∀x∈Os.drop i,OOk x):=by
 intro r
 induction r with
 |zero=>
   intro i K acc hi hK ha;obtain⟨K,rfl⟩: ∃m,K=m+1:=⟨K-1,by omega⟩;rw[List.drop_eq_nil_of_le Om];refine .inr ⟨?_,by simp⟩;simp only[iterO,F_44];rw[if_neg (by simp;omega)];simp
 |succ r ih=>
   intro i K acc hi hK ha;obtain⟨K,rfl⟩: ∃m,K=m+1:=⟨K-1,by omega⟩;have hlt:i<Os.length:=by omega
   have hx:Os[i]? =some Os[i]:=List.getElem?_eq_getElem hlt;rw[List.drop_eq_getElem_cons hlt];generalize Os[i]=x at hx;obtain⟨ks,e1,e2⟩:=of7_spec 700 x.2.1 N Om Om Om;rw[show((700:Nat):Int)=700 from rfl]at e1;obtain⟨lb,e3,e4⟩:=long_spec hN x.1
   have test: ∃q:Bool,((if(decide (((700-cnt x.2.1:Nat):Int)≤0))=true then some true else
    (F_19 N x.1 500).bind fun x2565=>if x2565=true then some true else if(decide ((x.2.2.1.1.size:Int)>50))=true then some true else some (decide ((x.2.2.1.2.size:Int)>50))):Option Bool)=some q∧(q=false→OOk x):=by
    rw[e3];by_cases g1:700≤cnt x.2.1
    ·have:((700-cnt x.2.1:Nat):Int)≤0:=by omega
     exact⟨true,by rw[if_pos (by simpa using this)],by simp⟩
    have: ¬((700-cnt x.2.1:Nat):Int)≤0:=by omega
    rw[if_neg (by simpa using this)];simp only[Option.bind_some]
    cases lb with
    |true=>exact⟨true,rfl,by simp⟩
    |false=>
      obtain⟨h1,h2⟩:=e4 rfl;by_cases g2:x.2.2.1.1.size≤50
      ·by_cases g3:x.2.2.1.2.size≤50
       ·have g2': ¬(x.2.2.1.1.size:Int)>50:=by omega
        have g3': ¬(x.2.2.1.2.size:Int)>50:=by omega
        exact⟨false,by simp[g2',g3'],fun _=>⟨by omega,h1,h2,g2,g3⟩⟩
       have g2': ¬(x.2.2.1.1.size:Int)>50:=by omega
       have g3':(x.2.2.1.2.size:Int)>50:=by omega
       exact⟨true,by simp[g2',g3'],by simp⟩
      have g2':(x.2.2.1.1.size:Int)>50:=by omega
      exact⟨true,by simp[g2'],by simp⟩
   obtain⟨q,t1,t2⟩:=test
   cases q with
   |false=>
     have hok:=t2 rfl
     have hs:F_44 N Os Ls acc (i:Int)=some (.inl (acc++ [x],((i+1:Nat):Int))):=by
      unfold F_44;rw[if_pos (by simpa using hlt),idx_of hx];simp only[bind,Option.bind_some];rw[e1,w64_succ Om];simp only[Option.bind_some];rw[t1,e2 hok.t,Nd.of_eq,app_eq (by simp;omega)];rfl
     rcases ih (i+1) K (acc++ [x]) Om Om (by simp[ha])with⟨a,b,h⟩|⟨h1,h2⟩
     ·exact .inl ⟨a,b,by simp only[iterO,hs];exact h⟩
     refine .inr ⟨by simp only[iterO,hs];rw[h1];simp,fun y hy=>?_⟩;rcases List.mem_cons.1 hy with rfl|hy
     ·exact hok
     exact h2 y hy
   |true=>
     refine .inl ⟨Ls,acc,?_⟩;simp only[iterO,F_44];rw[if_pos (by simpa using hlt),idx_of hx];simp only[bind,Option.bind_some];rw[e1];simp only[Option.bind_some];rw[t1];rfl
theorem of13_spec{C:List ByteArray}{Ls:List Lt}{Os:List On}(hN:9300000000000000000≤N): ∃p,F_6 N C Ls Os=some p∧(p.2.2=true→p.1=Ls∧p.2.1=Os∧Fsz C Ls Os):=by
 unfold F_6;by_cases h1:C.length≤20
 case neg=>
  have b1:(C.length:Int)>20:=by omega
  exact⟨([],[],false),by simp[b1],by simp⟩
 by_cases h2:Ls.length≤40
 case neg=>
  have b2:(Ls.length:Int)>40:=by omega
  exact⟨([],[],false),by simp[b2],by simp⟩
 by_cases h3:Os.length≤60
 case neg=>
  have b3:(Os.length:Int)>60:=by omega
  exact⟨([],[],false),by simp[b3],by simp⟩
 have b1: ¬(C.length:Int)>20:=by omega
 have b2: ¬(Ls.length:Int)>40:=by omega
 have b3: ¬(Os.length:Int)>60:=by omega
 obtain⟨lb,e1,e2⟩:=long_spec hN C;simp only[b1,b2,b3,decide_false,Bool.false_eq_true,if_false,bind,Option.bind_some,e1]
 cases lb with
 |true=>exact⟨([],[],false),rfl,by simp⟩
 |false=>
   simp only[Bool.false_eq_true,if_false];rw[show((0:Int))=((0:Nat):Int)from rfl];rcases of13_l hN h2 Ls.length 0 N [] Om Om rfl with⟨a,h⟩|⟨h,hL⟩
   ·rw[h];exact⟨(a,[],false),rfl,by simp⟩
   rw[h];simp only[List.nil_append,List.drop_zero,Option.bind_some];rcases of13_o (Ls:=Ls) hN h3 Os.length 0 N [] Om Om rfl with⟨a,b,h⟩|⟨h,hO⟩
   ·rw[h];exact⟨(a,b,false),rfl,by simp⟩
   rw[h];rw[List.drop_zero]at hL hO;exact⟨(Ls,Os,true),by simp,fun _=>⟨rfl,rfl,h1,(e2 rfl).2,h2,h3,hL,hO⟩⟩
open Go Go.Eng
set_option maxRecDepth 100000
mutual
def lone:Nd→Bool
 | .mk k _ l _ _ _=>(k==2&&l.length==1)||loneL l
def loneL:List Nd→Bool
 | []=>false
 |x::l=>lone x||loneL l
end
theorem lone_un(t:Nd):lone t=((t.un.1==2&&(kd t).length==1)||loneL (kd t)):=by
 cases t;simp only[lone];rfl
theorem loneL_any: ∀l:List Nd,loneL l=l.any lone
 | []=>by simp only[loneL,List.any_nil]
 |x::l=>by simp only[loneL,List.any_cons];rw[loneL_any l]
theorem lone_code: ∀(c:Nat) (t:Nd),cnt t=c→ ∀N,cnt t+5≤N→cnt t<100000→
 F_18 N t.un.1 t.un.2.1.1 t.un.2.1.2.1 t.un.2.1.2.2.1 t.un.2.1.2.2.2 t.un.2.2.1 t.un.2.2.2.1 t.un.2.2.2.2.1 t.un.2.2.2.2.2=some (lone t):=by
 intro c
 induction c using Nat.strongRecOn with
 |ind c IH=>
   intro t hc N hN hb;obtain⟨M,rfl⟩: ∃m,N=m+1:=⟨N-1,by omega⟩;have hcu:=cnt_un t;have hll:=cntL_len (kd t);rw[F_18,lone_un,show((t.un.2.2.1.length:Int)==1)=((kd t).length==1)from beq_nat _ 1]
   have e:=loop_any (f:=fun s=>F_77 M (F_18 M) (kd t) s) (kd t) lone true (N:=M) Om (fun i x hx=>by
    have hi:=lt_len hx;have hm:=cnt_kid (List.mem_of_getElem? hx);unfold F_77;rw[if_pos (by simpa using hi),idx_of hx];simp only[bind,Option.bind_some];rw[IH (cnt x) Om x rfl M Om Om,w64_succ Om];rfl) (by unfold F_77;simp)
   rw[e,loneL_any];generalize(kd t).any lone=q;generalize((kd t).length==1)=p;generalize(t.un.1==2)=k;cases k<;>cases p<;>cases q<;>rfl
theorem plain_code{t:Nd}(hN:9300000000000000000≤N)(hc:cnt t<1000)(hq:NdQ t):
 F_95 N t.un.1 t.un.2.1.1 t.un.2.1.2.1 t.un.2.1.2.2.1 t.un.2.1.2.2.2 t.un.2.2.1 t.un.2.2.2.1 t.un.2.2.2.2.1 t.un.2.2.2.2.2=some (rtT t&& !lone t):=by
 unfold F_95;rw[right_code hN hc hq,lone_code _ t rfl N Om Om];cases rtT t<;>cases lone t<;>rfl
mutual
def smp:Nd→Nd
 | .mk k s l a b t=>if k==2&&l.length==1 then smpH (.mk k s l a b t) l else .mk k s (smpL l) a b t
def smpL:List Nd→List Nd
 | []=>[]
 |x::l=>smp x::smpL l
def smpH(z:Nd):List Nd→Nd
 | []=>z
 |x::_=>smp x
end
theorem smp_one{t x:Nd}(hk:(t.un.1==2)=true)(hx:kd t= [x]):smp t=smp x:=by
 cases t with
 |mk k s l a b tx=>
   have hx:l= [x]:=hx;have hk2:(k==2)=true:=hk;subst hx;simp only[smp];rw[hk2];simp only[List.length_cons,List.length_nil,Nat.zero_add,beq_self_eq_true,Bool.and_self,if_true,smpH]
theorem smp_un{t:Nd}(h:(t.un.1==2&&(kd t).length==1)=false):smp t=Nd.of (t.un.1,(t.un.2.1.1,t.un.2.1.2.1,t.un.2.1.2.2.1,t.un.2.1.2.2.2),smpL (kd t),t.un.2.2.2.1,t.un.2.2.2.2.1,t.un.2.2.2.2.2):=by
 cases t with
 |mk k s l a b tx=>
   have h:(k==2&&l.length==1)=false:=h;simp only[smp];rw[h];rfl
theorem smpL_drop{l:List Nd}{i:Nat}{x:Nd}(h:l[i]? =some x):smpL (l.drop i)=smp x::smpL (l.drop (i+1)):=by
 rw[List.drop_eq_getElem_cons (lt_len h)];simp only[smpL];rw[(List.getElem?_eq_some_iff.1 h).2]
theorem simple_ref: ∀(c:Nat) (t:Nd),cnt t=c→ ∀N,cnt t+5≤N→cnt t<100000→
 F_11 N t.un.1 t.un.2.1.1 t.un.2.1.2.1 t.un.2.1.2.2.1 t.un.2.1.2.2.2 t.un.2.2.1 t.un.2.2.2.1 t.un.2.2.2.2.1 t.un.2.2.2.2.2=
  some ((smp t).un.1,(smp t).un.2.1.1,(smp t).un.2.1.2.1,(smp t).un.2.1.2.2.1,(smp t).un.2.1.2.2.2,(smp t).un.2.2.1,(smp t).un.2.2.2.1,(smp t).un.2.2.2.2.1,(smp t).un.2.2.2.2.2):=by
 intro c
 induction c using Nat.strongRecOn with
 |ind c IH=>
   intro t hc N hN hb;obtain⟨M,rfl⟩: ∃m,N=m+1:=⟨N-1,by omega⟩;have hcu:=cnt_un t;have hll:=cntL_len (kd t);rw[F_11,show((t.un.2.2.1.length:Int)==1)=((kd t).length==1)from beq_nat _ 1]
   cases hk:(t.un.1==2&&(kd t).length==1)with
   |true=>
     simp only[Bool.and_eq_true]at hk;obtain⟨k1,k2⟩:=hk;have k3:(kd t).length=1:=by simpa using k2
     obtain⟨x,hz⟩: ∃z,kd t= [z]:=by
      match hk:kd t,k3 with
      | [z],_=>exact⟨z,rfl⟩
     have hx:(kd t)[0]? =some x:=by rw[hz];rfl
     have hm:=cnt_kid (List.mem_of_getElem? hx);have i0:idx (kd t) 0=some x:=idx_of (i:=0) hx;rw[if_pos k1,k2,smp_one k1 hz];simp only[bind,Option.bind_some,if_true];rw[i0];simp only[Option.bind_some];rw[IH (cnt x) Om x rfl M Om Om];rfl
   |false=>
     have e0:((if(t.un.1==2)=true then some ((kd t).length==1)else some false:Option Bool))=some false:=by
      cases h1:(t.un.1==2)with
      |true=>
        rw[h1]at hk;simp only[Bool.true_and]at hk;rw[hk];rfl
      |false=>rfl
     rw[e0,smp_un hk];simp only[bind,Option.bind_some,Bool.false_eq_true,if_false]
     have key: ∀(r i K:Nat) (acc:List Nd),i+r=(kd t).length→r<K→acc.length=i→
      iterO K (fun s=>F_54 M (F_11 M) (kd t) s.1 s.2) (acc,(i:Int))=some (acc++smpL ((kd t).drop i)):=by
      intro r
      induction r with
      |zero=>
        intro i K acc hi hK ha;obtain⟨K,rfl⟩: ∃m,K=m+1:=⟨K-1,by omega⟩;rw[List.drop_eq_nil_of_le Om];simp only[iterO,F_54];rw[if_neg (by simp;omega)];simp[smpL]
      |succ r ih=>
        intro i K acc hi hK ha;obtain⟨K,rfl⟩: ∃m,K=m+1:=⟨K-1,by omega⟩;have hlt:i<(kd t).length:=by omega
        have hx:(kd t)[i]? =some (kd t)[i]:=List.getElem?_eq_getElem hlt;generalize(kd t)[i]=x at hx;have hm:=cnt_kid (List.mem_of_getElem? hx)
        have hs:F_54 M (F_11 M) (kd t) acc (i:Int)=some (.inl (acc++ [smp x],((i+1:Nat):Int))):=by
         unfold F_54;rw[if_pos (by simpa using hlt),idx_of hx];simp only[bind,Option.bind_some];rw[IH (cnt x) Om x rfl M Om Om,w64_succ Om];simp only[Option.bind_some];rw[Nd.of_eq,app_eq (by simp;omega)];rfl
        simp only[iterO,hs];rw[ih (i+1) K (acc++ [smp x]) Om Om (by simp[ha]),smpL_drop hx,List.append_assoc];rfl
     have g:=key (kd t).length 0 M [] Om Om rfl;rw[List.drop_zero,List.nil_append]at g;have g:iterO M (fun s=>F_54 M (F_11 M) (kd t) s.1 s.2) ([],0)=some (smpL (kd t)):=g;rw[g];rfl
mutual
theorem smp_same: ∀t:Nd,lone t=false→smp t=t
 | .mk k s l a b t,h=>by
   simp only[lone,Bool.or_eq_false_iff]at h;simp only[smp];rw[h.1];simp only[Bool.false_eq_true,if_false];rw[smpL_same l h.2]
theorem smpL_same: ∀l:List Nd,loneL l=false→smpL l=l
 | [],_=>by simp only[smpL]
 |x::l,h=>by
   simp only[loneL,Bool.or_eq_false_iff]at h;simp only[smpL];rw[smp_same x h.1,smpL_same l h.2]
end
mutual
theorem smp_cnt: ∀t:Nd,cnt (smp t)≤cnt t∧(lone t=true→cnt (smp t)<cnt t)
 | .mk k s l a b t=>by
   simp only[smp];by_cases h:(k==2&&l.length==1)=true
   ·rw[if_pos h]
    match l,h with
    | [x],_=>
      have:=smp_cnt x;simp only[smpH,cnt,cntL];exact⟨by omega,fun _=>by omega⟩
    | [],h=>simp at h
    |_::_::_,h=>simp at h
   rw[if_neg h];have:=smpL_cnt l;simp only[cnt,lone];refine⟨by omega,fun hh=>?_⟩;rw[Bool.not_eq_true]at h;rw[h,Bool.false_or]at hh;have:=this.2 hh;omega
theorem smpL_cnt: ∀l:List Nd,cntL (smpL l)≤cntL l∧(loneL l=true→cntL (smpL l)<cntL l)
 | []=>by simp only[smpL,cntL,loneL];exact⟨Nat.le_refl _,fun h=>by cases h⟩
 |x::l=>by
   have h1:=smp_cnt x;have h2:=smpL_cnt l;simp only[smpL,cntL,loneL];refine⟨by omega,fun h=>?_⟩;rw[Bool.or_eq_true]at h;rcases h with h|h
   ·have:=h1.2 h;omega
   have:=h2.2 h;omega
end
open Go Go.Eng
set_option maxRecDepth 100000
mutual
theorem wk_cnt: ∀(lv:Nat) (t:Nd),RT lv t→(wk lv t).length=cnt t
 |lv,.mk k s l a b t,h=>by
   have h24:=h.node.1;have hk: ∀x∈l,RT (lv+1) x:=fun x hx=>h.kid (t:= .mk k s l a b t) hx;simp only[wk,cnt];rw[if_neg Om,List.length_cons,wkL_cnt (lv+1) l hk];omega
theorem wkL_cnt: ∀(lv:Nat) (l:List Nd),(∀x∈l,RT lv x)→(wkL lv l).length=cntL l
 |_,[],_=>by simp only[wkL,cntL,List.length_nil]
 |lv,x::l,h=>by
   simp only[wkL,cntL,List.length_append];rw[wk_cnt lv x (h x (List.mem_cons_self ..)),wkL_cnt lv l fun y hy=>h y (List.mem_cons_of_mem _ hy)]
end
theorem rtT_len{t:Nd}(h:rtT t=true):(wk 1 t).length≤600:=by
 unfold rtT at h;rw[Bool.and_eq_true]at h;simpa using h.1
theorem rtT_of{t:Nd}(h:RT 1 t)(hc:cnt t≤600):rtT t=true:=by
 unfold rtT;rw[wk_cnt 1 t h,List.all_eq_true.2 h];simpa using hc
section
variable {N:Nat}
theorem wref(hN:9300000000000000000≤N){t:Nd}(hc:cnt t<1000):
 F_7 N t.un.1 t.un.2.1.1 t.un.2.1.2.1 t.un.2.1.2.2.1 t.un.2.1.2.2.2 t.un.2.2.1 t.un.2.2.2.1 t.un.2.2.2.2.1 t.un.2.2.2.2.2 1 []=some (((wk 1 t).take 601).map stp):=by
 have:=walk_ref _ t rfl 1 N [] Om Om Om Sm;simpa using this
theorem sref_refl(hN:9300000000000000000≤N){t:Nd}(hc:cnt t<1000)(hr:rtT t=true):
 F_26 N t.un.1 t.un.2.1.1 t.un.2.1.2.1 t.un.2.1.2.2.1 t.un.2.1.2.2.2 t.un.2.2.1 t.un.2.2.2.1 t.un.2.2.2.2.1 t.un.2.2.2.2.2
  t.un.1 t.un.2.1.1 t.un.2.1.2.1 t.un.2.1.2.2.1 t.un.2.1.2.2.2 t.un.2.2.1 t.un.2.2.2.1 t.un.2.2.2.2.1 t.un.2.2.2.2.2=some true:=by
 unfold F_26;have hl:(((wk 1 t).take 601).map stp).length≤601:=by simp;omega
 rw[wref hN hc,right_ref hN hc,hr];simp only[bind,Option.bind_some,Bool.not_true,Bool.false_eq_true,if_false,bne_self_eq_false];generalize((wk 1 t).take 601).map stp=W at hl
 rw[loop_any W (fun _=>false) false Om (fun i x hx=>by
  have hi:=lt_len hx;unfold F_86;rw[if_pos (by simpa using hi),idx_of hx];simp only[bind,Option.bind_some,bne_self_eq_false,Bool.false_eq_true,if_false];rw[w64_succ Om]) (by unfold F_86;simp)]
 have:W.any (fun _=>false)=false:=by simp
 rw[this];rfl
theorem sref_not(hN:9300000000000000000≤N){s t:Nd}(hs:cnt s<1000)(hc:cnt t<1000)(h:rtT s=false∨rtT t=false∨cnt s≠cnt t):
 F_26 N s.un.1 s.un.2.1.1 s.un.2.1.2.1 s.un.2.1.2.2.1 s.un.2.1.2.2.2 s.un.2.2.1 s.un.2.2.2.1 s.un.2.2.2.2.1 s.un.2.2.2.2.2
  t.un.1 t.un.2.1.1 t.un.2.1.2.1 t.un.2.1.2.2.1 t.un.2.1.2.2.2 t.un.2.2.1 t.un.2.2.2.1 t.un.2.2.2.2.1 t.un.2.2.2.2.2=some false:=by
 unfold F_26;rw[wref hN hs,wref hN hc,right_ref hN hs,right_ref hN hc];simp only[bind,Option.bind_some]
 cases h1:rtT s with
 |false=>simp
 |true=>
   cases h2:rtT t with
   |false=>simp
   |true=>
     have h3:cnt s≠cnt t:=by rcases h with h|h|h<;>simp_all
     have l1:=rtT_len h1;have l2:=rtT_len h2;have c1:=wk_cnt 1 s (RT.of h1);have c2:=wk_cnt 1 t (RT.of h2)
     have e:((((wk 1 s).take 601).map stp).length:Int) != ((((wk 1 t).take 601).map stp).length:Int):=by
      simp only[List.length_map,List.length_take,bne_iff_ne,ne_eq];omega
     simp only[Bool.not_true,Bool.false_eq_true,if_false,e,Option.bind_some,if_true]
theorem plain_ref(hN:9300000000000000000≤N){t:Nd}(hc:cnt t<1000):
 F_89 N t.un.1 t.un.2.1.1 t.un.2.1.2.1 t.un.2.1.2.2.1 t.un.2.1.2.2.2 t.un.2.2.1 t.un.2.2.2.1 t.un.2.2.2.2.1 t.un.2.2.2.2.2=some (rtT t&& !lone t):=by
 unfold F_89;rw[right_ref hN hc];simp only[bind,Option.bind_some]
 cases h1:rtT t with
 |false=>rfl
 |true=>
   have hs:=(smp_cnt t).1;rw[if_pos rfl,simple_ref _ t rfl N Om Om];simp only[Option.bind_some]
   cases h2:lone t with
   |false=>
     rw[smp_same t h2,sref_refl hN hc h1];rfl
   |true=>
     have:=(smp_cnt t).2 h2;rw[sref_not hN Om hc (.inr (.inr Om))];rfl
def mayB(s:ByteArray):Bool:=decide (s.size=0)||nmB (sl s)
theorem act_code(hN:9300000000000000000≤N){a b:ByteArray}(ha:a.size≤maxLen)(hb:b.size≤maxLen):F_105 N a b=some (mayB a&&mayB b):=by
 have m: ∀{s:ByteArray},s.size≤maxLen→F_80 N s=some (mayB s):=fun{s} hs=>by
  unfold F_80 mayB;rw[emp_sl,nm_code hN hs];by_cases h:s.size=0
  ·simp[h]
  simp[h]
 unfold F_105;rw[m ha,m hb];cases mayB a<;>cases mayB b<;>rfl
theorem act_ref(hN:9300000000000000000≤N){a b:ByteArray}:F_108 N a b=some (mayB a&&mayB b):=by
 unfold F_108 mayB;rw[emp_sl,emp_sl,nm_ref hN,nm_ref hN];by_cases h1:a.size=0<;>by_cases h2:b.size=0<;>cases nmB (sl a)<;>cases nmB (sl b)<;>simp[h1,h2]
def badO(x:On):Bool:=decide (x.1.length=0)||(!ulB x.1||(!(rtT x.2.1&& !lone x.2.1)|| !(mayB x.2.2.1.1&&mayB x.2.2.1.2)))
def rfB(C:List ByteArray)(Ls:List Lt)(Os:List On):Bool:=
 Ls.all (fun x=>rtT x.2.1&& !lone x.2.1)&&(Os.all (fun x=> !badO x)&&
  (decide (1≤C.length)&&(decide (C.length≤8)&&(decide (Ls.length≤32)&&(decide (Os.length≤48)&&
   (decide (C[0]? =some ⟨#[109,97,105,110]⟩)&&(ulB C&&ulB (Ls.map (·.1)))))))))
structure LQ(x:Lt):Prop where
 c:cnt x.2.1<700
 q:NdQ x.2.1
 n:x.1.size≤50
structure OQ(x:On):Prop where
 o:OOk x
 q:NdQ x.2.1
theorem cap_big:500≤maxLen:=by decide
theorem long_d(n:Nat):decide ((n:Int)<1)=decide (n=0):=by
 exact decide_eq_decide.2 Om
theorem ons_code(hN:9300000000000000000≤N){Os:List On}(ho:Os.length≤60)(hq: ∀x∈Os,OQ x):
 iterO N (fun s=>F_78 N Os s) 0=some (if Os.any badO then .inr false else .inl ()):=by
 rw[loop_any Os badO false Om (fun i x hx=>by
  have hi:=lt_len hx;have h:=hq x (List.mem_of_getElem? hx);have hc:=cap_big;unfold F_78;rw[if_pos (by simpa using hi),idx_of hx];simp only[bind,Option.bind_some];rw[unlike_code hN (by have:=h.o.c;omega) (fun s hs=>by have:=h.o.s s hs;omega),plain_code hN (by have:=h.o.t;omega) h.q,act_code hN (by have:=h.o.e;omega) (by have:=h.o.b;omega),w64_succ Om];have e:((x.1.length:Int)==0)=decide (x.1.length=0):=decide_eq_decide.2 Om;rw[e];unfold badO;cases decide (x.1.length=0)<;>cases ulB x.1<;>cases(rtT x.2.1&& !lone x.2.1)<;>cases(mayB x.2.2.1.1&&mayB x.2.2.1.2)<;>rfl) (by unfold F_78;simp)]
theorem ons_ref(hN:9300000000000000000≤N){Os:List On}(ho:Os.length≤60)(hq: ∀x∈Os,OQ x):
 iterO N (fun s=>F_75 N Os s) 0=some (if Os.any badO then .inr false else .inl ()):=by
 rw[loop_any Os badO false Om (fun i x hx=>by
  have hi:=lt_len hx;have h:=hq x (List.mem_of_getElem? hx);unfold F_75;rw[if_pos (by simpa using hi),idx_of hx];simp only[bind,Option.bind_some];rw[unlike_ref hN (by have:=h.o.c;omega),plain_ref hN (by have:=h.o.t;omega),act_ref hN,w64_succ Om,long_d];unfold badO;cases decide (x.1.length=0)<;>cases ulB x.1<;>cases(rtT x.2.1&& !lone x.2.1)<;>cases(mayB x.2.2.1.1&&mayB x.2.2.1.2)<;>rfl) (by unfold F_75;simp)]
theorem lets_code(hN:9300000000000000000≤N){Ls:List Lt}(hl:Ls.length≤40)(hq: ∀x∈Ls,LQ x): ∀(r i K:Nat) (acc:List ByteArray),i+r=Ls.length→r<K→acc.length=i→
 iterO K (fun s=>F_58 N Ls s.1 s.2) ((i:Int),acc)=some (if(Ls.drop i).all (fun x=>rtT x.2.1&& !lone x.2.1)then .inl (acc++(Ls.drop i).map (·.1))else .inr false):=by
 intro r
 induction r with
 |zero=>
   intro i K acc hi hK ha;obtain⟨K,rfl⟩: ∃m,K=m+1:=⟨K-1,by omega⟩;rw[List.drop_eq_nil_of_le Om];simp only[iterO,F_58];rw[if_neg (by simp;omega)];simp
 |succ r ih=>
   intro i K acc hi hK ha;obtain⟨K,rfl⟩: ∃m,K=m+1:=⟨K-1,by omega⟩;have hlt:i<Ls.length:=by omega
   have hx:Ls[i]? =some Ls[i]:=List.getElem?_eq_getElem hlt;rw[List.drop_eq_getElem_cons hlt];generalize Ls[i]=x at hx;have h:=hq x (List.mem_of_getElem? hx)
   have hs:F_58 N Ls (i:Int) acc=some (if(rtT x.2.1&& !lone x.2.1)=true then .inl (((i+1:Nat):Int),acc++ [x.1])else .inr (.inr false)):=by
    unfold F_58;rw[if_pos (by simpa using hlt),idx_of hx];simp only[bind,Option.bind_some];rw[plain_code hN (by have:=h.c;omega) h.q,w64_succ Om,app_eq (by simp;omega)];cases(rtT x.2.1&& !lone x.2.1)<;>rfl
   simp only[iterO,hs,List.all_cons,List.map_cons]
   cases hc:(rtT x.2.1&& !lone x.2.1)with
   |false=>simp
   |true=>
     simp only[if_true,Bool.true_and];rw[ih (i+1) K (acc++ [x.1]) Om Om (by simp[ha])];simp
theorem lets_ref(hN:9300000000000000000≤N){Ls:List Lt}(hl:Ls.length≤40)(hq: ∀x∈Ls,LQ x): ∀(r i K:Nat) (acc:List ByteArray),i+r=Ls.length→r<K→acc.length=i→
 iterO K (fun s=>F_56 N Ls s.1 s.2) ((i:Int),acc)=some (if(Ls.drop i).all (fun x=>rtT x.2.1&& !lone x.2.1)then .inl (acc++(Ls.drop i).map (·.1))else .inr false):=by
 intro r
 induction r with
 |zero=>
   intro i K acc hi hK ha;obtain⟨K,rfl⟩: ∃m,K=m+1:=⟨K-1,by omega⟩;rw[List.drop_eq_nil_of_le Om];simp only[iterO,F_56];rw[if_neg (by simp;omega)];simp
 |succ r ih=>
   intro i K acc hi hK ha;obtain⟨K,rfl⟩: ∃m,K=m+1:=⟨K-1,by omega⟩;have hlt:i<Ls.length:=by omega
   have hx:Ls[i]? =some Ls[i]:=List.getElem?_eq_getElem hlt;rw[List.drop_eq_getElem_cons hlt];generalize Ls[i]=x at hx;have h:=hq x (List.mem_of_getElem? hx)
   have hs:F_56 N Ls (i:Int) acc=some (if(rtT x.2.1&& !lone x.2.1)=true then .inl (((i+1:Nat):Int),acc++ [x.1])else .inr (.inr false)):=by
    unfold F_56;rw[if_pos (by simpa using hlt),idx_of hx];simp only[bind,Option.bind_some];rw[app_eq (by simp;omega)];simp only[Option.bind_some];rw[plain_ref hN (by have:=h.c;omega),w64_succ Om];cases(rtT x.2.1&& !lone x.2.1)<;>rfl
   simp only[iterO,hs,List.all_cons,List.map_cons]
   cases hc:(rtT x.2.1&& !lone x.2.1)with
   |false=>simp
   |true=>
     simp only[if_true,Bool.true_and];rw[ih (i+1) K (acc++ [x.1]) Om Om (by simp[ha])];simp
theorem not_any{α:Type}{p:α→Bool}: ∀l:List α,(l.all fun x=> !p x)= !l.any p
 | []=>rfl
 |x::l=>by simp only[List.all_cons,List.any_cons,not_any l,Bool.not_or]
theorem first_main{C:List ByteArray}{x:ByteArray}(h:C[0]? =some x):(x.toList==(⟨#[109,97,105,110]⟩:ByteArray).toList)=decide (C[0]? =some ⟨#[109,97,105,110]⟩):=by
 rw[ba_eq,h];simp
theorem nat_ge(n:Nat):decide ((n:Int)≥1)=decide (1≤n):=decide_eq_decide.2 Om
theorem nat_8(n:Nat):decide ((n:Int)≤8)=decide (n≤8):=decide_eq_decide.2 Om
theorem nat_32(n:Nat):decide ((n:Int)≤32)=decide (n≤32):=decide_eq_decide.2 Om
theorem nat_48(n:Nat):decide ((n:Int)≤48)=decide (n≤48):=decide_eq_decide.2 Om
theorem rf_code{C:List ByteArray}{Ls:List Lt}{Os:List On}(hN:9300000000000000000≤N)(hl:Ls.length≤40)(ho:Os.length≤60)(hC:C.length≤20)(hs: ∀s∈C,s.size≤500)
 (hq: ∀x∈Ls,LQ x) (hp: ∀x∈Os,OQ x):F_14 N C Ls Os=some (rfB C Ls Os):=by
 have hc:=cap_big;unfold F_14 rfB;have g:=lets_code hN hl hq Ls.length 0 N [] Om Om rfl;rw[List.drop_zero,List.nil_append]at g;rw[show iterO N (fun s=>F_58 N Ls s.1 s.2) (0,[])=_ from g,ons_code hN ho hp,not_any Os]
 cases Ls.all fun x=>rtT x.2.1&& !lone x.2.1 with
 |false=>rfl
 |true=>
   simp only[bind,Option.bind_some,if_true,Bool.true_and]
   cases Os.any badO with
   |true=>rfl
   |false=>
     simp only[Bool.false_eq_true,if_false,Bool.not_false,Bool.true_and,List.length_map];rw[nat_ge,nat_8,nat_32,nat_48];by_cases h1:1≤C.length
     case neg=>simp[h1]
     obtain⟨x,hx⟩: ∃x,C[0]? =some x:=⟨C[0],List.getElem?_eq_getElem Om⟩
     rw[show idx C 0=some x from idx_of (i:=0) hx,unlike_code hN Om (fun s h=>by have:=hs s h;omega),
      unlike_code hN (by simp;omega) (fun s h=>by obtain⟨y,hy,rfl⟩:=List.mem_map.1 h;have:=(hq y hy).n;omega)]
     simp only[Option.bind_some,first_main hx];cases decide (1≤C.length)<;>cases decide (C.length≤8)<;>cases decide (Ls.length≤32)<;>cases decide (Os.length≤48)<;>cases decide (C[0]? =some ⟨#[109,97,105,110]⟩)<;>cases ulB C<;>rfl
theorem rf_ref{C:List ByteArray}{Ls:List Lt}{Os:List On}(hN:9300000000000000000≤N)(hl:Ls.length≤40)(ho:Os.length≤60)(hC:C.length≤20)
 (hq: ∀x∈Ls,LQ x) (hp: ∀x∈Os,OQ x):F_13 N C Ls Os=some (rfB C Ls Os):=by
 unfold F_13 rfB;have g:=lets_ref hN hl hq Ls.length 0 N [] Om Om rfl;rw[List.drop_zero,List.nil_append]at g;rw[show iterO N (fun s=>F_56 N Ls s.1 s.2) (0,[])=_ from g,ons_ref hN ho hp,not_any Os]
 cases Ls.all fun x=>rtT x.2.1&& !lone x.2.1 with
 |false=>rfl
 |true=>
   simp only[bind,Option.bind_some,if_true,Bool.true_and]
   cases Os.any badO with
   |true=>rfl
   |false=>
     simp only[Bool.false_eq_true,if_false,Bool.not_false,Bool.true_and,List.length_map];rw[nat_ge,nat_8,nat_32,nat_48];by_cases h1:1≤C.length
     case neg=>simp[h1]
     obtain⟨x,hx⟩: ∃x,C[0]? =some x:=⟨C[0],List.getElem?_eq_getElem Om⟩;rw[show idx C 0=some x from idx_of (i:=0) hx,unlike_ref hN Om,unlike_ref hN (by simp;omega)];simp only[Option.bind_some,first_main hx];cases decide (1≤C.length)<;>cases decide (C.length≤8)<;>cases decide (Ls.length≤32)<;>cases decide (Os.length≤48)<;>cases decide (C[0]? =some ⟨#[109,97,105,110]⟩)<;>cases ulB C<;>cases ulB (Ls.map (·.1))<;>rfl
end
open Go Go.Eng
set_option maxRecDepth 100000
abbrev tx(t:Nd):ByteArray:=t.un.2.2.2.2.2
def wkd(t:Nd)(l:List Nd):Nd:=Nd.of (t.un.1,(t.un.2.1.1,t.un.2.1.2.1,t.un.2.1.2.2.1,t.un.2.1.2.2.2),l,t.un.2.2.2.1,t.un.2.2.2.2.1,t.un.2.2.2.2.2)
mutual
def okA:Nd→Bool
 | .mk k s l a b t=>okT (.mk k s l a b t)&&okAL l
def okAL:List Nd→Bool
 | []=>true
 |x::l=>okA x&&okAL l
end
theorem okA_un(t:Nd):okA t=(okT t&&okAL (kd t)):=by
 cases t;simp only[okA];rfl
theorem okAL_mem{x:Nd}: ∀{l:List Nd},okAL l=true→x∈l→okA x=true
 |y::l,h,hx=>by
   simp only[okAL,Bool.and_eq_true]at h;rcases List.mem_cons.1 hx with rfl|hx
   ·exact h.1
   exact okAL_mem h.2 hx
mutual
theorem okA_of: ∀(lv:Nat) (t:Nd),RT lv t→okA t=true
 |lv,.mk k s l a b t,h=>by
   have hk: ∀x∈l,RT (lv+1) x:=fun x hx=>h.kid (t:= .mk k s l a b t) hx;simp only[okA,Bool.and_eq_true];exact⟨h.node.2,okAL_of (lv+1) l hk⟩
theorem okAL_of: ∀(lv:Nat) (l:List Nd),(∀x∈l,RT lv x)→okAL l=true
 |_,[],_=>by simp only[okAL]
 |lv,x::l,h=>by
   simp only[okAL,Bool.and_eq_true];exact⟨okA_of lv x (h x (List.mem_cons_self ..)),okAL_of lv l fun y hy=>h y (List.mem_cons_of_mem _ hy)⟩
end
theorem wkL_mem'{lv:Nat}{y:Nd×Int}: ∀{l:List Nd},y∈wkL lv l→ ∃x∈l,y∈wk lv x
 | [],h=>by simp[wkL]at h
 |z::l,h=>by
   simp only[wkL]at h;rcases List.mem_append.1 h with h|h
   ·exact⟨z,List.mem_cons_self ..,h⟩
   obtain⟨x,hx,h⟩:=wkL_mem' h;exact⟨x,List.mem_cons_of_mem _ hx,h⟩
theorem RT.mk{lv:Nat}{t:Nd}(h1:lv≤24)(h2:okT t=true)(h3: ∀x∈kd t,RT (lv+1) x):RT lv t:=fun y hy=>by
 rw[wk_un,if_neg Om]at hy;rcases List.mem_cons.1 hy with rfl|hy
 ·unfold okX;rw[h2];simp;omega
 obtain⟨x,hx,hy⟩:=wkL_mem' hy;exact h3 x hx y hy
theorem okT_tx{t:Nd}(h:okT t=true)(hk:(t.un.1==5)=false):tx t=ByteArray.empty:=by
 unfold okT okB bareB at h;rw[hk]at h;simp only[Bool.and_eq_true,Bool.false_or]at h;have h:=h.1.2;rw[ba_eq]at h;simpa using h
inductive SE where
 |none
 |loop
 |deep
 |lim
def SE.num:SE→Int
 | .none=>15
 | .loop=>8
 | .deep=>7
 | .lim=>9
def SE.code:SE→Int
 | .none=>15
 | .loop=>9
 | .deep=>8
 | .lim=>2
theorem SE.ok(e:SE):eOk errIds e.code=true:=by cases e<;>decide
theorem SE.ne(e:SE):(e.num != 0)=true:=by cases e<;>decide
abbrev Bk:=List (ByteArray×Nd)
def fnd(B:Bk)(s:ByteArray):Option Nd:=(B.find? fun e=>decide (e.1=s)).map (·.2)
theorem babeq(a b:ByteArray):(a==b)=true↔a=b:=by
 obtain⟨a⟩:=a;obtain⟨b⟩:=b;show ByteArray.beq ⟨a⟩ ⟨b⟩=true↔_;unfold ByteArray.beq;simp
theorem mget_fnd(B:Bk)(s:ByteArray):mget B s=fnd B s:=by
 unfold mget fnd
 congr 2
 funext e;rw[Bool.eq_iff_iff,babeq];simp
def sprL(f:Nd→Nat→SE ⊕ (Nd×Nat)):List Nd→Nat→SE ⊕ (List Nd×Nat)
 | [],m=> .inr ([],m)
 |x::l,m=>match f x m with
   | .inl e=> .inl e
   | .inr (y,m')=>match sprL f l m' with
     | .inl e=> .inl e
     | .inr (ys,m'')=> .inr (y::ys,m'')
def spr(B:Bk):Nat→Nd→Nat→Nat→List ByteArray→SE ⊕ (Nd×Nat)
 |0,_,_,_,_=> .inl .deep
 |k+1,t,lv,m,p=>
   if(t.un.1==5)=true then
    match fnd B (tx t)with
    |none=> .inl .none
    |some u=>if memB p (tx t)=true then .inl .loop else spr B k u lv m (p++ [tx t])
   else if 24<lv then .inl .deep else if 600≤m then .inl .lim else
    match sprL (fun x m=>spr B k x (lv+1) m p) (kd t) (m+1)with
    | .inl e=> .inl e
    | .inr (ks,m')=> .inr (wkd t ks,m')
theorem fnd_mem{B:Bk}{s:ByteArray}{u:Nd}(h:fnd B s=some u):(s,u)∈B:=by
 unfold fnd at h
 cases hf:B.find? fun e=>decide (e.1=s)with
 |none=>rw[hf]at h;cases h
 |some e=>
   rw[hf]at h;have h1:=List.find?_some hf;have h2:=List.mem_of_find?_eq_some hf;simp at h h1;subst h h1;exact h2
theorem ndQ_wkd{t:Nd}{l:List Nd}(h:NdQ t)(hl: ∀x∈l,NdQ x):NdQ (wkd t l):=NdQ.of h.text hl
theorem wkd_okT{t:Nd}{l:List Nd}(h:l.length=(kd t).length):okT (wkd t l)=okT t:=by
 cases t;unfold okT;show okB _ _ l.length _ _ _ _=_;rw[h];rfl
structure GT(t:Nd):Prop where
 o:okA t=true
 q:NdQ t
 c:cnt t<700
theorem GT.kid{t x:Nd}(h:GT t)(hx:x∈kd t):GT x:=⟨by
 have:=h.o;rw[okA_un,Bool.and_eq_true]at this;exact okAL_mem this.2 hx,h.q.kid hx,by have:=cnt_kid hx;have:=h.c;omega⟩
theorem GT.ok{t:Nd}(h:GT t):okT t=true:=by
 have:=h.o;rw[okA_un,Bool.and_eq_true]at this;exact this.1
structure Made(lv m:Nat)(u:Nd)(m':Nat):Prop where
 m:m'=m+cnt u
 le:m'≤600
 r:RT lv u
 q:NdQ u
 k:(u.un.1==5)=false
theorem sprL_spec{f:Nd→Nat→SE ⊕ (Nd×Nat)}{lv:Nat}: ∀(l:List Nd) (m:Nat) (us:List Nd) (m':Nat),(∀x∈l,∀m u m',f x m= .inr (u,m')→m≤600→Made lv m u m')→m≤600→
 sprL f l m= .inr (us,m')→m'=m+cntL us∧m'≤600∧us.length=l.length∧(∀u∈us,RT lv u)∧ ∀u∈us,NdQ u
 | [],m,us,m',_,hm,h=>by
   simp only[sprL,Sum.inr.injEq,Prod.mk.injEq]at h;obtain⟨rfl,rfl⟩:=h;simp only[cntL];exact⟨rfl,hm,trivial,by simp,by simp⟩
 |x::l,m,us,m',hf,hm,h=>by
   simp only[sprL]at h
   cases h1:f x m with
   |inl e=>rw[h1]at h;cases h
   |inr p=>
     obtain⟨y,m1⟩:=p;rw[h1]at h;simp only at h;have M:=hf x (List.mem_cons_self ..) m y m1 h1 hm
     cases h2:sprL f l m1 with
     |inl e=>rw[h2]at h;cases h
     |inr p=>
       obtain⟨ys,m2⟩:=p;rw[h2]at h;simp only[Sum.inr.injEq,Prod.mk.injEq]at h;obtain⟨rfl,rfl⟩:=h;obtain⟨a,b,c,d,e⟩:=sprL_spec l m1 ys m2 (fun z hz=>hf z (List.mem_cons_of_mem _ hz)) M.le h2;have:=M.m;simp only[cntL,List.length_cons];refine⟨by omega,b,by omega,fun u hu=>?_,fun u hu=>?_⟩
       ·rcases List.mem_cons.1 hu with rfl|hu
        ·exact M.r
        exact d u hu
       rcases List.mem_cons.1 hu with rfl|hu
       ·exact M.q
       exact e u hu
theorem spr_made{B:Bk}(hB: ∀e∈B,GT e.2): ∀(k:Nat) (t:Nd) (lv m:Nat) (p:List ByteArray) (u:Nd) (m':Nat),GT t→m≤600→spr B k t lv m p= .inr (u,m')→Made lv m u m'
 |0,t,lv,m,p,u,m',_,_,h=>by simp[spr]at h
 |k+1,t,lv,m,p,u,m',ht,hm,h=>by
   simp only[spr]at h;split at h
   ·rename_i h5
    cases hf:fnd B (tx t)with
    |none=>rw[hf]at h;cases h
    |some v=>
      rw[hf]at h;simp only at h;split at h
      ·cases h
      exact spr_made hB k v lv m _ u m' (hB _ (fnd_mem hf)) hm h
   rename_i h5;split at h
   ·cases h
   rename_i h24;split at h
   ·cases h
   rename_i h600
   cases hl:sprL (fun x m=>spr B k x (lv+1) m p) (kd t) (m+1)with
   |inl e=>rw[hl]at h;cases h
   |inr q=>
     obtain⟨ks,m1⟩:=q;rw[hl]at h;simp only[Sum.inr.injEq,Prod.mk.injEq]at h;obtain⟨rfl,rfl⟩:=h;obtain⟨a,b,c,d,e⟩:=sprL_spec (lv:=lv+1) (kd t) (m+1) ks m1 (fun x hx m u m' h hm=>spr_made hB k x (lv+1) m p u m' (ht.kid hx) hm h) Om hl;have hc:cnt (wkd t ks)=1+cntL ks:=cnt_un (wkd t ks);exact⟨by omega,b,RT.mk Om (by rw[wkd_okT c];exact ht.ok) d,ndQ_wkd ht.q e,show(t.un.1==5)=false from Bool.eq_false_iff.2 h5⟩
open Go Go.Eng
set_option maxRecDepth 100000
theorem nodup_le: ∀{l m:List ByteArray},l.Nodup→(∀x∈l,x∈m)→l.length≤m.length
 | [],_,_,_=>Nat.zero_le _
 |x::l,m,hn,hs=>by
   obtain⟨a,b,rfl⟩:=List.append_of_mem (hs x (List.mem_cons_self ..));rw[List.nodup_cons]at hn
   have:=nodup_le (l:=l) (m:=a++b) hn.2 fun y hy=>by
    have h1:=hs y (List.mem_cons_of_mem _ hy);rcases List.mem_append.1 h1 with h|h
    ·exact List.mem_append.2 (.inl h)
    rcases List.mem_cons.1 h with rfl|h
    ·exact absurd hy hn.1
    exact List.mem_append.2 (.inr h)
   simp only[List.length_append,List.length_cons]at this ⊢;omega
structure PI(B:Bk)(p:List ByteArray):Prop where
 nd:p.Nodup
 mem: ∀x∈p,x∈B.map (·.1)
theorem PI.le{B:Bk}{p:List ByteArray}(h:PI B p)(hB:B.length≤32):p.length≤32:=by
 have:=nodup_le h.nd h.mem;simp at this;omega
theorem PI.add{B:Bk}{p:List ByteArray}(h:PI B p){s:ByteArray}{u:Nd}(hs:fnd B s=some u)(hp:memB p s=false):PI B (p++ [s]):=by
 have hn:=memB_f.1 hp;refine⟨List.nodup_append.2 ⟨h.nd,by simp,fun a ha b hb=>?_⟩,fun x hx=>?_⟩
 ·obtain rfl:=List.mem_singleton.1 hb;exact fun e=>hn (e▸ha)
 rcases List.mem_append.1 hx with hx|hx
 ·exact h.mem x hx
 obtain rfl:=List.mem_singleton.1 hx;exact List.mem_map.2 ⟨_,fnd_mem hs,rfl⟩
structure BOk(B:Bk):Prop where
 l:B.length≤32
 g: ∀e∈B,GT e.2
section
variable {B:Bk}{nm:List ByteArray}{N:Nat}
theorem contains_small(hl:nm.length≤1000000)(hN:nm.length<N)(s:ByteArray):F_69 N nm s=some (memB nm s):=by
 unfold F_69 F_21
 rw[loop_find nm (fun x=>decide (x=s)) (fun i=>(i:Int)) hN (fun i x hx=>by
  have hi:=lt_len hx;unfold F_71;rw[if_pos (by simpa using hi),idx_of hx];simp only[bind,Option.bind_some,ba_eq];rw[w64_succ Om];by_cases h:x=s
  ·simp[h]
  have: ¬s=x:=fun e=>h e.symm;simp[h,this]) (by unfold F_71;simp)]
 rw[←plc_ge];unfold plc;cases nm.findIdx? (fun x=>decide (x=s))<;>rfl
def SpC(N:Nat)(B:Bk)(nm:List ByteArray)(t:Nd)(lv m:Nat)(p:List ByteArray):SE ⊕ (Nd×Nat)→Prop
 | .inr (u,m')=>F_2 N nm B m p 0 t.un.1 t.un.2.1.1 t.un.2.1.2.1 t.un.2.1.2.2.1 t.un.2.1.2.2.2 t.un.2.2.1 t.un.2.2.2.1 t.un.2.2.2.2.1 t.un.2.2.2.2.2 lv=
  some ((m':Int),p,0,u.un.1,u.un.2.1.1,u.un.2.1.2.1,u.un.2.1.2.2.1,u.un.2.1.2.2.2,u.un.2.2.1,u.un.2.2.2.1,u.un.2.2.2.2.1,u.un.2.2.2.2.2)
 | .inl e=> ∃(m':Int) (u:Nd),F_2 N nm B m p 0 t.un.1 t.un.2.1.1 t.un.2.1.2.1 t.un.2.1.2.2.1 t.un.2.1.2.2.2 t.un.2.2.1 t.un.2.2.2.1 t.un.2.2.2.2.1 t.un.2.2.2.2.2 lv=
  some (m',p,e.code,u.un.1,u.un.2.1.1,u.un.2.1.2.1,u.un.2.1.2.2.1,u.un.2.1.2.2.2,u.un.2.2.1,u.un.2.2.2.1,u.un.2.2.2.2.1,u.un.2.2.2.2.2)
theorem spread_err{M:Nat}{c:Int}(hc:eOk errIds c=true)(m:Int)(p:List ByteArray)(t:Nd)(lv:Int):
 F_2 (M+1) nm B m p c t.un.1 t.un.2.1.1 t.un.2.1.2.1 t.un.2.1.2.2.1 t.un.2.1.2.2.2 t.un.2.2.1 t.un.2.2.2.1 t.un.2.2.2.2.1 t.un.2.2.2.2.2 lv=some (m,p,c,0,0,0,0,0,[],0,0,ByteArray.empty):=by
 rw[F_2,if_pos hc]
theorem loop_err{M:Nat}{c:Int}(hc:eOk errIds c=true)(lv:Int)(p:List ByteArray)(m:Int)(l:List Nd)(hl:l.length<1000000): ∀(r i K:Nat) (zs:List Nd),i+r=l.length→r<K→zs.length=l.length→
 ∃zs',iterO K (fun s=>F_24 (M+1) (F_2 (M+1)) nm B lv l s.1 s.2.1 s.2.2.1 s.2.2.2.1 s.2.2.2.2) (m,p,c,zs,(i:Int))=some (m,p,c,zs'):=by
 intro r
 induction r with
 |zero=>
   intro i K zs hi hK hz;obtain⟨K,rfl⟩: ∃m,K=m+1:=⟨K-1,by omega⟩;simp only[iterO,F_24];rw[if_neg (by simp;omega)];exact⟨zs,rfl⟩
 |succ r ih=>
   intro i K zs hi hK hz;obtain⟨K,rfl⟩: ∃m,K=m+1:=⟨K-1,by omega⟩;have hlt:i<zs.length:=by omega
   have hx:zs[i]? =some zs[i]:=List.getElem?_eq_getElem hlt;generalize zs[i]=x at hx;obtain⟨zs',h⟩:=ih (i+1) K (zs.set i (Nd.of (0,(0,0,0,0),[],0,0,ByteArray.empty))) Om Om (by simpa using hz);refine⟨zs',?_⟩;rw[←h]
   have hs:F_24 (M+1) (F_2 (M+1)) nm B lv l m p c zs (i:Int)=some (.inl (m,p,c,zs.set i (Nd.of (0,(0,0,0,0),[],0,0,ByteArray.empty)),((i+1:Nat):Int))):=by
    unfold F_24;rw[if_pos (by simp;omega),idx_of hx];simp only[bind,Option.bind_some];rw[spread_err hc];simp only[Option.bind_some];rw[show setI zs (i:Int) (Nd.of (0,(0,0,0,0),[],0,0,ByteArray.empty))=some (zs.set i (Nd.of (0,(0,0,0,0),[],0,0,ByteArray.empty))) by simp[setI,hlt]];simp only[Option.bind_some];rw[w64_succ Om]
   simp only[iterO,hs]
theorem spread_code(hB:BOk B): ∀(k:Nat) (t:Nd) (lv m M:Nat) (p:List ByteArray),GT t→PI B p→m≤600→lv≤25→(26-lv)+(33-p.length)≤k→100000+k≤M→
 SpC M B nm t lv m p (spr B k t lv m p):=by
 intro k
 induction k with
 |zero=>intro t lv m M p _ hp _ hlv hk;have:=hp.le hB.l;omega
 |succ k IH=>
   intro t lv m M p ht hp hm hlv hk hM;obtain⟨M,rfl⟩: ∃n,M=n+1:=⟨M-1,by omega⟩;have hpl:=hp.le hB.l;have hcu:=cnt_un t;have hll:=cntL_len (kd t);have htc:=ht.c;rw[spr];by_cases h5:(t.un.1==5)=true
   ·rw[if_pos h5]
    cases hf:fnd B (tx t)with
    |none=>
      refine⟨m,Nd.of (0,(0,0,0,0),[],0,0,ByteArray.empty),?_⟩;rw[F_2,if_neg (by decide),if_pos h5];unfold F_94;rw[show mget B t.un.2.2.2.2.2=none from(mget_fnd ..).trans hf];rfl
    |some u=>
      simp only;have hu:=hB.g _ (fnd_mem hf)
      cases hmem:memB p (tx t)with
      |true=>
        rw[if_pos rfl];refine⟨m,Nd.of (0,(0,0,0,0),[],0,0,ByteArray.empty),?_⟩;rw[F_2,if_neg (by decide),if_pos h5];unfold F_94;rw[show mget B t.un.2.2.2.2.2=some u from(mget_fnd ..).trans hf,contains_small Om Om,show memB p t.un.2.2.2.2.2=true from hmem];rfl
      |false=>
        rw[if_neg Sm];have hlen:(p++ [tx t]).length=p.length+1:=by simp
        have h1:=IH u lv m M (p++ [tx t]) hu (hp.add hf hmem) hm hlv Om Om;have hpl2:=(hp.add hf hmem).le hB.l;rw[hlen]at hpl2
        have hsl:slc (p++ [tx t]) 0 (w64 (((p++ [tx t]).length:Int)-1))=some p:=by
         rw[show w64 (((p++ [tx t]).length:Int)-1)=(p.length:Int) by rw[hlen,w64,wrap64]<;>omega,slc_take Sm];simp
        have hgo: ∀q:Int×List ByteArray×Int×Int×Int×Int×Int×Int×List Nd×Int×Int×ByteArray,q.2.1=p++ [tx t]→
         F_2 M nm B m (p++ [tx t]) 0 u.un.1 u.un.2.1.1 u.un.2.1.2.1 u.un.2.1.2.2.1 u.un.2.1.2.2.2 u.un.2.2.1 u.un.2.2.2.1 u.un.2.2.2.2.1 u.un.2.2.2.2.2 lv=some q→
         F_2 (M+1) nm B m p 0 t.un.1 t.un.2.1.1 t.un.2.1.2.1 t.un.2.1.2.2.1 t.un.2.1.2.2.2 t.un.2.2.1 t.un.2.2.2.1 t.un.2.2.2.2.1 t.un.2.2.2.2.2 lv=some (q.1,p,q.2.2):=fun q hq e=>by
         rw[F_2,if_neg (by decide),if_pos h5];unfold F_94;rw[show mget B t.un.2.2.2.2.2=some u from(mget_fnd ..).trans hf,contains_small Om Om,show memB p t.un.2.2.2.2.2=false from hmem];simp only[Option.isSome_some,Bool.not_true,Bool.false_eq_true,if_false,bind,Option.bind_some,Option.getD_some];rw[app_eq (by simp;omega)];simp only[Option.bind_some];rw[e];obtain⟨q1,q2,q3,q4,q5,q6,q7,q8,q9,q10,q11,q12⟩:=q;have hq:q2=p++ [tx t]:=hq;subst hq;simp only[Option.bind_some];rw[hsl];rfl
        cases hr:spr B k u lv m (p++ [tx t])with
        |inl e=>
          rw[hr]at h1;obtain⟨m',v,h1⟩:=h1;exact⟨m',v,hgo _ rfl h1⟩
        |inr q=>
          rw[hr]at h1;exact hgo _ rfl h1
   rw[if_neg h5];by_cases h24:24<lv
   ·rw[if_pos h24];refine⟨m,Nd.of (0,(0,0,0,0),[],0,0,ByteArray.empty),?_⟩;rw[F_2,if_neg (by decide),if_neg h5,if_pos (by simp;omega)];rfl
   rw[if_neg h24];by_cases h6:600≤m
   ·rw[if_pos h6];refine⟨m,Nd.of (0,(0,0,0,0),[],0,0,ByteArray.empty),?_⟩;rw[F_2,if_neg (by decide),if_neg h5,if_neg (by simp;omega),if_pos (by simp;omega)];rfl
   rw[if_neg h6];obtain⟨M,rfl⟩: ∃n,M=n+1:=⟨M-1,by omega⟩
   have key: ∀(r i K m:Nat) (ys:List Nd),i+r=(kd t).length→r<K→ys.length=i→m≤600→
    match sprL (fun x m=>spr B k x (lv+1) m p) ((kd t).drop i) m with
    | .inr (us,m')=>iterO K (fun s=>F_24 (M+1) (F_2 (M+1)) nm B lv (kd t) s.1 s.2.1 s.2.2.1 s.2.2.2.1 s.2.2.2.2) ((m:Int),p,0,ys++(kd t).drop i,(i:Int))=some ((m':Int),p,0,ys++us)
    | .inl e=> ∃m' zs,iterO K (fun s=>F_24 (M+1) (F_2 (M+1)) nm B lv (kd t) s.1 s.2.1 s.2.2.1 s.2.2.2.1 s.2.2.2.2) ((m:Int),p,0,ys++(kd t).drop i,(i:Int))=some (m',p,e.code,zs):=by
    intro r
    induction r with
    |zero=>
      intro i K m ys hi hK hy hm;obtain⟨K,rfl⟩: ∃m,K=m+1:=⟨K-1,by omega⟩;rw[List.drop_eq_nil_of_le Om];simp only[sprL,iterO,F_24];rw[if_neg (by simp;omega)]
    |succ r ih=>
      intro i K m ys hi hK hy hm;obtain⟨K,rfl⟩: ∃m,K=m+1:=⟨K-1,by omega⟩;have hlt:i<(kd t).length:=by omega
      have hx:(kd t)[i]? =some (kd t)[i]:=List.getElem?_eq_getElem hlt;rw[List.drop_eq_getElem_cons hlt];generalize(kd t)[i]=x at hx;have hxm:=List.mem_of_getElem? hx;have h1:=IH x (lv+1) m (M+1) p (ht.kid hxm) hp hm Om Om Om;have hL:(ys++x::(kd t).drop (i+1))[i]? =some x:=by rw[List.getElem?_append_right Om,hy];simp
      have hset: ∀y,setI (ys++x::(kd t).drop (i+1)) (i:Int) y=some (ys++ [y]++(kd t).drop (i+1)):=fun y=>by
       unfold setI;rw[if_pos ⟨by omega,by simp;omega⟩];simp only[Int.toNat_natCast];rw[List.set_append_right _ _ Om,hy];simp
      have hgo: ∀(m1 c:Int) (u:Nd),F_2 (M+1) nm B m p 0 x.un.1 x.un.2.1.1 x.un.2.1.2.1 x.un.2.1.2.2.1 x.un.2.1.2.2.2 x.un.2.2.1 x.un.2.2.2.1 x.un.2.2.2.2.1 x.un.2.2.2.2.2 (((lv+1:Nat)):Int)=
       some (m1,p,c,u.un.1,u.un.2.1.1,u.un.2.1.2.1,u.un.2.1.2.2.1,u.un.2.1.2.2.2,u.un.2.2.1,u.un.2.2.2.1,u.un.2.2.2.2.1,u.un.2.2.2.2.2)→
       F_24 (M+1) (F_2 (M+1)) nm B lv (kd t) m p 0 (ys++x::(kd t).drop (i+1)) (i:Int)=some (.inl (m1,p,c,ys++ [u]++(kd t).drop (i+1),((i+1:Nat):Int))):=fun m1 c u e=>by
       unfold F_24;rw[if_pos (by simpa using hlt),idx_of hL];simp only[bind,Option.bind_some];rw[w64_succ Om,e];simp only[Option.bind_some];rw[Nd.of_eq,hset,w64_succ Om];rfl
      simp only[sprL]
      cases hr:spr B k x (lv+1) m p with
      |inl e=>
        rw[hr]at h1;obtain⟨m',v,h1⟩:=h1;obtain⟨zs',h2⟩:=loop_err (M:=M) (nm:=nm) (B:=B) (c:=e.code) e.ok lv p m' (kd t) Om r (i+1) K (ys++ [v]++(kd t).drop (i+1)) Om Om (by simp;omega);refine⟨m',zs',?_⟩;simp only[iterO,hgo _ _ _ h1];exact h2
      |inr q=>
        obtain⟨u,m1⟩:=q;have hmd:=spr_made hB.g k x (lv+1) m p u m1 (ht.kid hxm) hm hr;rw[hr]at h1;simp only;have h2:=ih (i+1) K m1 (ys++ [u]) Om Om (by simp[hy]) hmd.le
        cases hs:sprL (fun x m=>spr B k x (lv+1) m p) ((kd t).drop (i+1)) m1 with
        |inl e=>
          rw[hs]at h2;obtain⟨m',zs,h2⟩:=h2;refine⟨m',zs,?_⟩;simp only[iterO,hgo _ _ _ h1];exact h2
        |inr q=>
          obtain⟨us,m2⟩:=q;rw[hs]at h2;simp only[iterO,hgo _ _ _ h1];rw[h2];simp
   have h2:=key (kd t).length 0 (M+1) (m+1) [] Om Om rfl Om;rw[List.drop_zero]at h2;simp only[List.nil_append]at h2
   have e0:F_2 (M+1+1) nm B m p 0 t.un.1 t.un.2.1.1 t.un.2.1.2.1 t.un.2.1.2.2.1 t.un.2.1.2.2.2 t.un.2.2.1 t.un.2.2.2.1 t.un.2.2.2.2.1 t.un.2.2.2.2.2 lv=
    (iterO (M+1) (fun s=>F_24 (M+1) (F_2 (M+1)) nm B lv (kd t) s.1 s.2.1 s.2.2.1 s.2.2.2.1 s.2.2.2.2) ((((m+1:Nat)):Int),p,0,kd t,0)).bind fun q=>
     some (q.1,q.2.1,q.2.2.1,t.un.1,t.un.2.1.1,t.un.2.1.2.1,t.un.2.1.2.2.1,t.un.2.1.2.2.2,q.2.2.2,t.un.2.2.2.1,t.un.2.2.2.2.1,t.un.2.2.2.2.2):=by
    rw[F_2,if_neg (by decide),if_neg h5,if_neg (by simp;omega),if_neg (by simp;omega)];unfold F_81;rw[app_eq (by have:t.un.2.2.1.length≤cntL (kd t):=hll;simp;omega),w64_succ Om];rfl
   cases hs:sprL (fun x m=>spr B k x (lv+1) m p) (kd t) (m+1)with
   |inl e=>
     rw[hs]at h2;obtain⟨m',zs,h2⟩:=h2;refine⟨m',wkd t zs,?_⟩;rw[e0,show iterO (M+1) (fun s=>F_24 (M+1) (F_2 (M+1)) nm B lv (kd t) s.1 s.2.1 s.2.2.1 s.2.2.2.1 s.2.2.2.2) ((((m+1:Nat)):Int),p,0,kd t,0)=_ from h2];rfl
   |inr q=>
     obtain⟨us,m2⟩:=q;rw[hs]at h2;show F_2 _ _ _ _ _ _ _ _ _ _ _ _ _ _ _ _=_;rw[e0,show iterO (M+1) (fun s=>F_24 (M+1) (F_2 (M+1)) nm B lv (kd t) s.1 s.2.1 s.2.2.1 s.2.2.2.1 s.2.2.2.2) ((((m+1:Nat)):Int),p,0,kd t,0)=_ from h2];rfl
end
open Go Go.Eng
set_option maxRecDepth 100000
section
variable {B:Bk}{N:Nat}
theorem find_ref(hl:B.length≤1000000)(hN:B.length<N)(s:ByteArray):F_33 N B s=some (match B.findIdx? (fun e=>decide (e.1=s))with|some i=>(i:Int)|none=> -1):=by
 unfold F_33
 rw[loop_find B (fun e=>decide (e.1=s)) (fun i=>(i:Int)) hN (fun i x hx=>by
  have hi:=lt_len hx;unfold F_87;rw[if_pos (by simpa using hi),idx_of hx];simp only[bind,Option.bind_some,ba_eq];rw[w64_succ Om]) (by unfold F_87;simp)]
 cases B.findIdx? (fun e=>decide (e.1=s))<;>rfl
theorem fnd_none{s:ByteArray}(h:fnd B s=none):B.findIdx? (fun e=>decide (e.1=s))=none:=by
 unfold fnd at h;rw[Option.map_eq_none_iff,List.find?_eq_none]at h;rw[List.findIdx?_eq_none_iff];intro x hx;exact Bool.eq_false_iff.2 (h x hx)
theorem fnd_some{s:ByteArray}{u:Nd}(h:fnd B s=some u): ∃i:Nat,B.findIdx? (fun e=>decide (e.1=s))=some i∧B[i]? =some (s,u):=by
 unfold fnd at h
 cases hf:B.findIdx? (fun e=>decide (e.1=s))with
 |none=>
   rw[List.findIdx?_eq_none_iff]at hf;have:B.find? (fun e=>decide (e.1=s))=none:=List.find?_eq_none.2 fun x hx=>by rw[hf x hx];simp
   rw[this]at h;cases h
 |some i=>
   refine⟨i,rfl,?_⟩;obtain⟨hi,hp,hl⟩:=List.findIdx?_eq_some_iff_getElem.1 hf
   have:B.find? (fun e=>decide (e.1=s))=some B[i]:=by
    rw[List.find?_eq_some_iff_getElem];exact⟨hp,i,hi,rfl,fun j hj=>by simpa using hl j hj⟩
   rw[this]at h;simp at h hp;rw[List.getElem?_eq_getElem hi,←h,←hp]
theorem Made.tx{lv m:Nat}{u:Nd}{m':Nat}(h:Made lv m u m'):tx u=ByteArray.empty:=okT_tx h.r.node.2 h.k
def SpR(N:Nat)(B:Bk)(t:Nd)(lv m:Nat)(p:List ByteArray):SE ⊕ (Nd×Nat)→Prop
 | .inr (u,m')=>F_1 N B t.un.1 t.un.2.1.1 t.un.2.1.2.1 t.un.2.1.2.2.1 t.un.2.1.2.2.2 t.un.2.2.1 t.un.2.2.2.1 t.un.2.2.2.2.1 t.un.2.2.2.2.2 lv m p=
  some (u.un.1,u.un.2.1.1,u.un.2.1.2.1,u.un.2.1.2.2.1,u.un.2.1.2.2.2,u.un.2.2.1,u.un.2.2.2.1,u.un.2.2.2.2.1,(m':Int),0)
 | .inl e=> ∃m':Int,F_1 N B t.un.1 t.un.2.1.1 t.un.2.1.2.1 t.un.2.1.2.2.1 t.un.2.1.2.2.2 t.un.2.2.1 t.un.2.2.2.1 t.un.2.2.2.2.1 t.un.2.2.2.2.2 lv m p=
  some (0,0,0,0,0,[],0,0,m',e.num)
theorem spread_ref(hB:BOk B): ∀(k:Nat) (t:Nd) (lv m M:Nat) (p:List ByteArray),GT t→PI B p→m≤600→lv≤25→(26-lv)+(33-p.length)≤k→100000+k≤M→
 SpR M B t lv m p (spr B k t lv m p):=by
 intro k
 induction k with
 |zero=>intro t lv m M p _ hp _ hlv hk;have:=hp.le hB.l;omega
 |succ k IH=>
   intro t lv m M p ht hp hm hlv hk hM;obtain⟨M,rfl⟩: ∃n,M=n+1:=⟨M-1,by omega⟩;have hpl:=hp.le hB.l;have hBl:=hB.l;have hcu:=cnt_un t;have hll:=cntL_len (kd t);have htc:=ht.c;rw[spr];by_cases h5:(t.un.1==5)=true
   ·rw[if_pos h5]
    cases hf:fnd B (tx t)with
    |none=>
      refine⟨m,?_⟩;rw[F_1,if_pos h5,find_ref Om Om,show B.findIdx? (fun e=>decide (e.1=t.un.2.2.2.2.2))=none from fnd_none hf];rfl
    |some u=>
      simp only;have hu:=hB.g _ (fnd_mem hf);obtain⟨i,hi,hx⟩:=fnd_some hf
      have el:iterO M (fun s=>F_65 M (tx t) m p s) 0=some (if memB p (tx t)then .inr (0,0,0,0,0,[],0,0,(m:Int),8)else .inl ()):=by
       rw[loop_any p (fun x=>decide (x=tx t)) (0,0,0,0,0,[],0,0,(m:Int),8) Om (fun i x hx=>by
        have hi:=lt_len hx;unfold F_65;rw[if_pos (by simpa using hi),idx_of hx];simp only[bind,Option.bind_some,ba_eq];rw[w64_succ Om]) (by unfold F_65;simp)]
       rfl
      have h0: ¬(i:Int)<0:=by omega
      have e0:F_1 (M+1) B t.un.1 t.un.2.1.1 t.un.2.1.2.1 t.un.2.1.2.2.1 t.un.2.1.2.2.2 t.un.2.2.1 t.un.2.2.2.1 t.un.2.2.2.2.1 t.un.2.2.2.2.2 lv m p=
       if memB p (tx t)=true then some (0,0,0,0,0,[],0,0,(m:Int),8)else
        F_1 M B u.un.1 u.un.2.1.1 u.un.2.1.2.1 u.un.2.1.2.2.1 u.un.2.1.2.2.2 u.un.2.2.1 u.un.2.2.2.1 u.un.2.2.2.2.1 u.un.2.2.2.2.2 lv m (p++ [tx t]):=by
       rw[F_1,if_pos h5,find_ref Om Om,show B.findIdx? (fun e=>decide (e.1=t.un.2.2.2.2.2))=some i from hi];simp only[bind,Option.bind_some,h0,decide_false,Bool.false_eq_true,if_false];rw[show iterO M (fun s=>F_65 M t.un.2.2.2.2.2 m p s) 0=_ from el]
       cases memB p (tx t)with
       |true=>rfl
       |false=>
         simp only[Bool.false_eq_true,if_false,Option.bind_some];rw[idx_of hx,app_eq (by simp;omega)];simp only[Option.bind_some,List.nil_append];rw[app_eq (by simp;omega)];simp only[Option.bind_some];generalize F_1 M B u.un.1 u.un.2.1.1 u.un.2.1.2.1 u.un.2.1.2.2.1 u.un.2.1.2.2.2 u.un.2.2.1 u.un.2.2.2.1 u.un.2.2.2.2.1 u.un.2.2.2.2.2 lv m (p++ [tx t])=o;cases o<;>rfl
      cases hmem:memB p (tx t)with
      |true=>
        rw[if_pos rfl];exact⟨m,by rw[e0,hmem];rfl⟩
      |false=>
        rw[if_neg Sm];have hlen:(p++ [tx t]).length=p.length+1:=by simp
        have h1:=IH u lv m M (p++ [tx t]) hu (hp.add hf hmem) hm hlv Om Om;rw[hmem,if_neg Sm]at e0;unfold SpR at h1 ⊢;rw[e0];exact h1
   rw[if_neg h5];by_cases h24:24<lv
   ·rw[if_pos h24];refine⟨m,?_⟩;rw[F_1,if_neg h5,if_pos (by simp;omega)];rfl
   rw[if_neg h24];by_cases h6:600≤m
   ·rw[if_pos h6];refine⟨m,?_⟩;rw[F_1,if_neg h5,if_neg (by simp;omega),if_pos (by simp;omega)];rfl
   rw[if_neg h6]
   have key: ∀(r i K m:Nat) (ys:List Nd),i+r=(kd t).length→r<K→ys.length=i→m≤600→
    match sprL (fun x m=>spr B k x (lv+1) m p) ((kd t).drop i) m with
    | .inr (us,m')=>iterO K (fun s=>F_29 M (F_1 M) B (kd t) lv p s.1 s.2.1 s.2.2) (ys,(m:Int),(i:Int))=some (.inl (ys++us,(m':Int)))
    | .inl e=> ∃m':Int,iterO K (fun s=>F_29 M (F_1 M) B (kd t) lv p s.1 s.2.1 s.2.2) (ys,(m:Int),(i:Int))=some (.inr (0,0,0,0,0,[],0,0,m',e.num)):=by
    intro r
    induction r with
    |zero=>
      intro i K m ys hi hK hy hm;obtain⟨K,rfl⟩: ∃m,K=m+1:=⟨K-1,by omega⟩;rw[List.drop_eq_nil_of_le Om];simp only[sprL,iterO,F_29];rw[if_neg (by simp;omega)];simp
    |succ r ih=>
      intro i K m ys hi hK hy hm;obtain⟨K,rfl⟩: ∃m,K=m+1:=⟨K-1,by omega⟩;have hlt:i<(kd t).length:=by omega
      have hx:(kd t)[i]? =some (kd t)[i]:=List.getElem?_eq_getElem hlt;rw[List.drop_eq_getElem_cons hlt];generalize(kd t)[i]=x at hx;have hxm:=List.mem_of_getElem? hx;have h1:=IH x (lv+1) m M p (ht.kid hxm) hp hm Om Om Om;simp only[sprL]
      cases hr:spr B k x (lv+1) m p with
      |inl e=>
        rw[hr]at h1;obtain⟨m',h1⟩:=h1;refine⟨m',?_⟩
        have hs:F_29 M (F_1 M) B (kd t) lv p ys m (i:Int)=some (.inr (.inr (0,0,0,0,0,[],0,0,m',e.num))):=by
         unfold F_29;rw[if_pos (by simpa using hlt),idx_of hx];simp only[bind,Option.bind_some];rw[w64_succ Om,h1];simp only[Option.bind_some];rw[if_pos e.ne]
        simp only[iterO,hs]
      |inr q=>
        obtain⟨u,m1⟩:=q;have hmd:=spr_made hB.g k x (lv+1) m p u m1 (ht.kid hxm) hm hr;rw[hr]at h1;have h1:F_1 M B x.un.1 x.un.2.1.1 x.un.2.1.2.1 x.un.2.1.2.2.1 x.un.2.1.2.2.2 x.un.2.2.1 x.un.2.2.2.1 x.un.2.2.2.2.1 x.un.2.2.2.2.2 (((lv+1:Nat)):Int) m p=_:=h1;simp only;have h2:=ih (i+1) K m1 (ys++ [u]) Om Om (by simp[hy]) hmd.le
        have hs:F_29 M (F_1 M) B (kd t) lv p ys m (i:Int)=some (.inl (ys++ [u],(m1:Int),((i+1:Nat):Int))):=by
         unfold F_29;rw[if_pos (by simpa using hlt),idx_of hx];simp only[bind,Option.bind_some];rw[w64_succ Om,h1];simp only[Option.bind_some];rw[if_neg (by decide),←show u.un.2.2.2.2.2=ByteArray.empty from hmd.tx,Nd.of_eq,app_eq (by simp;omega),w64_succ Om];rfl
        cases hs2:sprL (fun x m=>spr B k x (lv+1) m p) ((kd t).drop (i+1)) m1 with
        |inl e=>
          rw[hs2]at h2;obtain⟨m',h2⟩:=h2;refine⟨m',?_⟩;simp only[iterO,hs];exact h2
        |inr q=>
          obtain⟨us,m2⟩:=q;rw[hs2]at h2;simp only[iterO,hs];rw[h2];simp
   have h2:=key (kd t).length 0 M (m+1) [] Om Om rfl Om;rw[List.drop_zero]at h2;simp only[List.nil_append]at h2
   have e0:F_1 (M+1) B t.un.1 t.un.2.1.1 t.un.2.1.2.1 t.un.2.1.2.2.1 t.un.2.1.2.2.2 t.un.2.2.1 t.un.2.2.2.1 t.un.2.2.2.2.1 t.un.2.2.2.2.2 lv m p=
    (iterO M (fun s=>F_29 M (F_1 M) B (kd t) lv p s.1 s.2.1 s.2.2) ([],(((m+1:Nat)):Int),0)).bind fun z=>match z with
     | .inr z=>some z
     | .inl q=>some (t.un.1,t.un.2.1.1,t.un.2.1.2.1,t.un.2.1.2.2.1,t.un.2.1.2.2.2,q.1,t.un.2.2.2.1,t.un.2.2.2.2.1,q.2,0):=by
    rw[F_1,if_neg h5,if_neg (by simp;omega),if_neg (by simp;omega),w64_succ Om];refine congrArg (Option.bind _) (funext fun z=>?_);cases z<;>rfl
   cases hs:sprL (fun x m=>spr B k x (lv+1) m p) (kd t) (m+1)with
   |inl e=>
     rw[hs]at h2;obtain⟨m',h2⟩:=h2;refine⟨m',?_⟩;rw[e0,show iterO M (fun s=>F_29 M (F_1 M) B (kd t) lv p s.1 s.2.1 s.2.2) ([],(((m+1:Nat)):Int),0)=_ from h2];rfl
   |inr q=>
     obtain⟨us,m2⟩:=q;rw[hs]at h2;show F_1 _ _ _ _ _ _ _ _ _ _ _ _ _ _=_;rw[e0,show iterO M (fun s=>F_29 M (F_1 M) B (kd t) lv p s.1 s.2.1 s.2.2) ([],(((m+1:Nat)):Int),0)=_ from h2];rfl
end
open Go Go.Eng
set_option maxRecDepth 100000
theorem set_same{α:Type}{l:List α}{i:Nat}{x:α}(h:l[i]? =some x):l.set i x=l:=by
 obtain⟨hi,rfl⟩:=List.getElem?_eq_some_iff.1 h;exact List.set_getElem_self hi
theorem setI_same{α:Type}{l:List α}{i:Nat}{x:α}(h:l[i]? =some x):setI l (i:Int) x=some l:=by
 have hi:=lt_len h;simp only[setI,Int.toNat_natCast];rw[if_pos ⟨by omega,hi⟩,set_same h]
theorem copied_spec: ∀(c:Nat) (t:Nd),cnt t=c→ ∀N,cnt t+5≤N→cnt t<100000→
 F_10 N t.un.1 t.un.2.1.1 t.un.2.1.2.1 t.un.2.1.2.2.1 t.un.2.1.2.2.2 t.un.2.2.1 t.un.2.2.2.1 t.un.2.2.2.2.1 t.un.2.2.2.2.2=some (kd t):=by
 intro c
 induction c using Nat.strongRecOn with
 |ind c IH=>
   intro t hc N hN hb;obtain⟨M,rfl⟩: ∃m,N=m+1:=⟨N-1,by omega⟩;have hcu:=cnt_un t;have hll:=cntL_len (kd t);rw[F_10];unfold F_81;rw[app_eq (by have:t.un.2.2.1.length≤cntL (kd t):=hll;simp;omega)];simp only[bind,Option.bind_some,List.nil_append]
   have h:=iterO_for0 (f:=fun s=>F_50 M (F_10 M) (kd t) s.1 s.2) (r:=kd t) (s:=(kd t,0)) (N:=M) (fun i=>(kd t,(i:Int))) (kd t).length rfl Om (fun i hi=>by
    have hx:(kd t)[i]? =some (kd t)[i]:=List.getElem?_eq_getElem hi;generalize(kd t)[i]=x at hx;have hm:=cnt_kid (List.mem_of_getElem? hx);show F_50 M (F_10 M) (kd t) (kd t) (i:Int)=_;unfold F_50;rw[if_pos (by simpa using hi),idx_of hx];simp only[bind,Option.bind_some];rw[IH (cnt x) Om x rfl M Om Om];simp only[Option.bind_some];rw[Nd.of_eq,setI_same hx,w64_succ Om]
    rfl) (by
    show F_50 M (F_10 M) (kd t) (kd t) ((kd t).length:Int)=_;unfold F_50;rw[if_neg Sm])
   rw[show iterO M (fun s=>F_50 M (F_10 M) t.un.2.2.1 s.1 s.2) (t.un.2.2.1,0)=_ from h];rfl
section
variable {N:Nat}
theorem copy_spec(hN:9300000000000000000≤N){t:Nd}(hc:cnt t<1000)(hq:NdQ t)(hr:rtT t=true):
 F_115 N t.un.1 t.un.2.1.1 t.un.2.1.2.1 t.un.2.1.2.2.1 t.un.2.1.2.2.2 t.un.2.2.1 t.un.2.2.2.1 t.un.2.2.2.2.1 t.un.2.2.2.2.2=
  some (t.un.1,t.un.2.1.1,t.un.2.1.2.1,t.un.2.1.2.2.1,t.un.2.1.2.2.2,t.un.2.2.1,t.un.2.2.2.1,t.un.2.2.2.2.1,t.un.2.2.2.2.2):=by
 unfold F_115;rw[right_code hN hc hq,hr,copied_spec _ t rfl N Om Om];rfl
def bk(Ls:List Lt):Bk:=Ls.map fun x=>(x.1,x.2.1)
theorem fnd_app{B:Bk}{s:ByteArray}(h: ∀e∈B,e.1≠s):fnd B s=none:=by
 unfold fnd;rw[List.find?_eq_none.2 fun e he=>by simpa using h e he];rfl
theorem mset_new{B:Bk}{s:ByteArray}{t:Nd}(h: ∀e∈B,e.1≠s):mset B s t=B++ [(s,t)]:=by
 unfold mset
 have:B.findIdx? (fun e=>e.1==s)=none:=List.findIdx?_eq_none_iff.2 fun e he=>by
  cases hb:e.1==s with
  |false=>rfl
  |true=>exact absurd ((babeq _ _).1 hb) (h e he)
 rw[this]
theorem add_code(hN:9300000000000000000≤N){B:Bk}{l:List ByteArray}{s:ByteArray}{t:Nd}(hs:s.size≤50)(hn:nmB (sl s)=true)(hc:cnt t<700)(hq:NdQ t)(hr:rtT t=true)(hf: ∀e∈B,e.1≠s)(hl:l.length<32):
 F_109 N l B s t.un.1 t.un.2.1.1 t.un.2.1.2.1 t.un.2.1.2.2.1 t.un.2.1.2.2.2 t.un.2.2.1 t.un.2.2.2.1 t.un.2.2.2.2.1 t.un.2.2.2.2.2=some (l++ [s],B++ [(s,t)],0):=by
 have hcb:=cap_big;unfold F_109;rw[nm_code hN Om,hn,right_code hN Om hq,hr,mget_fnd,fnd_app hf,copy_spec hN Om hq hr,app_eq (by simp;omega)];have h32: ¬(l.length:Int)≥32:=by omega
 simp only[bind,Option.bind_some,Bool.not_true,Bool.false_eq_true,if_false,Option.isSome_none,h32,decide_false];rw[Nd.of_eq,mset_new hf]
theorem add_ref(hN:9300000000000000000≤N){B:Bk}{s:ByteArray}{t:Nd}(hn:nmB (sl s)=true)(hc:cnt t<700)(hr:rtT t=true)(hf: ∀e∈B,e.1≠s)(hl:B.length<32):
 F_107 N B s t.un.1 t.un.2.1.1 t.un.2.1.2.1 t.un.2.1.2.2.1 t.un.2.1.2.2.2 t.un.2.2.1 t.un.2.2.2.1 t.un.2.2.2.2.1 t.un.2.2.2.2.2=some (B++ [(s,t)],0):=by
 unfold F_107;rw[nm_ref hN,hn,right_ref hN Om,hr,find_ref Om Om,fnd_none (fnd_app hf),app_eq (by simp;omega)];have h32: ¬(B.length:Int)≥32:=by omega
 simp only[bind,Option.bind_some,Bool.not_true,Bool.false_eq_true,if_false,h32,decide_false,List.nil_append];rw[if_neg (by decide),app_eq (by simp;omega),Nd.of_eq];rfl
theorem bk_take{Ls:List Lt}{i:Nat}{x:Lt}(h:Ls[i]? =some x):bk (Ls.take (i+1))=bk (Ls.take i)++ [(x.1,x.2.1)]:=by
 unfold bk;rw[List.take_succ_eq_append_getElem (lt_len h),List.map_append,(List.getElem?_eq_some_iff.1 h).2];rfl
theorem map_take1{Ls:List Lt}{i:Nat}{x:Lt}(h:Ls[i]? =some x):(Ls.take (i+1)).map (·.1)=(Ls.take i).map (·.1)++ [x.1]:=by
 rw[List.take_succ_eq_append_getElem (lt_len h),List.map_append,(List.getElem?_eq_some_iff.1 h).2];rfl
structure LR(Ls:List Lt):Prop where
 q: ∀x∈Ls,LQ x
 r: ∀x∈Ls,rtT x.2.1=true
 n: ∀x∈Ls,nmB (sl x.1)=true
 nd:(Ls.map (·.1)).Nodup
 l:Ls.length≤32
theorem LR.apart{Ls:List Lt}(h:LR Ls){i:Nat}{x:Lt}(hx:Ls[i]? =some x): ∀e∈bk (Ls.take i),e.1≠x.1:=fun e he=>by
 unfold bk at he;obtain⟨y,hy,rfl⟩:=List.mem_map.1 he;obtain⟨j,hj⟩:=List.mem_iff_getElem?.1 hy;rw[List.getElem?_take]at hj;split at hj
 ·rename_i hlt;have h1:(Ls.map (·.1))[j]? =some y.1:=by rw[List.getElem?_map,hj];rfl
  have h2:(Ls.map (·.1))[i]? =some x.1:=by rw[List.getElem?_map,hx];rfl
  intro he;have he:y.1=x.1:=he;have:=(List.getElem?_inj (lt_len h1) h.nd).1 (h1.trans (he▸h2.symm));omega
 cases hj
theorem book_code(hN:9300000000000000000≤N){Ls:List Lt}(h:LR Ls):
 iterO N (fun s=>F_48 N Ls s.1 s.2.1 s.2.2) (0,[],([]:List (ByteArray×Nd)))=some (.inl (Ls.map (·.1),bk Ls)):=by
 have hl:=h.l;refine iterO_for0 (f:=fun s=>F_48 N Ls s.1 s.2.1 s.2.2) (fun i=>((i:Int),(Ls.take i).map (·.1),bk (Ls.take i))) Ls.length (by simp[bk]) Om (fun i hi=>?_) ?_
 ·have hx:Ls[i]? =some Ls[i]:=List.getElem?_eq_getElem hi;generalize Ls[i]=x at hx;have hm:=List.mem_of_getElem? hx;show F_48 N Ls (i:Int) ((Ls.take i).map (·.1)) (bk (Ls.take i))=_;unfold F_48;rw[if_pos (by simpa using hi),idx_of hx];simp only[bind,Option.bind_some];rw[add_code hN (h.q x hm).n (h.n x hm) (h.q x hm).c (h.q x hm).q (h.r x hm) (h.apart hx) (by simp;omega),bk_take hx,map_take1 hx,w64_succ Om];rfl
 show F_48 N Ls (Ls.length:Int) _ _=_;unfold F_48;rw[if_neg Sm,List.take_length]
theorem book_ref(hN:9300000000000000000≤N){Ls:List Lt}(h:LR Ls):
 iterO N (fun s=>F_47 N Ls s.1 s.2) (0,[])=some (bk Ls):=by
 have hl:=h.l;refine iterO_for0 (f:=fun s=>F_47 N Ls s.1 s.2) (fun i=>((i:Int),bk (Ls.take i))) Ls.length (by simp[bk]) Om (fun i hi=>?_) ?_
 ·have hx:Ls[i]? =some Ls[i]:=List.getElem?_eq_getElem hi;generalize Ls[i]=x at hx;have hm:=List.mem_of_getElem? hx;show F_47 N Ls (i:Int) (bk (Ls.take i))=_;unfold F_47;rw[if_pos (by simpa using hi),idx_of hx];simp only[bind,Option.bind_some];rw[add_ref hN (h.n x hm) (h.q x hm).c (h.r x hm) (h.apart hx) (by simp[bk];omega),bk_take hx,w64_succ Om];rfl
 show F_47 N Ls (Ls.length:Int) _=_;unfold F_47;rw[if_neg Sm,List.take_length]
theorem LR.book{Ls:List Lt}(h:LR Ls):BOk (bk Ls):=⟨by simp[bk];exact h.l,fun e he=>by
 unfold bk at he;obtain⟨x,hx,rfl⟩:=List.mem_map.1 he;exact⟨okA_of 1 _ (RT.of (h.r x hx)),(h.q x hx).q,(h.q x hx).c⟩⟩
abbrev Rl:=LI×Nd×Int×Int
def condB(C cs:List ByteArray)(i:Nat):Bool:=match C[i]? with|some c=>memB cs c|none=>false
def condI(C cs:List ByteArray):LI:=((List.range C.length).filter (condB C cs)).map fun(i:Nat)=>(i:Int)
theorem condB_at{C cs:List ByteArray}{i:Nat}{c:ByteArray}(h:C[i]? =some c):condB C cs i=memB cs c:=by
 unfold condB;rw[h]
theorem plc_at{C:List ByteArray}(hC:C.Nodup){i:Nat}{c:ByteArray}(h:C[i]? =some c):plc C c=(i:Int):=by
 obtain⟨j,e,hj,_⟩:=plc_some (List.mem_of_getElem? h);rw[e];have:=(List.getElem?_inj (lt_len hj) hC).1 (hj.trans h.symm);omega
theorem plc_nodup{C:List ByteArray}: ∀{cs:List ByteArray},cs.Nodup→(∀c∈cs,c∈C)→(cs.map (plc C)).Nodup
 | [],_,_=>by simp
 |c::cs,hn,hm=>by
   rw[List.nodup_cons]at hn;rw[List.map_cons,List.nodup_cons];refine⟨fun h=>?_,plc_nodup hn.2 fun x hx=>hm x (List.mem_cons_of_mem _ hx)⟩;obtain⟨x,hx,he⟩:=List.mem_map.1 h;obtain⟨i,e1,h1,_⟩:=plc_some (hm c (List.mem_cons_self ..));obtain⟨j,e2,h2,_⟩:=plc_some (hm x (List.mem_cons_of_mem _ hx));rw[e1,e2]at he;have:i=j:=by omega
   subst this;rw[h1]at h2;exact hn.1 (Option.some.inj h2▸hx)
theorem condI_lt(C cs:List ByteArray):List.Pairwise (fun a b=>a<b) (condI C cs):=by
 unfold condI;rw[List.pairwise_map];exact(List.pairwise_lt_range.filter _).imp fun h=>by omega
theorem condI_mem{C cs:List ByteArray}{x:Int}:x∈condI C cs↔ ∃(i:Nat) (c:ByteArray),x=(i:Int)∧C[i]? =some c∧c∈cs:=by
 unfold condI;rw[List.mem_map];constructor
 ·rintro⟨i,hi,rfl⟩;rw[List.mem_filter]at hi;obtain⟨_,h2⟩:=hi;unfold condB at h2
  cases hc:C[i]? with
  |none=>rw[hc]at h2;cases h2
  |some c=>rw[hc]at h2;exact⟨i,c,rfl,hc,memB_iff.1 h2⟩
 rintro⟨i,c,rfl,hc,hm⟩;refine⟨i,?_,rfl⟩;rw[List.mem_filter];refine⟨by simpa using lt_len hc,?_⟩;rw[condB_at hc];exact memB_iff.2 hm
theorem sort_conds{C cs:List ByteArray}(hC:C.Nodup)(hcs:cs.Nodup)(hm: ∀c∈cs,c∈C)(hl:cs.length≤1000):sortI (cs.map (plc C))=some (condI C cs):=by
 unfold sortI;rw[if_pos (by simp;omega)]
 congr 1
 have hp:=List.mergeSort_perm (cs.map (plc C)) (fun x y=>decide (x≤y));have hnd:(condI C cs).Nodup:=List.nodup_iff_pairwise_ne.2 ((condI_lt C cs).imp fun h=>by omega);refine List.Perm.eq_of_pairwise (le:=fun a b=>a≤b) (fun a b _ _ h1 h2=>by omega) ?_ ((condI_lt C cs).imp fun h=>by omega) (hp.trans ((List.perm_ext_iff_of_nodup (plc_nodup hcs hm) hnd).2 fun x=>?_))
 ·exact(List.pairwise_mergeSort (le:=fun x y:Int=>decide (x≤y)) (fun a b c h1 h2=>by simp at*;omega) (fun a b=>by simp;omega) _).imp fun h=>by simpa using h
 rw[condI_mem,List.mem_map];constructor
 ·rintro⟨c,hc,rfl⟩;obtain⟨i,e,hi,_⟩:=plc_some (hm c hc);exact⟨i,c,e,hi,hc⟩
 rintro⟨i,c,rfl,hi,hc⟩;exact⟨c,hc,plc_at hC hi⟩
theorem cond_code(hN:9300000000000000000≤N){C nm:List ByteArray}{R:List Rl}(hC:C.length≤1000000)(s:ByteArray):F_98 N C nm R s=some (plc C s):=by
 unfold F_98;rw[index_spec hN hC];rfl
theorem conds_code(hN:9300000000000000000≤N){C nm l cs:List ByteArray}{R:List Rl}{B:Bk}(hC:C.Nodup)(hcs:cs.Nodup)(hl:cs.length≤1000)(hCl:C.length≤1000000):
 F_27 N C nm R l B cs=some (if cs.all (memB C)then(condI C cs,0)else([],15)):=by
 unfold F_27
 have key: ∀(r i K:Nat) (acc:LI),i+r=cs.length→r<K→acc.length=i→
  iterO K (fun s=>F_60 N C nm R cs s.1 s.2) ((i:Int),acc)=some (if(cs.drop i).all (memB C)then .inl (acc++(cs.drop i).map (plc C))else .inr ([],15)):=by
  intro r
  induction r with
  |zero=>
    intro i K acc hi hK ha;obtain⟨K,rfl⟩: ∃m,K=m+1:=⟨K-1,by omega⟩;rw[List.drop_eq_nil_of_le Om];simp only[iterO,F_60];rw[if_neg (by simp;omega)];simp
  |succ r ih=>
    intro i K acc hi hK ha;obtain⟨K,rfl⟩: ∃m,K=m+1:=⟨K-1,by omega⟩;have hlt:i<cs.length:=by omega
    have hx:cs[i]? =some cs[i]:=List.getElem?_eq_getElem hlt;rw[List.drop_eq_getElem_cons hlt];generalize cs[i]=x at hx
    have hs:F_60 N C nm R cs (i:Int) acc=some (if memB C x=true then .inl (((i+1:Nat):Int),acc++ [plc C x])else .inr (.inr ([],15))):=by
     unfold F_60;rw[if_pos (by simpa using hlt),idx_of hx];simp only[bind,Option.bind_some];rw[cond_code hN hCl];simp only[Option.bind_some];rw[plc_lt,app_eq (by simp;omega),w64_succ Om];cases memB C x<;>rfl
    simp only[iterO,hs,List.all_cons,List.map_cons]
    cases hc:memB C x with
    |false=>simp
    |true=>
      simp only[if_true,Bool.true_and];rw[ih (i+1) K (acc++ [plc C x]) Om Om (by simp[ha])];simp
 have g:=key cs.length 0 N [] Om Om rfl;rw[List.drop_zero,List.nil_append]at g;rw[show iterO N (fun s=>F_60 N C nm R cs s.1 s.2) (0,[])=_ from g]
 cases h:cs.all (memB C)with
 |false=>rfl
 |true=>
   simp only[if_true,bind,Option.bind_some];rw[sort_conds hC hcs (fun c hc=>memB_iff.1 (List.all_eq_true.1 h c hc)) hl];rfl
end
open Go Go.Eng
set_option maxRecDepth 100000
def ruleP(C:List ByteArray)(B:Bk)(x:On)(nms:List ByteArray)(rs:List Rl):SE ⊕ (List ByteArray×List Rl):=
 if x.1.all (memB C)=true then
  if decide (x.2.2.1.2.size=0)=true∨memB C x.2.2.1.2=true then
   match spr B 60 x.2.1 1 0 []with
   | .inl e=> .inl e
   | .inr (u,_)=>if 4000<wgt u then .inl .lim else
     .inr (if decide (x.2.2.1.1.size=0)=true∨memB nms x.2.2.1.1=true then nms else nms++ [x.2.2.1.1],
      rs++ [(condI C x.1,u,if decide (x.2.2.1.1.size=0)=true then-1 else if memB nms x.2.2.1.1=true then plc nms x.2.2.1.1 else(nms.length:Int),if decide (x.2.2.1.2.size=0)=true then-1 else plc C x.2.2.1.2)])
  else .inl .none
 else .inl .none
structure OR(x:On):Prop where
 q:OQ x
 r:rtT x.2.1=true
 nd:x.1.Nodup
theorem OR.gt{x:On}(h:OR x):GT x.2.1:=⟨okA_of 1 _ (RT.of h.r),h.q.q,h.q.o.t⟩
theorem PI.nil(B:Bk):PI B []:=⟨List.nodup_nil,fun _ h=>by cases h⟩
theorem plc_new{l:List ByteArray}{s:ByteArray}(h:memB l s=false):plc (l++ [s]) s=(l.length:Int):=by
 unfold plc
 have:(l++ [s]).findIdx? (fun x=>decide (x=s))=some l.length:=by
  rw[List.findIdx?_eq_some_iff_getElem];refine⟨by simp,by simp,fun j hj=>?_⟩;rw[List.getElem_append_left hj];simp;exact fun e=>memB_f.1 h (e▸List.getElem_mem hj)
 rw[this]
section
variable {N:Nat}{C:List ByteArray}{B:Bk}
theorem made1(hB:BOk B){x:On}(h:OR x){u:Nd}{m':Nat}(hs:spr B 60 x.2.1 1 0 []= .inr (u,m')):Made 1 0 u m':=spr_made hB.g 60 x.2.1 1 0 [] u m' h.gt Om hs
theorem Made.rt{u:Nd}{m':Nat}(h:Made 1 0 u m'):rtT u=true∧cnt u≤600:=by
 have:=h.m;have:=h.le;exact⟨rtT_of h.r Om,by omega⟩
theorem Made.w{u:Nd}{m':Nat}(hN:9300000000000000000≤N)(h:Made 1 0 u m'):
 F_99 N u.un.1 u.un.2.1.1 u.un.2.1.2.1 u.un.2.1.2.2.1 u.un.2.1.2.2.2 u.un.2.2.1 u.un.2.2.2.1 u.un.2.2.2.2.1 u.un.2.2.2.2.2=some (wgt u)∧
 F_12 N u.un.1 u.un.2.1.1 u.un.2.1.2.1 u.un.2.1.2.2.1 u.un.2.1.2.2.2 u.un.2.2.1 u.un.2.2.2.1 u.un.2.2.2.2.1 ByteArray.empty=some (wgt u):=by
 obtain⟨h1,h2⟩:=h.rt;refine⟨weight_code hN Om h.q h1,?_⟩;have:=weight_ref _ u rfl 1 N h.r Om Om;rw[show u.un.2.2.2.2.2=ByteArray.empty from h.tx]at this;exact this
theorem sp_code(hN:9400000000000000000≤N)(hB:BOk B){x:On}(h:OR x)(nm:List ByteArray):
 match spr B 60 x.2.1 1 0 []with
 | .inl e=>F_93 N nm B x.2.1.un.1 x.2.1.un.2.1.1 x.2.1.un.2.1.2.1 x.2.1.un.2.1.2.2.1 x.2.1.un.2.1.2.2.2 x.2.1.un.2.2.1 x.2.1.un.2.2.2.1 x.2.1.un.2.2.2.2.1 x.2.1.un.2.2.2.2.2=some (0,0,0,0,0,[],0,0,ByteArray.empty,e.code)
 | .inr (u,_)=>F_93 N nm B x.2.1.un.1 x.2.1.un.2.1.1 x.2.1.un.2.1.2.1 x.2.1.un.2.1.2.2.1 x.2.1.un.2.1.2.2.2 x.2.1.un.2.2.1 x.2.1.un.2.2.2.1 x.2.1.un.2.2.2.2.1 x.2.1.un.2.2.2.2.2=
  some (u.un.1,u.un.2.1.1,u.un.2.1.2.1,u.un.2.1.2.2.1,u.un.2.1.2.2.2,u.un.2.2.1,u.un.2.2.2.1,u.un.2.2.2.2.1,u.un.2.2.2.2.2,0):=by
 have g:=spread_code (nm:=nm) hB 60 x.2.1 1 0 N [] h.gt (PI.nil B) Om Om Sm Om;unfold F_93;rw[right_code Om (by have:=h.q.o.t;omega) h.q.q,h.r];simp only[bind,Option.bind_some,Bool.not_true,Bool.false_eq_true,if_false]
 cases hs:spr B 60 x.2.1 1 0 []with
 |inl e=>
   rw[hs]at g;obtain⟨m',v,g⟩:=g;have g:F_2 N nm B 0 [] 0 x.2.1.un.1 x.2.1.un.2.1.1 x.2.1.un.2.1.2.1 x.2.1.un.2.1.2.2.1 x.2.1.un.2.1.2.2.2 x.2.1.un.2.2.1 x.2.1.un.2.2.2.1 x.2.1.un.2.2.2.2.1 x.2.1.un.2.2.2.2.2 1=_:=g;simp only;rw[g];simp only[Option.bind_some,e.ok,if_true]
 |inr q=>
   obtain⟨u,m'⟩:=q;rw[hs]at g;have g:F_2 N nm B 0 [] 0 x.2.1.un.1 x.2.1.un.2.1.1 x.2.1.un.2.1.2.1 x.2.1.un.2.1.2.2.1 x.2.1.un.2.1.2.2.2 x.2.1.un.2.2.1 x.2.1.un.2.2.2.1 x.2.1.un.2.2.2.2.1 x.2.1.un.2.2.2.2.2 1=_:=g;simp only;rw[g];rfl
theorem rule_code(hN:9400000000000000000≤N)(hB:BOk B){x:On}(h:OR x)(hC:C.Nodup)(hCl:C.length≤20){nms l:List ByteArray}{rs:List Rl}(hn:nms.length≤1000)(hr:rs.length≤1000):
 F_110 N C nms rs l B x.1 x.2.1.un.1 x.2.1.un.2.1.1 x.2.1.un.2.1.2.1 x.2.1.un.2.1.2.2.1 x.2.1.un.2.1.2.2.2 x.2.1.un.2.2.1 x.2.1.un.2.2.2.1 x.2.1.un.2.2.2.2.1 x.2.1.un.2.2.2.2.2 x.2.2.1.1 x.2.2.1.2 x.2.2.2=
  some (match ruleP C B x nms rs with| .inl e=>(nms,rs,e.code)| .inr q=>(q.1,q.2,0)):=by
 have hc:=h.q.o.c;unfold F_110 ruleP;rw[conds_code Om hC h.nd Om Om];simp only[bind,Option.bind_some]
 cases h1:x.1.all (memB C)with
 |false=>rfl
 |true=>
   simp only[if_true];rw[if_neg (by decide),ba_ne,ba_emp,cond_code Om Om];simp only[Option.bind_some];rw[plc_lt]
   have hbeg:((if(!decide (x.2.2.1.2.size=0))=true then(if(!memB C x.2.2.1.2)=true then some (.inr (nms,rs,15))else some (.inl (plc C x.2.2.1.2)))else some (.inl (-1)):Option (Int ⊕ (List ByteArray×List Rl×Int))))=
    if decide (x.2.2.1.2.size=0)=true∨memB C x.2.2.1.2=true then some (.inl (if decide (x.2.2.1.2.size=0)=true then-1 else plc C x.2.2.1.2))else some (.inr (nms,rs,15)):=by
    cases decide (x.2.2.1.2.size=0)<;>cases memB C x.2.2.1.2<;>rfl
   rw[hbeg];by_cases h2:decide (x.2.2.1.2.size=0)=true∨memB C x.2.2.1.2=true
   ·rw[if_pos h2,if_pos h2];simp only[Option.bind_some];have g:=sp_code hN hB h l
    cases hs:spr B 60 x.2.1 1 0 []with
    |inl e=>
      rw[hs]at g;simp only at g;rw[g];simp only[Option.bind_some,e.ok,if_true]
    |inr q=>
      obtain⟨u,m'⟩:=q;have hm:=made1 hB h hs;rw[hs]at g;simp only at g;rw[g];simp only[Option.bind_some];rw[if_neg (by decide),(hm.w (N:=N) Om).1];simp only[Option.bind_some];by_cases hw:4000<wgt u
      ·rw[if_pos (by simpa using hw),if_pos hw];rfl
      rw[if_neg (by simpa using hw),if_neg hw];unfold F_121;rw[emp_sl,index_spec Om Om];simp only[bind,Option.bind_some];rw[plc_ge,Nd.of_eq]
      cases h3:decide (x.2.2.1.1.size=0)with
      |true=>
        simp only[if_true,Option.bind_some,true_or];rw[app_eq (by simp;omega)];rfl
      |false=>
        simp only[Bool.false_eq_true,if_false,false_or]
        cases h4:memB nms x.2.2.1.1 with
        |true=>
          simp only[if_true,Option.bind_some];rw[app_eq (by simp;omega)];rfl
        |false=>
          simp only[Bool.false_eq_true,if_false];rw[app_eq (by simp;omega)];simp only[Option.bind_some];rw[app_eq (by simp;omega),show w64 (((nms++ [x.2.2.1.1]).length:Int)-1)=(nms.length:Int) by rw[w64,wrap64]<;>simp<;>omega];rfl
   rw[if_neg h2,if_neg h2];rfl
theorem sp_ref(hN:9400000000000000000≤N)(hB:BOk B){x:On}(h:OR x):
 match spr B 60 x.2.1 1 0 []with
 | .inl e=> ∃m':Int,F_1 N B x.2.1.un.1 x.2.1.un.2.1.1 x.2.1.un.2.1.2.1 x.2.1.un.2.1.2.2.1 x.2.1.un.2.1.2.2.2 x.2.1.un.2.2.1 x.2.1.un.2.2.2.1 x.2.1.un.2.2.2.2.1 x.2.1.un.2.2.2.2.2 1 0 []=some (0,0,0,0,0,[],0,0,m',e.num)
 | .inr (u,m')=>F_1 N B x.2.1.un.1 x.2.1.un.2.1.1 x.2.1.un.2.1.2.1 x.2.1.un.2.1.2.2.1 x.2.1.un.2.1.2.2.2 x.2.1.un.2.2.1 x.2.1.un.2.2.2.1 x.2.1.un.2.2.2.2.1 x.2.1.un.2.2.2.2.2 1 0 []=
  some (u.un.1,u.un.2.1.1,u.un.2.1.2.1,u.un.2.1.2.2.1,u.un.2.1.2.2.2,u.un.2.2.1,u.un.2.2.2.1,u.un.2.2.2.2.1,(m':Int),0):=by
 have g:=spread_ref hB 60 x.2.1 1 0 N [] h.gt (PI.nil B) Om Om Sm Om
 cases hs:spr B 60 x.2.1 1 0 []with
 |inl e=>rw[hs]at g;exact g
 |inr q=>rw[hs]at g;exact g
theorem l2_ref(hN:9400000000000000000≤N){x:On}(hl:x.1.length≤1000)(hCl:C.length≤20):
 iterO N (fun s=>F_76 N C x s) 0=some (if x.1.all (memB C)then .inl ()else .inr (.inr (.inr (.inr (.inl (x.2.2.2,15)))))):=by
 rw[loop_any x.1 (fun c=> !memB C c) (.inr (.inr (.inr (.inl (x.2.2.2,15))))) Om (fun i c hx=>by
  have hi:=lt_len hx;unfold F_76;rw[if_pos (by simpa using hi),idx_of hx];simp only[bind,Option.bind_some];rw[place_spec Om Om];simp only[Option.bind_some];rw[plc_lt,w64_succ Om]) (by unfold F_76;simp)]
 have:x.1.all (memB C)= !(x.1.any fun c=> !memB C c):=by
  rw[←not_any];simp
 rw[this];cases x.1.any fun c=> !memB C c<;>rfl
theorem l3_ref(hN:9400000000000000000≤N){x:On}(hl:x.1.length≤1000)(hCl:C.length≤20):
 iterO N (fun s=>F_66 N C x s.1 s.2) ([],0)=some (condI C x.1):=by
 refine iterO_for0 (f:=fun s=>F_66 N C x s.1 s.2) (fun i=>(((List.range i).filter (condB C x.1)).map (fun(i:Nat)=>(i:Int)),(i:Int))) C.length Sm Om (fun i hi=>?_) ?_
 ·have hx:C[i]? =some C[i]:=List.getElem?_eq_getElem hi;generalize C[i]=c at hx
  have st:(List.range (i+1)).filter (condB C x.1)=(List.range i).filter (condB C x.1)++(if memB x.1 c=true then [i]else []):=by
   rw[List.range_succ,List.filter_append,List.filter_cons,List.filter_nil,condB_at hx]
  rw[st];have hf:=List.length_filter_le (condB C x.1) (List.range i);rw[List.length_range]at hf;unfold F_66;rw[if_pos (by simpa using hi),idx_of hx];simp only[bind,Option.bind_some];rw[place_spec Om Om];simp only[Option.bind_some];rw[plc_ge,w64_succ Om];rcases Bool.eq_false_or_eq_true (memB x.1 c)with hm|hm
  ·rw[hm];simp only[if_true];rw[app_eq (by simp;omega)];simp
  rw[hm];simp
 unfold F_66;rw[if_neg Sm];rfl
theorem rule_ref(hN:9400000000000000000≤N)(hB:BOk B){Os:List On}{x:On}{i:Nat}(hx:Os[i]? =some x)(hO:Os.length≤1000)(h:OR x)(hCl:C.length≤20){nms:List ByteArray}{rs:List Rl}(hn:nms.length≤1000)(hr:rs.length≤1000):
 F_57 N C Os B (i:Int) nms rs=some (match ruleP C B x nms rs with| .inl e=> .inr (.inr (.inl (x.2.2.2,e.num)))| .inr q=> .inl (((i+1:Nat):Int),q.1,q.2)):=by
 have hi:=lt_len hx;have hc:=h.q.o.c;unfold F_57 ruleP;rw[if_pos (by simpa using hi),idx_of hx];simp only[bind,Option.bind_some];rw[l2_ref hN Om hCl,l3_ref hN Om hCl]
 cases h1:x.1.all (memB C)with
 |false=>rfl
 |true=>
   simp only[if_true,Option.bind_some];rw[ba_ne,ba_emp,place_spec Om Om];simp only[Option.bind_some];rw[plc_lt];cases hb:decide (x.2.2.1.2.size=0)<;>cases hmb:memB C x.2.2.1.2
   case false.false=>rfl
   all_goals
    simp only[Bool.not_true,Bool.not_false,Bool.false_eq_true,if_true,if_false,Option.bind_some,true_or,or_true];have g:=sp_ref hN hB h
    cases hs:spr B 60 x.2.1 1 0 []with
    |inl e=>
      rw[hs]at g;simp only at g;obtain⟨m',g⟩:=g;rw[g];simp only[Option.bind_some,e.ne,if_true]
    |inr q=>
      obtain⟨u,m'⟩:=q;have hm:=made1 hB h hs;rw[hs]at g;simp only at g;rw[g];simp only[Option.bind_some];rw[if_neg (by decide),(hm.w (N:=N) Om).2];simp only[Option.bind_some];by_cases hw:4000<wgt u
      ·rw[if_pos (by simpa using hw),if_pos hw];rfl
      rw[if_neg (by simpa using hw),if_neg hw];rw[ba_ne,ba_emp,place_spec Om Om];simp only[Option.bind_some];rw[plc_lt,←show u.un.2.2.2.2.2=ByteArray.empty from hm.tx,Nd.of_eq,app_eq (by simp;omega),w64_succ Om];simp only[Option.bind_some,List.nil_append];rw[app_eq (by simp;omega)]
      cases h3:decide (x.2.2.1.1.size=0)with
      |true=>
        simp only[Bool.not_true,Bool.false_eq_true,if_false,Option.bind_some,if_true,true_or];rw[app_eq (by simp;omega)];simp only[Option.bind_some,List.nil_append];rw[app_eq (by simp;omega)];rfl
      |false=>
        simp only[Bool.not_false,Bool.false_eq_true,if_false,if_true,false_or]
        cases h4:memB nms x.2.2.1.1 with
        |true=>
          simp only[Bool.not_true,Bool.false_eq_true,if_true,if_false,Option.bind_some];rw[place_spec Om Om];simp only[Option.bind_some];rw[app_eq (by simp;omega)];simp only[Option.bind_some,List.nil_append];rw[app_eq (by simp;omega)];rfl
        |false=>
          simp only[Bool.not_false,Bool.false_eq_true,if_true,if_false,Option.bind_some];rw[app_eq (by simp;omega)];simp only[Option.bind_some];rw[place_spec Om (by simp;omega),plc_new h4];simp only[Option.bind_some];rw[app_eq (by simp;omega)];simp only[Option.bind_some,List.nil_append]
end
open Go Go.Eng
set_option maxRecDepth 100000
def rulesP(C:List ByteArray)(B:Bk):List On→List ByteArray→List Rl→(Int×SE) ⊕ (List ByteArray×List Rl)
 | [],n,r=> .inr (n,r)
 |x::l,n,r=>match ruleP C B x n r with
   | .inl e=> .inl (x.2.2.2,e)
   | .inr q=>rulesP C B l q.1 q.2
structure RlOk(r:Rl):Prop where
 t:rtT r.2.1=true
 c:cnt r.2.1≤600
 q:NdQ r.2.1
 l:r.1.length≤20
theorem condI_len(C cs:List ByteArray):(condI C cs).length≤C.length:=by
 unfold condI;rw[List.length_map];have:=List.length_filter_le (condB C cs) (List.range C.length);simpa using this
theorem ruleP_ok{C:List ByteArray}{B:Bk}(hB:BOk B){x:On}(h:OR x)(hC:C.length≤20){nms:List ByteArray}{rs:List Rl}{q:List ByteArray×List Rl}(hq:ruleP C B x nms rs= .inr q):
 q.1.length≤nms.length+1∧ ∃r,q.2=rs++ [r]∧RlOk r:=by
 unfold ruleP at hq;split at hq
 ·split at hq
  ·split at hq
   ·cases hq
   rename_i u m' hs;split at hq
   ·cases hq
   have hq:=Sum.inr.inj hq;subst hq;have hm:=made1 hB h hs;refine⟨?_,_,rfl,hm.rt.1,hm.rt.2,hm.q,?_⟩
   ·show(if _ then nms else nms++ [x.2.2.1.1]).length≤_;split<;>simp
   have:=condI_len C x.1;show(condI C x.1).length≤20;omega
  cases hq
 cases hq
section
variable {N:Nat}{C:List ByteArray}{B:Bk}
theorem rules_code(hN:9400000000000000000≤N)(hB:BOk B)(hC:C.Nodup)(hCl:C.length≤20){Os:List On}(hO:Os.length≤60)(h: ∀x∈Os,OR x)(l:List ByteArray): ∀(r i K:Nat) (nms:List ByteArray) (rs:List Rl),i+r=Os.length→r<K→nms.length≤i→rs.length=i→
 iterO K (fun s=>F_59 N Os C l B s.1 s.2.1 s.2.2) (nms,rs,(i:Int))=some (match rulesP C B (Os.drop i) nms rs with| .inl (a,e)=> .inr ([],[],[],a,e.code)| .inr q=> .inl q):=by
 intro r
 induction r with
 |zero=>
   intro i K nms rs hi hK hn hr;obtain⟨K,rfl⟩: ∃m,K=m+1:=⟨K-1,by omega⟩;rw[List.drop_eq_nil_of_le Om];simp only[iterO,F_59,rulesP];rw[if_neg (by simp;omega)]
 |succ r ih=>
   intro i K nms rs hi hK hn hr;obtain⟨K,rfl⟩: ∃m,K=m+1:=⟨K-1,by omega⟩;have hlt:i<Os.length:=by omega
   have hx:Os[i]? =some Os[i]:=List.getElem?_eq_getElem hlt;rw[List.drop_eq_getElem_cons hlt];generalize Os[i]=x at hx;have ho:=h x (List.mem_of_getElem? hx)
   have hs:F_59 N Os C l B nms rs (i:Int)=some (match ruleP C B x nms rs with| .inl e=> .inr (.inr ([],[],[],x.2.2.2,e.code))| .inr q=> .inl (q.1,q.2,((i+1:Nat):Int))):=by
    unfold F_59;rw[if_pos (by simpa using hlt),idx_of hx];simp only[bind,Option.bind_some];rw[rule_code hN hB ho hC hCl Om Om,w64_succ Om]
    cases hq:ruleP C B x nms rs with
    |inl e=>simp only[Option.bind_some,e.ok,if_true]
    |inr q=>rfl
   simp only[iterO,hs,rulesP]
   cases hq:ruleP C B x nms rs with
   |inl e=>rfl
   |inr q=>
     obtain⟨h1,rr,h2,_⟩:=ruleP_ok hB ho hCl hq;exact ih (i+1) K q.1 q.2 Om Om Om (by rw[h2];simp[hr])
theorem rules_ref(hN:9400000000000000000≤N)(hB:BOk B)(hCl:C.length≤20){Os:List On}(hO:Os.length≤60)(h: ∀x∈Os,OR x): ∀(r i K:Nat) (nms:List ByteArray) (rs:List Rl),i+r=Os.length→r<K→nms.length≤i→rs.length=i→
 iterO K (fun s=>F_57 N C Os B s.1 s.2.1 s.2.2) ((i:Int),nms,rs)=some (match rulesP C B (Os.drop i) nms rs with| .inl (a,e)=> .inr (.inl (a,e.num))| .inr q=> .inl q):=by
 intro r
 induction r with
 |zero=>
   intro i K nms rs hi hK hn hr;obtain⟨K,rfl⟩: ∃m,K=m+1:=⟨K-1,by omega⟩;rw[List.drop_eq_nil_of_le Om];simp only[iterO,F_57,rulesP];rw[if_neg (by simp;omega)]
 |succ r ih=>
   intro i K nms rs hi hK hn hr;obtain⟨K,rfl⟩: ∃m,K=m+1:=⟨K-1,by omega⟩;have hlt:i<Os.length:=by omega
   have hx:Os[i]? =some Os[i]:=List.getElem?_eq_getElem hlt;rw[List.drop_eq_getElem_cons hlt];generalize Os[i]=x at hx;have ho:=h x (List.mem_of_getElem? hx);simp only[iterO,rule_ref hN hB hx Om ho hCl (show nms.length≤1000 by omega) (show rs.length≤1000 by omega),rulesP]
   cases hq:ruleP C B x nms rs with
   |inl e=>rfl
   |inr q=>
     obtain⟨h1,rr,h2,_⟩:=ruleP_ok hB ho hCl hq;exact ih (i+1) K q.1 q.2 Om Om Om (by rw[h2];simp[hr])
theorem rulesP_ok(hB:BOk B)(hCl:C.length≤20): ∀{Os:List On} {nms:List ByteArray} {rs:List Rl} {q:List ByteArray×List Rl},(∀x∈Os,OR x)→rulesP C B Os nms rs= .inr q→(∀r∈rs,RlOk r)→
 q.1.length≤nms.length+Os.length∧q.2.length=rs.length+Os.length∧ ∀r∈q.2,RlOk r
 | [],nms,rs,q,_,h,hr=>by
   simp only[rulesP,Sum.inr.injEq]at h;subst h;exact⟨by simp,by simp,hr⟩
 |x::Os,nms,rs,q,hO,h,hr=>by
   simp only[rulesP]at h
   cases hq:ruleP C B x nms rs with
   |inl e=>rw[hq]at h;cases h
   |inr p=>
     rw[hq]at h;obtain⟨h1,rr,h2,h3⟩:=ruleP_ok hB (hO x (List.mem_cons_self ..)) hCl hq
     obtain⟨a,b,c⟩:=rulesP_ok hB hCl (fun y hy=>hO y (List.mem_cons_of_mem _ hy)) h (by
      rw[h2];intro r hr';rcases List.mem_append.1 hr' with hr'|hr'
      ·exact hr r hr'
      obtain rfl:=List.mem_singleton.1 hr';exact h3)
     rw[h2]at b;simp only[List.length_append,List.length_cons,List.length_nil]at b ⊢;exact⟨by omega,by omega,c⟩
end
theorem num_at(hN:100≤N){c:Int}(n:Nat)(hn:n<18)(hc:eOk errIds c=true)(hb: ∀i,i<n→F_45 N c (i:Int)=some (.inl ((i+1:Nat):Int)))(he:F_45 N c (n:Int)=some (.inr (.inr ((n+1:Nat):Int)))):
 F_9 N c=some ((n+1:Nat):Int):=by
 unfold F_9;rw[if_neg (by simp[hc])];have h:=iterO_for0 (f:=fun s=>F_45 N c s) (fun i=>(i:Int)) n (r:=(.inr ((n+1:Nat):Int):Unit ⊕ Int)) (N:=N) rfl Om hb he;rw[show iterO N (fun s=>F_45 N c s) 0=_ from h];rfl
theorem num_step{c k:Int}{i:Nat}(hi:i<18)(hk:idx ([3,4,5,1,6,7,8,9,2,10,11,12,13,14,15,16,17,18]:LI) (i:Int)=some k){b:Bool}(hb:isO errIds c k=some b):
 F_45 N c (i:Int)=some (if b=true then .inr (.inr ((i+1:Nat):Int))else .inl ((i+1:Nat):Int)):=by
 unfold F_45;rw[if_pos (by simp;omega),hk];simp only[bind,Option.bind_some];rw[hb,w64_succ Om];cases b<;>rfl
theorem num_of(hN:100≤N){c:Int}(n:Nat)(hn:n<18)(hc:eOk errIds c=true)(k:Nat→Int)(hk: ∀i,i≤n→idx ([3,4,5,1,6,7,8,9,2,10,11,12,13,14,15,16,17,18]:LI) (i:Int)=some (k i))
 (hb: ∀i,i<n→isO errIds c (k i)=some false) (he:isO errIds c (k n)=some true):F_9 N c=some ((n+1:Nat):Int):=
 num_at hN n hn hc (fun i hi=>by rw[num_step Om (hk i Om) (hb i hi)];rfl) (by rw[num_step Om (hk n Om) he];rfl)
def kOf(i:Nat):Int:=([3,4,5,1,6,7,8,9,2,10,11,12,13,14,15,16,17,18]:LI).getD i 0
theorem num_zero(N:Nat):F_9 N 0=some 0:=by
 unfold F_9;rw[if_pos (by decide)]
theorem num_all(hN:100≤N)(n:Nat)(hn:n<18):F_9 N (kOf n)=some ((n+1:Nat):Int):=by
 have hk: ∀i:Nat,i<18→idx ([3,4,5,1,6,7,8,9,2,10,11,12,13,14,15,16,17,18]:LI) (i:Int)=some (kOf i):=by decide
 have hb: ∀n,n<18→ ∀i,i<n→isO errIds (kOf n) (kOf i)=some false:=by decide
 have he: ∀n,n<18→isO errIds (kOf n) (kOf n)=some true:=by decide
 have ho: ∀n,n<18→eOk errIds (kOf n)=true:=by decide
 exact num_of hN n hn (ho n hn) kOf (fun i hi=>hk i Om) (hb n hn) (he n hn)
theorem SE.num_code(hN:100≤N)(e:SE):F_9 N e.code=some e.num:=by
 cases e
 ·exact num_all hN 14 Om
 ·exact num_all hN 7 Om
 ·exact num_all hN 6 Om
 exact num_all hN 8 Om
open Go Go.Eng
set_option maxRecDepth 100000
section
variable {N:Nat}
theorem texts_refl(hN:9400000000000000000≤N){l:List ByteArray}(hl:l.length≤1000000):F_32 N l l=some true:=by
 unfold F_32
 rw[if_neg Sm,loop_any l (fun _=>false) false Om (fun i x hx=>by
  have hi:=lt_len hx;unfold F_83;rw[if_pos (by simpa using hi),idx_of hx];simp only[bind,Option.bind_some,bne_self_eq_false,Bool.false_eq_true,if_false];rw[w64_succ Om]) (by unfold F_83;simp)]
 have:l.any (fun _=>false)=false:=by simp
 rw[this];rfl
theorem eqs_refl(hN:9400000000000000000≤N){l:List ByteArray}(hl:l.length≤1000000):F_36 N l l=some true:=by
 unfold F_36
 rw[if_neg Sm,loop_any l (fun _=>false) false Om (fun i x hx=>by
  have hi:=lt_len hx;unfold F_103;rw[if_pos (by simpa using hi),idx_of hx];simp only[bind,Option.bind_some,bne_self_eq_false,Bool.false_eq_true,if_false];rw[w64_succ Om]) (by unfold F_103;simp)]
 have:l.any (fun _=>false)=false:=by simp
 rw[this];rfl
theorem eqi_refl(hN:9400000000000000000≤N){l:LI}(hl:l.length≤1000000):F_40 N l l=some true:=by
 unfold F_40
 rw[if_neg Sm,loop_any l (fun _=>false) false Om (fun i x hx=>by
  have hi:=lt_len hx;unfold F_102;rw[if_pos (by simpa using hi),idx_of hx];simp only[bind,Option.bind_some,bne_self_eq_false,Bool.false_eq_true,if_false];rw[w64_succ Om]) (by unfold F_102;simp)]
 have:l.any (fun _=>false)=false:=by simp
 rw[this];rfl
theorem same_refl: ∀(c:Nat) (t:Nd),cnt t=c→ ∀N,cnt t+5≤N→cnt t<100000→
 F_64 N t.un.1 t.un.2.1.1 t.un.2.1.2.1 t.un.2.1.2.2.1 t.un.2.1.2.2.2 t.un.2.2.1 t.un.2.2.2.1 t.un.2.2.2.2.1 t.un.2.2.2.2.2
  t.un.1 t.un.2.1.1 t.un.2.1.2.1 t.un.2.1.2.2.1 t.un.2.1.2.2.2 t.un.2.2.1 t.un.2.2.2.1 t.un.2.2.2.2.1 t.un.2.2.2.2.2=some true:=by
 intro c
 induction c using Nat.strongRecOn with
 |ind c IH=>
   intro t hc N hN hb;obtain⟨M,rfl⟩: ∃m,N=m+1:=⟨N-1,by omega⟩;have hcu:=cnt_un t;have hll:=cntL_len (kd t);rw[F_64];simp only[beq_self_eq_true,if_true,bind,Option.bind_some];unfold F_35;rw[if_neg Sm]
   have e:=loop_any (f:=fun s=>F_70 M (F_64 M) (kd t) (kd t) s) (kd t) (fun _=>false) false (N:=M) Om (fun i x hx=>by
    have hi:=lt_len hx;have hm:=cnt_kid (List.mem_of_getElem? hx);unfold F_70;rw[if_pos (by simpa using hi),idx_of hx];simp only[bind,Option.bind_some];rw[IH (cnt x) Om x rfl M Om Om,w64_succ Om];rfl) (by unfold F_70;simp)
   rw[show iterO M (fun s=>F_70 M (F_64 M) t.un.2.2.1 t.un.2.2.1 s) 0=_ from e];have:(kd t).any (fun _=>false)=false:=by simp
   rw[this];rfl
theorem tsame_refl(hN:9400000000000000000≤N){t:Nd}(hc:cnt t<1000)(hq:NdQ t)(hr:rtT t=true):
 F_118 N t.un.1 t.un.2.1.1 t.un.2.1.2.1 t.un.2.1.2.2.1 t.un.2.1.2.2.2 t.un.2.2.1 t.un.2.2.2.1 t.un.2.2.2.2.1 t.un.2.2.2.2.2
  t.un.1 t.un.2.1.1 t.un.2.1.2.1 t.un.2.1.2.2.1 t.un.2.1.2.2.2 t.un.2.2.1 t.un.2.2.2.1 t.un.2.2.2.2.1 t.un.2.2.2.2.2=some true:=by
 unfold F_118;rw[right_code Om hc hq,hr,same_refl _ t rfl N Om Om];rfl
theorem rule_refl(hN:9400000000000000000≤N){r:Rl}(h:RlOk r):
 F_111 N r.1 r.2.1.un.1 r.2.1.un.2.1.1 r.2.1.un.2.1.2.1 r.2.1.un.2.1.2.2.1 r.2.1.un.2.1.2.2.2 r.2.1.un.2.2.1 r.2.1.un.2.2.2.1 r.2.1.un.2.2.2.2.1 r.2.1.un.2.2.2.2.2 r.2.2.1 r.2.2.2
  r.1 r.2.1.un.1 r.2.1.un.2.1.1 r.2.1.un.2.1.2.1 r.2.1.un.2.1.2.2.1 r.2.1.un.2.1.2.2.2 r.2.1.un.2.2.1 r.2.1.un.2.2.2.1 r.2.1.un.2.2.2.2.1 r.2.1.un.2.2.2.2.2 r.2.2.1 r.2.2.2=some true:=by
 unfold F_111;have:=h.l;have:=h.c;rw[eqi_refl hN Om,tsame_refl hN Om h.q h.t];simp
theorem rules_refl(hN:9400000000000000000≤N){C nms:List ByteArray}{R:List Rl}(hC:C.length≤1000000)(hn:nms.length≤1000000)(hR:R.length≤1000000)(h: ∀r∈R,RlOk r):F_97 N C nms R C nms R=some true:=by
 unfold F_97;rw[eqs_refl hN hC,eqs_refl hN hn];simp only[bind,Option.bind_some,if_true];unfold F_42
 rw[if_neg Sm,loop_any R (fun _=>false) false Om (fun i x hx=>by
  have hi:=lt_len hx;unfold F_101;rw[if_pos (by simpa using hi),idx_of hx];simp only[bind,Option.bind_some];rw[rule_refl hN (h x (List.mem_of_getElem? hx)),w64_succ Om];rfl) (by unfold F_101;simp)]
 have:R.any (fun _=>false)=false:=by simp
 rw[this];rfl
theorem sets_refl(hN:9400000000000000000≤N){C nms:List ByteArray}{R:List Rl}(hC:C.length≤1000000)(hn:nms.length≤1000000)(hR:R.length≤1000000)(h: ∀r∈R,RlOk r):F_34 N C nms R C nms R=some true:=by
 unfold F_34;rw[texts_refl hN hC,texts_refl hN hn];simp only[bind,Option.bind_some,Bool.not_true,Bool.false_eq_true,if_false,bne_self_eq_false]
 rw[loop_any R (fun _=>false) false Om (fun i x hx=>by
  have hi:=lt_len hx;have hr:=h x (List.mem_of_getElem? hx);have:=hr.c;have:=hr.l;unfold F_91;rw[if_pos (by simpa using hi),idx_of hx];simp only[bind,Option.bind_some,bne_self_eq_false,Bool.false_eq_true,if_false];rw[sameInts_spec Om Om,sref_refl Om Om hr.t,w64_succ Om];simp) (by unfold F_91;simp)]
 have:R.any (fun _=>false)=false:=by simp
 rw[this];rfl
theorem of14_refl(hN:9400000000000000000≤N){C Nm:List ByteArray}{R:List Rl}(hr:R.length≤1000000)(h: ∀r∈R,RlOk r):F_22 N C Nm R=some R:=by
 unfold F_22
 have:=iterO_for0 (f:=fun s:Int×List Rl=>F_51 N R s.1 s.2) (fun i=>((i:Int),R.take i)) R.length (r:=R) (s:=(0,[])) (N:=N) Sm Om
  (fun i hi=>by
   have hx:R[i]? =some R[i]:=List.getElem?_eq_getElem hi;rw[List.take_succ_eq_append_getElem hi];generalize R[i]=r at hx;have hc:=(h r (List.mem_of_getElem? hx)).c;obtain⟨ks,e1,e2⟩:=of7_spec 700 r.2.1 N Om Om Om;show F_51 N R (i:Int) (R.take i)=_;unfold F_51;rw[if_pos (by simpa using hi),idx_of hx];simp only[bind,Option.bind_some];rw[show((700:Int))=((700:Nat):Int)from rfl,e1,w64_succ Om];simp only[Option.bind_some];rw[e2 Om,Nd.of_eq,app_eq (by simp;omega)];rfl)
  (by
   show F_51 N R (R.length:Int) _=_;unfold F_51;rw[if_neg Sm,List.take_length])
 rw[this];rfl
theorem rfB_out{C:List ByteArray}{Ls:List Lt}{Os:List On}(h:rfB C Ls Os=true)(hq: ∀x∈Ls,LQ x)(hp: ∀x∈Os,OQ x):LR Ls∧(∀x∈Os,OR x)∧C.Nodup:=by
 unfold rfB at h;simp only[Bool.and_eq_true,decide_eq_true_eq,List.all_eq_true]at h;obtain⟨h1,h2,h3,h4,h5,h6,h7,h8,h9⟩:=h;refine⟨⟨hq,fun x hx=>(h1 x hx).1,fun x hx=>ulB_mem h9 _ (List.mem_map.2 ⟨x,hx,rfl⟩),ulB_nd h9,h5⟩,fun x hx=>?_,ulB_nd h8⟩;have:=h2 x hx;unfold badO at this;simp only[Bool.not_eq_true',Bool.or_eq_false_iff,Bool.not_eq_false',Bool.and_eq_true]at this;exact⟨hp x hx,this.2.2.1.1,ulB_nd this.2.1⟩
theorem check_code(hN:9400000000000000000≤N){C:List ByteArray}{Ls:List Lt}{Os:List On}(hz:Fsz C Ls Os)(hq: ∀x∈Ls,LQ x)(hp: ∀x∈Os,OQ x):
 F_8 N C Ls Os=some (if rfB C Ls Os=true then(if Os.length=0 then([],[],[],0,4)else match rulesP C (bk Ls) Os [] []with| .inl (a,e)=>([],[],[],a,e.code)| .inr q=>(C,q.1,q.2,0,0))else([],[],[],0,1)):=by
 have hc:=hz.c;have ho:=hz.o;unfold F_8;rw[rf_code Om hz.l hz.o hz.c hz.s hq hp];simp only[bind,Option.bind_some]
 cases hr:rfB C Ls Os with
 |false=>rfl
 |true=>
   obtain⟨hL,hO,hC⟩:=rfB_out hr hq hp;simp only[Bool.not_true,Bool.false_eq_true,if_false,if_true];by_cases h0:Os.length=0
   ·rw[if_pos (by rw[h0];rfl),if_pos h0]
   rw[if_neg (by simp;exact fun e=>h0 (by simp[e])),if_neg h0];unfold F_119 F_120;rw[app_eq (by simp;omega)];simp only[Option.bind_some,List.nil_append];rw[book_code Om hL];simp only[Option.bind_some];have g:=rules_code hN hL.book hC hc ho hO (Ls.map (·.1)) Os.length 0 N [] [] Om Om Sm rfl;rw[List.drop_zero]at g;rw[show iterO N (fun s=>F_59 N Os C (Ls.map (·.1)) (bk Ls) s.1 s.2.1 s.2.2) ([],[],0)=_ from g]
   cases rulesP C (bk Ls) Os [] []with
   |inl p=>rfl
   |inr q=>rfl
theorem check_ref(hN:9400000000000000000≤N){C:List ByteArray}{Ls:List Lt}{Os:List On}(hz:Fsz C Ls Os)(hq: ∀x∈Ls,LQ x)(hp: ∀x∈Os,OQ x):
 F_3 N C Ls Os=some (if rfB C Ls Os=true then(if Os.length=0 then .inl (0,2)else match rulesP C (bk Ls) Os [] []with| .inl (a,e)=> .inl (a,e.num)| .inr q=> .inr q)else .inl (0,4)):=by
 have hc:=hz.c;have ho:=hz.o;unfold F_3;rw[rf_ref Om hz.l hz.o hz.c hq hp];simp only[bind,Option.bind_some]
 cases hr:rfB C Ls Os with
 |false=>rfl
 |true=>
   obtain⟨hL,hO,hC⟩:=rfB_out hr hq hp;simp only[Bool.not_true,Bool.false_eq_true,if_false,if_true];by_cases h0:Os.length=0
   ·rw[if_pos (by rw[h0];rfl),if_pos h0]
   rw[if_neg (by simp;exact fun e=>h0 (by simp[e])),if_neg h0];rw[book_ref Om hL];simp only[Option.bind_some];have g:=rules_ref hN hL.book hc ho hO Os.length 0 N [] [] Om Om Sm rfl;rw[List.drop_zero]at g;rw[show iterO N (fun s=>F_57 N C Os (bk Ls) s.1 s.2.1 s.2.2) (0,[],[])=_ from g]
   cases rulesP C (bk Ls) Os [] []with
   |inl p=>rfl
   |inr q=>rfl
theorem rulesCheck_at(hN:9400000000000000000≤N){C:List ByteArray}{Ls:List Lt}{Os:List On}(hl: ∀x∈Ls,NdQ x.2.1)(ho: ∀x∈Os,NdQ x.2.1):F_52 N C Ls Os=some true:=by
 unfold F_52;obtain⟨p,e,hp⟩:=of13_spec (N:=N) (C:=C) (Ls:=Ls) (Os:=Os) Om;rw[e];simp only[bind,Option.bind_some]
 cases hb:p.2.2 with
 |false=>rfl
 |true=>
   obtain⟨e1,e2,hz⟩:=hp hb;have hq: ∀x∈Ls,LQ x:=fun x hx=>⟨(hz.lt x hx).t,hl x hx,(hz.lt x hx).n⟩;have hp: ∀x∈Os,OQ x:=fun x hx=>⟨hz.ot x hx,ho x hx⟩;have hc:=hz.c;have hol:=hz.o;rw[e1,e2,if_neg Sm,check_code hN hz hq hp,check_ref hN hz hq hp];simp only[Option.bind_some]
   cases hr:rfB C Ls Os with
   |false=>
     simp only[Bool.false_eq_true,if_false];have:F_9 N 1=some 4:=num_all Om 3 Om;rw[this];rfl
   |true=>
     obtain⟨hL,hO,hC⟩:=rfB_out hr hq hp;simp only[if_true];by_cases h0:Os.length=0
     ·rw[if_pos h0,if_pos h0];have:F_9 N 4=some 2:=num_all Om 1 Om;simp only;rw[this];rfl
     rw[if_neg h0,if_neg h0]
     cases hR:rulesP C (bk Ls) Os [] []with
     |inl p=>
       obtain⟨a,e⟩:=p;simp only;rw[e.num_code Om];simp[e.ne];rfl
     |inr q=>
       obtain⟨q1,q2,q3⟩:=rulesP_ok hL.book hc hO hR Sm;simp only[List.length_nil,Nat.zero_add]at q1 q2;simp only;rw[num_zero,of14_refl hN Om q3];simp only[Option.bind_some];rw[sets_refl hN Om Om Om q3,rules_refl hN Om Om Om q3];rfl
theorem rulesCheck_true{C:List ByteArray}{Ls:List Lt}{Os:List On}(hl: ∀x∈Ls,NdQ x.2.1)(ho: ∀x∈Os,NdQ x.2.1): ∃N,F_52 N C Ls Os=some true:=
 ⟨9400000000000000000,rulesCheck_at (Nat.le_refl _) hl ho⟩
end
end Go.Proofs.YtfokmjocophnoaaGreatDoor
