import Derived.Test.YtmolobogpjddjaaGreatDoorNfaBuildD1
import Derived.LaidEql
import Derived.RowKitTokens
import Derived.Stop.Asserts
import Derived.Test.YtmolobogpjddjaaGreatDoorChecked
import Derived.Test.YtmolobogpjddjaaGreatDoorProg
import Derived.WalkKit
namespace Go.Proofs.YtmolobogpjddjaaGreatDoor
open Go.RowKit Go.Extern.Stop Go.Stop Go.Extern
set_option maxRecDepth 20000
theorem Is.typeOf(v:Value)(w:World):(Extern.ReflectliteType.typeOf #[.iface 274 v]).run Tryz.prog w= .ok (.iface 147 (.agg #[.pointer (some ⟨21,274,none⟩)])) w:=by kernel_rfl
def Is.cmp:Array Value→Sem Value:=Extern.ReflectliteType.method fun t=>do Rtype.noPackHeld "Comparable" t;pure (.bool (←typeInfo t).comparable)
theorem Is.comparable(w:World):(Is.cmp #[.agg #[.pointer (some ⟨21,274,none⟩)]]).run Tryz.prog w= .ok (.bool true) w:=by kernel_rfl
theorem Is.methodComparable(v:Value)(w:World):(Go.method 409 147 v "Comparable").run Tryz.prog w= .ok (207,v) w:=by kernel_rfl
theorem Is.comp:(Tryz.prog.info? 274).map (·.comparable)=some true:=by kernel_rfl
theorem Is.size:(Tryz.prog.info? 297).map (·.size)=some 1:=by kernel_rfl
theorem Is.noIs(v:Value)(xT:TypeId)(w:World):(Instr.typeAssert (.iface 274 v) xT 149 true).run Tryz.prog w= .ok (.tuple #[.nilIface,.bool false]) w:=run_typeAssert_lacksB Tryz.underlying149 (by kernel_rfl) (by kernel_rfl) v xT w
theorem Is.noUnwrap(v:Value)(xT:TypeId)(w:World):(Instr.typeAssert (.iface 274 v) xT 152 true).run Tryz.prog w= .ok (.tuple #[.nilIface,.bool false]) w:=run_typeAssert_lacksB Tryz.underlying152 (by kernel_rfl) (by kernel_rfl) v xT w
theorem Is.noUnwraps(v:Value)(xT:TypeId)(w:World):(Instr.typeAssert (.iface 274 v) xT 154 true).run Tryz.prog w= .ok (.tuple #[.nilIface,.bool false]) w:=run_typeAssert_lacksB Tryz.underlying154 (by kernel_rfl) (by kernel_rfl) v xT w
theorem is_same(a:Addr)(w:World):
 Calls Tryz.prog 29 #[.iface 274 (.pointer (some a)),.iface 274 (.pointer (some a))] w fun e w'=>e= .returned (.bool true)∧w'=w:=by
 obtain⟨i,hi,hcmp⟩:=Option.map_eq_some_iff.1 Is.comp;obtain⟨j,hj,hjs⟩:=Option.map_eq_some_iff.1 Is.size;have h8:= @run_callFunc_extern Tryz.prog 47 _ Extern.ReflectliteType.typeOf Tryz.func47 (by kernel_rfl) (by kernel_rfl) (by kernel_rfl) (by kernel_rfl);have h32:= @run_callFunc_extern Tryz.prog 207 _ Is.cmp Tryz.func207 (by kernel_rfl) (by kernel_rfl) (by kernel_rfl) (by kernel_rfl);have tT:=Is.typeOf;have cT:=Is.comparable;have mR:=Is.methodComparable;have heq:=run_eql_iface_ptr_same (P:=Tryz.prog) w a Tryz.underlying33 Tryz.underlying274 hi hcmp hj
 go_enter Tryz.func29,Tryz.ntmps29
 go_wp2
 refine wp_loop_rounds 1 ?_;rw[rounds_succ]
 go_wp2
 go_ret
 exact⟨rfl,rfl⟩
theorem is_nil(b:Addr)(w:World):
 Calls Tryz.prog 29 #[.nilIface,.iface 274 (.pointer (some b))] w fun e w'=>e= .returned (.bool false)∧w'=w:=by
 have hn:=run_eql_iface_nil_left (P:=Tryz.prog) w 274 (.pointer (some b)) Tryz.underlying33
 go_enter Tryz.func29,Tryz.ntmps29
 go_wp2
 go_ret
 exact⟨rfl,rfl⟩
theorem is_other(a b:Addr)(ca cb:Array Value)(ta tb:TypeId)(w:World)(hne:a≠b)(ha:w.heap[a.block]? =some (.cells ca ta (0,0)))(hb:w.heap[b.block]? =some (.cells cb tb (0,0))):
 Calls Tryz.prog 29 #[.iface 274 (.pointer (some a)),.iface 274 (.pointer (some b))] w fun e w'=>e= .returned (.bool false)∧w'=w:=by
 obtain⟨i,hi,hcmp⟩:=Option.map_eq_some_iff.1 Is.comp;obtain⟨j,hj,hjs⟩:=Option.map_eq_some_iff.1 Is.size;have h8:= @run_callFunc_extern Tryz.prog 47 _ Extern.ReflectliteType.typeOf Tryz.func47 (by kernel_rfl) (by kernel_rfl) (by kernel_rfl) (by kernel_rfl);have h32:= @run_callFunc_extern Tryz.prog 207 _ Is.cmp Tryz.func207 (by kernel_rfl) (by kernel_rfl) (by kernel_rfl) (by kernel_rfl);have tT:=Is.typeOf;have cT:=Is.comparable;have mR:=Is.methodComparable;have nE:=Is.noIs;have uE:=Is.noUnwrap;have vE:=Is.noUnwraps;have heq:=run_eql_iface_ptr_other (P:=Tryz.prog) w Tryz.underlying33 Tryz.underlying274 hi hcmp hj (by rw[hjs];decide) hne ha hb
 go_enter Tryz.func29,Tryz.ntmps29
 go_wp2
 refine wp_loop_rounds 1 ?_;rw[rounds_succ]
 go_wp2
 go_ret
 exact⟨rfl,rfl⟩
theorem isC:Go.Eng.IsC Tryz.prog 29 274:=⟨is_same,is_nil,is_other⟩
open Go Go.Eng Go.Cr
set_option maxRecDepth 100000
theorem runX:XOk Tryz.prog ⟨145,169,1000000,0⟩:=⟨⟨_,Tryz.func145,by kernel_rfl,by kernel_rfl,by kernel_rfl,by kernel_rfl⟩,⟨_,Tryz.func169,by kernel_rfl,by kernel_rfl,by kernel_rfl,by kernel_rfl⟩,.inl (by kernel_rfl)⟩
theorem runM:Tryz.prog.follows .mixedOrders=true:=by kernel_rfl
open Go Go.Eng Go.Cr
set_option maxRecDepth 100000
theorem run5:isTrue (run Tryz.prog ⟨145,169,1000000,0⟩ 1000 (.f 5 []) [] ⟨.nil,1000⟩)=true:=by kernel_rfl
theorem runC5:RunC Tryz.prog 5 (fun _=>True):=runC0 runX runM run5 ⟨_,_,Tryz.func5,by kernel_rfl,rfl⟩
end Go.Proofs.YtmolobogpjddjaaGreatDoor
namespace Go.Eng
open Go
theorem iterO_for{σ τ:Type}{f:σ→Option (σ ⊕ τ)}{r:τ}(st:Nat→σ): ∀(n:Nat) {N k:Nat},n<N→(∀i,k≤i→i<k+n→f (st i)=some (.inl (st (i+1))))→f (st (k+n))=some (.inr r)→iterO N f (st k)=some r
 |0,0,_,h,_,_=>absurd h (Nat.not_lt_zero _)
 |0,N+1,k,_,_,he=>by simp only[iterO];rw[show f (st k)=_ from he]
 |n+1,0,_,h,_,_=>absurd h (Nat.not_lt_zero _)
 |n+1,N+1,k,h,hs,he=>by
   simp only[iterO];rw[hs k (Nat.le_refl _) (by omega)];exact iterO_for st n (by omega) (fun i h1 h2=>hs i (by omega) (by omega)) (by rw[show k+1+n=k+(n+1) by omega];exact he)
theorem iterO_for0{σ τ:Type}{f:σ→Option (σ ⊕ τ)}{r:τ}{s:σ}(st:Nat→σ)(n:Nat){N:Nat}(h0:st 0=s)(hN:n<N)(hs: ∀i,i<n→f (st i)=some (.inl (st (i+1))))(he:f (st n)=some (.inr r)):iterO N f s=some r:=by
 subst h0;exact iterO_for st n hN (fun i _ h=>hs i (by omega)) (by rw[Nat.zero_add];exact he)
theorem iterO_while{σ τ:Type}{f:σ→Option (σ ⊕ τ)}(I:σ→Prop)(μ:σ→Nat)(Q:τ→Prop)(step: ∀s,I s→(∃s',f s=some (.inl s')∧I s'∧μ s'<μ s)∨ ∃r,f s=some (.inr r)∧Q r):
 ∀{N:Nat} {s:σ},I s→μ s<N→ ∃r,iterO N f s=some r∧Q r
 |0,_,_,h=>absurd h (Nat.not_lt_zero _)
 |N+1,s,hI,h=>by
   rcases step s hI with⟨s',h1,h2,h3⟩|⟨r,h1,h2⟩
   ·obtain⟨r,h4,h5⟩:=iterO_while I μ Q step (N:=N) h2 (by omega);exact⟨r,by simp only[iterO,h1];exact h4,h5⟩
   exact⟨r,by simp only[iterO,h1],h2⟩
theorem wrap64{x:Int}(h1: -9223372036854775808≤x)(h2:x≤9223372036854775807):IntKind.wrap .i64 x=x:=by
 simp only[IntKind.wrap,IntKind.signed,IntKind.bits];simp;omega
theorem w64_succ{n:Nat}(h:n<9223372036854775807):w64 ((n:Int)+1)=((n+1:Nat):Int):=by
 rw[w64,wrap64]<;>omega
theorem idx_nat{α:Type}{xs:List α}{i:Nat}(h:i<xs.length):idx xs (i:Int)=some xs[i]:=by simp[idx,h]
theorem idx_of{α:Type}{xs:List α}{i:Nat}{x:α}(h:xs[i]? =some x):idx xs (i:Int)=some x:=by simp[idx,h]
theorem setI_nat{α:Type}{xs:List α}{i:Nat}{x:α}(h:i<xs.length):setI xs (i:Int) x=some (xs.set i x):=by simp[setI,h]
theorem setI_int{α:Type}{xs:List α}{i:Int}{x:α}(h0:0≤i)(h:i.toNat<xs.length):setI xs i x=some (xs.set i.toNat x):=by simp[setI,h,h0]
theorem app_eq{α:Type}{xs ys:List α}(h:xs.length+ys.length≤4294967296):app xs ys=some (xs++ys):=by simp[app,h]
theorem loop_find{α τ:Type}{f:Int→Option (Int ⊕ (Unit ⊕ τ))}(xs:List α)(p:α→Bool)(g:Nat→τ){N:Nat}(hN:xs.length<N)
 (hb: ∀(i:Nat) (x:α),xs[i]? =some x→f (i:Int)=if p x then some (.inr (.inr (g i)))else some (.inl ((i+1:Nat):Int))) (he:f (xs.length:Int)=some (.inr (.inl ()))):
 iterO N f 0=some (match xs.findIdx? p with|some i=> .inr (g i)|none=> .inl ()):=by
 cases h:xs.findIdx? p with
 |none=>
   have h':=List.findIdx?_eq_none_iff.1 h;refine iterO_for0 (fun i=>(i:Int)) xs.length rfl hN (fun i hi=>?_) he;rw[hb i xs[i] (List.getElem?_eq_getElem hi),h' _ (List.getElem_mem hi)];simp
 |some k=>
   obtain⟨hk,hp,hlt⟩:=List.findIdx?_eq_some_iff_getElem.1 h;refine iterO_for0 (fun i=>(i:Int)) k rfl (by omega) (fun i hi=>?_) ?_
   ·rw[hb i _ (List.getElem?_eq_getElem (by omega))];have:=hlt i hi;simp[this]
   rw[hb k _ (List.getElem?_eq_getElem hk)];simp[hp]
theorem loop_any{α τ:Type}{f:Int→Option (Int ⊕ (Unit ⊕ τ))}(xs:List α)(p:α→Bool)(b:τ){N:Nat}(hN:xs.length<N)
 (hb: ∀(i:Nat) (x:α),xs[i]? =some x→f (i:Int)=if p x then some (.inr (.inr b))else some (.inl ((i+1:Nat):Int))) (he:f (xs.length:Int)=some (.inr (.inl ()))):
 iterO N f 0=some (if xs.any p then .inr b else .inl ()):=by
 rw[loop_find xs p (fun _=>b) hN hb he]
 cases h:xs.findIdx? p with
 |none=>
   have h':=List.findIdx?_eq_none_iff.1 h;have:xs.any p=false:=by rw[List.any_eq_false];intro x hx;rw[h' x hx];simp
   simp[this]
 |some k=>
   obtain⟨hk,hp,hlt⟩:=List.findIdx?_eq_some_iff_getElem.1 h;have:xs.any p=true:=List.any_eq_true.2 ⟨_,List.getElem_mem hk,hp⟩;simp[this]
theorem loop_fold{α σ τ:Type}{ι:Type}{f:ι→Option (ι ⊕ τ)}(st:Nat→σ→ι)(out:σ→τ)(xs:List α)(step:σ→α→σ)(I:Nat→σ→Prop){N:Nat}{s:σ}(hN:xs.length<N)
 (hI:I 0 s) (hb: ∀(i:Nat) (x:α) (s:σ),xs[i]? =some x→I i s→f (st i s)=some (.inl (st (i+1) (step s x)))∧I (i+1) (step s x)) (he: ∀s,I xs.length s→f (st xs.length s)=some (.inr (out s))):
 iterO N f (st 0 s)=some (out (xs.foldl step s)):=by
 have hI': ∀i,i≤xs.length→I i ((xs.take i).foldl step s):=by
  intro i
  induction i with
  |zero=>intro _;simpa using hI
  |succ i ih=>
    intro hi;have hx:xs[i]? =some xs[i]:=List.getElem?_eq_getElem (by omega);rw[List.take_add_one,hx,List.foldl_append];exact(hb i _ _ hx (ih (by omega))).2
 refine iterO_for0 (fun i=>st i ((xs.take i).foldl step s)) xs.length (by simp) hN (fun i hi=>?_) ?_
 ·have hx:xs[i]? =some xs[i]:=List.getElem?_eq_getElem hi;rw[(hb i _ _ hx (hI' i (by omega))).1,List.take_add_one,hx,List.foldl_append];rfl
 have:=he _ (hI' _ (Nat.le_refl _));rw[List.take_length]at this;simp only[List.take_length];exact this
theorem loop_inv{α σ τ ι:Type}{f:ι→Option (ι ⊕ τ)}(st:Nat→σ→ι)(out:σ→τ)(xs:List α)(I:Nat→σ→Prop){N:Nat}{s:σ}(hN:xs.length<N)
 (hI:I 0 s) (hb: ∀(i:Nat) (x:α) (s:σ),xs[i]? =some x→I i s→ ∃s',f (st i s)=some (.inl (st (i+1) s'))∧I (i+1) s') (he: ∀s,I xs.length s→f (st xs.length s)=some (.inr (out s))):
 ∃s',iterO N f (st 0 s)=some (out s')∧I xs.length s':=by
 have key: ∀(k i:Nat) (s:σ) (M:Nat),i+k=xs.length→k<M→I i s→ ∃s',iterO M f (st i s)=some (out s')∧I xs.length s':=by
  intro k
  induction k with
  |zero=>
    intro i s M hi hM h;obtain⟨M,rfl⟩: ∃m,M=m+1:=⟨M-1,by omega⟩;obtain rfl:i=xs.length:=by omega
    exact⟨s,by simp only[iterO];rw[he s h],h⟩
  |succ k ih=>
    intro i s M hi hM h;obtain⟨M,rfl⟩: ∃m,M=m+1:=⟨M-1,by omega⟩;obtain⟨s',h1,h2⟩:=hb i _ s (List.getElem?_eq_getElem (by omega)) h;obtain⟨s'',h3,h4⟩:=ih (i+1) s' M (by omega) (by omega) h2;exact⟨s'',by simp only[iterO];rw[h1];exact h3,h4⟩
 exact key xs.length 0 s N (by omega) hN hI
end Go.Eng
namespace Go.Proofs.YtmolobogpjddjaaGreatDoor
open Go Go.Eng
theorem lt_len{α:Type}{xs:List α}{i:Nat}{x:α}(h:xs[i]? =some x):i<xs.length:=(List.getElem?_eq_some_iff.1 h).1
open Go Go.Eng
theorem range_get{n i x:Nat}(h:(List.range n)[i]? =some x):i<n∧x=i:=by
 have hl:=lt_len h;simp at hl;rw[List.getElem?_range hl]at h;exact⟨hl,(Option.some.inj h).symm⟩
theorem sameInts_spec{N:Nat}{a b:List Int}(hN:4294967296≤N)(ha:a.length<4294967296):F_22 N a b=some (decide (a=b)):=by
 unfold F_22;by_cases h:a.length=b.length
 case neg=>
  have:((a.length:Int) != (b.length:Int))=true:=by simp;omega
  have hne:a≠b:=fun e=>h (by rw[e]);simp[this,hne]
 have e0:((a.length:Int) != (b.length:Int))=false:=by simp[h]
 simp only[e0,Bool.false_eq_true,if_false]
 rw[loop_any (List.range a.length) (fun i=>a.getD i 0 != b.getD i 0) false (by simp;omega) (fun i x hx=>by
  obtain⟨hi,rfl⟩:=range_get hx;have hib:x<b.length:=by omega
  unfold F_76;have g1:a.getD x 0=a[x]:=by simp[List.getD,List.getElem?_eq_getElem hi]
  have g2:b.getD x 0=b[x]:=by simp[List.getD,List.getElem?_eq_getElem hib]
  rw[g1,g2];simp only[show((x:Int)<(a.length:Int)) by omega,decide_true,if_true,idx_nat hi,idx_nat hib,bind,Option.bind_some];rw[w64_succ (by omega)]) (by simp[F_76])]
 by_cases c:((List.range a.length).any fun i=>a.getD i 0 != b.getD i 0)=true
 ·have:a≠b:=by
   obtain⟨i,_,hp⟩:=List.any_eq_true.1 c;intro e;simp[e]at hp
  rw[if_pos c];simp[this]
 have:a=b:=by
  apply List.ext_getElem h;intro i h1 h2;have h3:=List.any_eq_false.1 (by simpa using c:((List.range a.length).any fun i=>a.getD i 0 != b.getD i 0)=false) i (by simpa using h1);have g1:a.getD i 0=a[i]:=by simp[List.getD,List.getElem?_eq_getElem h1]
  have g2:b.getD i 0=b[i]:=by simp[List.getD,List.getElem?_eq_getElem h2]
  rw[g1,g2]at h3;simpa using h3
 rw[if_neg c];simp[this]
open Go Go.Eng
set_option maxRecDepth 100000
theorem ba_toList(b:ByteArray):b.toList=b.data.toList:=by
 have go: ∀(k i:Nat) (r:List UInt8),i+k=b.size→ByteArray.toList.loop b i r=r.reverse++b.data.toList.drop i:=by
  intro k
  induction k with
  |zero=>
    intro i r h;unfold ByteArray.toList.loop
    rw[if_neg (by omega),List.drop_of_length_le (by
                                                      have:b.data.toList.length=b.size:=by rw[Array.length_toList];rfl
                                                      omega),List.append_nil]
  |succ k ih=>
    intro i r h;unfold ByteArray.toList.loop;have hl:b.data.toList.length=b.size:=by rw[Array.length_toList];rfl
    have hi:i<b.data.toList.length:=by omega
    rw[if_pos (by omega),ih (i+1) _ (by omega),List.drop_eq_getElem_cons hi,List.reverse_cons,List.append_assoc]
    have:b.get! i=b.data.toList[i]:=by
     have hi':i<b.data.size:=by simpa using hi
     show b.data[i]! =_;rw[getElem!_pos b.data i hi'];simp
    rw[this];rfl
 have:=go b.size 0 [] (by omega);simpa[ByteArray.toList]using this
open Go Go.Eng
abbrev Stt:=List Int×(Int×Int×Int×Int)×Int×Int
structure NRt(S:List Stt)(E:List Int):Prop where
 n1:1≤S.length
 n2:S.length≤4000
 e1:1≤E.length
 e2:E.length≤8
 ent: ∀x∈E,0≤x∧x<(S.length:Int)
 to: ∀s∈S,-1≤s.2.2.1∧s.2.2.1<(S.length:Int)
 set0: ∀s∈S,s.2.2.1= -1→s.2.1=(0,0,0,0)
 rul: ∀s∈S,-1≤s.2.2.2∧s.2.2.2≤47
 free: ∀s∈S,∀x∈s.1,0≤x∧x<(S.length:Int)
def outN(n x:Int):Bool:=decide (x<0)||decide (x≥n)
def badS(n:Int)(s:Stt):Bool:=
 (decide (s.2.2.1< -1)||decide (s.2.2.1≥n)||decide (s.2.2.2< -1)||decide (s.2.2.2>47)||(s.2.2.1== -1&&([s.2.1.1,s.2.1.2.1,s.2.1.2.2.1,s.2.1.2.2.2]:List Int) != [0,0,0,0]))||s.1.any (outN n)
def rtB(S:List Stt)(E:List Int):Bool:=
 decide (1≤S.length)&&decide (S.length≤4000)&&decide (1≤E.length)&&decide (E.length≤8)&& !(E.any (outN S.length))&& !(S.any (badS S.length))
theorem outN_f{n x:Int}(h:outN n x=false):0≤x∧x<n:=by
 unfold outN at h;simp at h;omega
theorem outN_of{n x:Int}(h:0≤x∧x<n):outN n x=false:=by
 unfold outN;simp;omega
theorem rtB_iff(S:List Stt)(E:List Int):rtB S E=true↔NRt S E:=by
 unfold rtB;simp only[Bool.and_eq_true,decide_eq_true_eq,Bool.not_eq_true',List.any_eq_false];constructor
 ·rintro⟨⟨⟨⟨⟨a1,a2⟩,a3⟩,a4⟩,a5⟩,a6⟩
  have h6: ∀s∈S,(-1≤s.2.2.1∧s.2.2.1<(S.length:Int))∧(-1≤s.2.2.2∧s.2.2.2≤47)∧(s.2.2.1= -1→s.2.1=(0,0,0,0))∧ ∀x∈s.1,0≤x∧x<(S.length:Int):=by
   intro s hs;have:=a6 s hs;unfold badS at this;rw[Bool.not_eq_true,Bool.or_eq_false_iff,List.any_eq_false]at this;obtain⟨b1,b2⟩:=this;simp only[Bool.or_eq_false_iff,decide_eq_false_iff_not]at b1;obtain⟨⟨⟨⟨c1,c2⟩,c3⟩,c4⟩,c5⟩:=b1;refine⟨by omega,by omega,fun h=>?_,fun x hx=>outN_f (by simpa using b2 x hx)⟩;rw[h]at c5;obtain⟨_,⟨a,b,c,d⟩,_,_⟩:=s;simpa using c5
  exact⟨a1,a2,a3,a4,fun x hx=>outN_f (by simpa using a5 x hx),fun s hs=>(h6 s hs).1,fun s hs=>(h6 s hs).2.2.1,fun s hs=>(h6 s hs).2.1,fun s hs=>(h6 s hs).2.2.2⟩
 intro h;refine⟨⟨⟨⟨⟨h.n1,h.n2⟩,h.e1⟩,h.e2⟩,fun x hx=>by rw[outN_of (h.ent x hx)];simp⟩,fun s hs=>?_⟩;have h1:=h.to s hs;have h2:=h.rul s hs;have h3:=h.set0 s hs
 have h4:s.1.any (outN S.length)=false:=by
  rw[List.any_eq_false];intro x hx;rw[outN_of (h.free s hs x hx)];simp
 unfold badS;rw[h4];obtain⟨_,⟨a,b,c,d⟩,to,ru⟩:=s;simp only at h1 h2 h3 ⊢;have g1: ¬to< -1:=by omega
 have g2: ¬to≥(S.length:Int):=by omega
 have g3: ¬ru< -1:=by omega
 have g4: ¬ru>47:=by omega
 by_cases g5:to= -1
 ·have:=h3 g5;simp only[Prod.mk.injEq]at this;obtain⟨rfl,rfl,rfl,rfl⟩:=this;simp[g3,g4,g5];omega
 simp[g1,g2,g3,g4,g5]
section
variable {N:Nat}{S:List Stt}{E:List Int}
theorem nright1(x n:Int):F_72 N x n=some (outN n x):=by
 unfold F_72 outN;by_cases h:x<0<;>simp[h]
theorem ncontains{xs:List Int}{n:Int}(hN:4294967296≤N)(hl:xs.length<4294967296):F_85 N xs n=some (xs.any (outN n)):=by
 unfold F_85 F_40
 rw[loop_find xs (outN n) (fun i=>(i:Int)) (by omega) (fun i x hx=>by
  have hi:=lt_len hx;unfold F_86;simp only[show((i:Int)<(xs.length:Int)) by omega,decide_true,if_true,idx_of hx,nright1,bind,Option.bind_some];rw[w64_succ (by omega)]) (by unfold F_86;simp)]
 cases h:xs.findIdx? (outN n)with
 |none=>
   have:xs.any (outN n)=false:=List.any_eq_false.2 fun x hx=>by rw[List.findIdx?_eq_none_iff.1 h x hx];simp
   simp[this]
 |some k=>
   obtain⟨hk,hp,_⟩:=List.findIdx?_eq_some_iff_getElem.1 h;have:xs.any (outN n)=true:=List.any_eq_true.2 ⟨_,List.getElem_mem hk,hp⟩;rw[this];simp
structure NSz(S:List Stt)(E:List Int):Prop where
 a:S.length<4294967296
 b:E.length<4294967296
 c: ∀s∈S,s.1.length<4294967296
theorem nfaRight_spec(hN:4294967296≤N)(hs:NSz S E):F_15 N S E=some (rtB S E):=by
 unfold F_15
 rw[loop_any S (badS S.length) false (by have:=hs.a;omega) (fun i s hx=>by
  have hi:=lt_len hx;have hc:=hs.c s (List.mem_of_getElem? hx);have ha:=hs.a;obtain⟨fr,⟨a,b,c,d⟩,to,ru⟩:=s;unfold F_81 badS;simp only[show((i:Int)<(S.length:Int)) by omega,decide_true,if_true,idx_of hx,nright1,F_83,ncontains hN hc,bind,Option.bind_some];rw[w64_succ (by omega)];generalize fr.any (outN S.length)=q;by_cases g5:to= -1
  ·subst g5;have e1:outN (S.length:Int) (-1)=true:=by unfold outN;simp
   have g2: ¬((-1:Int)≥(S.length:Int)):=by omega
   by_cases g6:([a,b,c,d]:List Int)= [0,0,0,0]
   ·have e6:(([a,b,c,d]:List Int)== [0,0,0,0])=true:=by rw[g6];rfl
    have e7:(([a,b,c,d]:List Int) != [0,0,0,0])=false:=by rw[g6];rfl
    cases q<;>by_cases g3:ru< -1<;>by_cases g4:ru≥48<;>simp[e6,e7,g3,g4,g2,show(ru>47)=(ru≥48)from by simp;omega]
   have e6:(([a,b,c,d]:List Int)== [0,0,0,0])=false:=by simpa using g6
   have e7:(([a,b,c,d]:List Int) != [0,0,0,0])=true:=by simpa using g6
   simp[e6,e7,e1]
  have e5:(to== -1)=false:=by simpa using g5
  by_cases g7:0≤to∧to<(S.length:Int)
  ·have e1:=outN_of g7;have g1: ¬to< -1:=by omega
   have g2: ¬to≥(S.length:Int):=by omega
   cases q<;>by_cases g3:ru< -1<;>by_cases g4:ru≥48<;>simp[e5,e1,g1,g2,g3,g4,show(ru>47)=(ru≥48)from by simp;omega]
  have e1:outN (S.length:Int) to=true:=by
   cases h:outN (S.length:Int) to with
   |true=>rfl
   |false=>exact absurd (outN_f h) g7
  have g1:to< -1∨to≥(S.length:Int):=by omega
  rcases g1 with g1|g1<;>simp[e5,e1,g1]) (by unfold F_81;simp)]
 unfold rtB
 cases hS:S.any (badS S.length)with
 |true=>simp
 |false=>
   simp only[Bool.false_eq_true,if_false,bind,Option.bind_some,ncontains hN hs.b];by_cases a1:1≤E.length
   ·by_cases a2:E.length≤8
    ·by_cases a3:1≤S.length
     ·by_cases a4:S.length≤4000
      ·have b1:(E.length:Int)≥1:=by omega
       have b2:(E.length:Int)≤8:=by omega
       have b3:(S.length:Int)≥1:=by omega
       have b4:(S.length:Int)≤4000:=by omega
       simp[a1,a2,a3,a4,b1,b2,b3,b4]
      have b1:(E.length:Int)≥1:=by omega
      have b2:(E.length:Int)≤8:=by omega
      have b3:(S.length:Int)≥1:=by omega
      have b4: ¬(S.length:Int)≤4000:=by omega
      simp[a4,b1,b2,b3,b4]
     have b1:(E.length:Int)≥1:=by omega
     have b2:(E.length:Int)≤8:=by omega
     have b3: ¬(S.length:Int)≥1:=by omega
     simp[a3,b1,b2,b3]
    have b1:(E.length:Int)≥1:=by omega
    have b2: ¬(E.length:Int)≤8:=by omega
    simp[a2,b1,b2]
   have b1: ¬(E.length:Int)≥1:=by omega
   simp[a1,b1]
end
open Go Go.Eng
section
variable {N:Nat}{S:List Stt}{E:List Int}
theorem of15_spec{m:Int}(hN:4294967296≤N)(hm:m<4294967296): ∃p,F_26 N S E m=some p∧(p.2=true→p.1=S∧(S.length:Int)≤m∧(E.length:Int)≤20∧ ∀s∈S,s.1.length≤100):=by
 unfold F_26;by_cases a1:(E.length:Int)>20
 ·exact⟨([],false),by simp[a1],by simp⟩
 by_cases a2:(S.length:Int)>m
 ·exact⟨([],false),by simp[a1,a2],by simp⟩
 simp only[a1,a2,decide_false,Bool.false_eq_true,if_false,bind,Option.bind_some]
 obtain⟨r,hr,hq⟩:=iterO_while (f:=fun s:Int×List Stt=>F_74 N S s.1 s.2) (fun s=> ∃i:Nat,i≤S.length∧s=((i:Int),S.take i)∧ ∀t∈S.take i,t.1.length≤100) (fun s=>S.length-s.1.toNat)
  (fun r=>match r with| .inl x=>x=S∧ ∀t∈S,t.1.length≤100| .inr z=>z.2=false) (fun s hI=>by
   obtain⟨i,hi,rfl,hf⟩:=hI;unfold F_74;by_cases hil:i<S.length
   ·have hx:S[i]? =some S[i]:=List.getElem?_eq_getElem hil;simp only[show((i:Int)<(S.length:Int)) by omega,decide_true,if_true,idx_of hx,bind,Option.bind_some];by_cases b1:(S[i].1.length:Int)>100
    ·right;exact⟨.inr (S.take i,false),by simp[b1],rfl⟩
    left;refine⟨(((i+1:Nat):Int),S.take (i+1)),?_,⟨i+1,by omega,rfl,fun t ht=>?_⟩,by simp;omega⟩
    ·simp only[b1,decide_false,Bool.false_eq_true,if_false];rw[app_eq (by simp;omega),w64_succ (by omega),List.take_add_one,hx];rfl
    rw[List.take_add_one,hx]at ht;rcases List.mem_append.1 ht with ht|ht
    ·exact hf t ht
    simp at ht;subst ht;omega
   right;obtain rfl:i=S.length:=by omega
   refine⟨.inl S,by simp,rfl,fun t ht=>hf t (by simpa using ht)⟩) (N:=N) (s:=(0,[])) ⟨0,by omega,by simp,by simp⟩ (by simp;omega)
 rw[hr]
 cases r with
 |inl x=>exact⟨(x,true),rfl,fun _=>⟨hq.1,by omega,by omega,hq.2⟩⟩
 |inr z=>exact⟨z,rfl,fun h=>by rw[hq]at h;cases h⟩
end
open Go Go.Eng
set_option maxRecDepth 100000
section
variable {N:Nat}{S S':List Stt}{E E':List Int}
theorem st_eq{s t:Stt}:s=t↔s.1=t.1∧([s.2.1.1,s.2.1.2.1,s.2.1.2.2.1,s.2.1.2.2.2]:List Int)= [t.2.1.1,t.2.1.2.1,t.2.1.2.2.1,t.2.1.2.2.2]∧s.2.2.1=t.2.2.1∧s.2.2.2=t.2.2.2:=by
 obtain⟨a,⟨b,c,d,e⟩,f,g⟩:=s;obtain⟨a',⟨b',c',d',e'⟩,f',g'⟩:=t;simp only[Prod.mk.injEq,List.cons.injEq,and_true,and_assoc]
theorem any_ne{α:Type}[DecidableEq α]{a b:List α}(h:a.length=b.length):((List.range a.length).any fun i=>decide (a[i]? ≠b[i]?))=decide (a≠b):=by
 rw[Bool.eq_iff_iff,List.any_eq_true,decide_eq_true_iff];constructor
 ·rintro⟨i,_,hi⟩ e;rw[e]at hi;simp at hi
 intro hne;apply Classical.byContradiction;intro hn;refine hne (List.ext_getElem? fun i=>?_);by_cases hi:i<a.length
 ·exact Classical.byContradiction fun hx=>hn ⟨i,by simpa using hi,by simpa using hx⟩
 rw[List.getElem?_eq_none (by omega),List.getElem?_eq_none (by omega)]
theorem nrefSame_spec(hN:4294967296≤N)(hs:NSz S E):F_30 N S E S' E'=some (decide (S=S'∧E=E')):=by
 unfold F_30;rw[sameInts_spec hN hs.b];simp only[bind,Option.bind_some];by_cases h1:E=E'
 ·rw[decide_eq_true h1];simp only[Bool.not_true,Bool.false_eq_true,if_false,Option.bind_some];by_cases h:S.length=S'.length
  ·have e0:((S.length:Int) != (S'.length:Int))=false:=by simp[h]
   simp only[e0,Bool.false_eq_true,if_false]
   rw[loop_any (List.range S.length) (fun i=>decide (S[i]? ≠S'[i]?)) false (by have:=hs.a;simp;omega) (fun i x hx=>by
    obtain⟨hi,rfl⟩:=range_get hx;have hib:x<S'.length:=by omega
    have ha:=hs.a;unfold F_80;rw[if_pos (by simp;omega),idx_nat hi,idx_nat hib];simp only[bind,Option.bind_some];rw[sameInts_spec hN (hs.c _ (List.getElem_mem hi)),List.getElem?_eq_getElem hi,List.getElem?_eq_getElem hib];simp only[Option.bind_some];rw[w64_succ (by omega)];have key:=st_eq (s:=S[x]) (t:=S'[x]);by_cases c:S[x]=S'[x]
    ·obtain⟨k1,k2,k3,k4⟩:=key.1 c;simp[c]
    by_cases k1:S[x].1=S'[x].1
    ·by_cases k2:([S[x].2.1.1,S[x].2.1.2.1,S[x].2.1.2.2.1,S[x].2.1.2.2.2]:List Int)= [S'[x].2.1.1,S'[x].2.1.2.1,S'[x].2.1.2.2.1,S'[x].2.1.2.2.2]
     ·by_cases k3:S[x].2.2.1=S'[x].2.2.1
      ·have k4: ¬S[x].2.2.2=S'[x].2.2.2:=fun k4=>c (key.2 ⟨k1,k2,k3,k4⟩);rw[decide_eq_true k1,if_neg (by simp),if_neg (by simpa using k2),if_neg (by simpa using k3)];simp[k4,c]
      rw[decide_eq_true k1,if_neg (by simp),if_neg (by simpa using k2),if_pos (by simpa using k3)];simp[c]
     rw[decide_eq_true k1,if_neg (by simp),if_pos (bne_iff_ne.2 k2)];simp[c]
    rw[decide_eq_false k1,if_pos (by simp)];simp[c]) (by simp[F_80]),any_ne h]
   by_cases c:S=S'<;>simp[c,h1]
  have e0:((S.length:Int) != (S'.length:Int))=true:=by simp;omega
  have hne:S≠S':=fun e=>h (by rw[e]);simp[e0,hne]
 rw[decide_eq_false h1];simp[h1]
end
open Go Go.Eng
set_option maxRecDepth 100000
mutual
def cnt:Nd→Nat
 | .mk _ _ l _ _ _=>1+cntL l
def cntL:List Nd→Nat
 | []=>0
 |x::l=>cnt x+cntL l
end
abbrev kd(t:Nd):List Nd:=t.un.2.2.1
theorem cnt_un(t:Nd):cnt t=1+cntL (kd t):=by
 cases t;simp only[cnt];rfl
theorem cntL_mem{x:Nd}: ∀{l:List Nd},x∈l→cnt x≤cntL l
 |y::l,h=>by
   simp only[cntL];rcases List.mem_cons.1 h with rfl|h
   ·omega
   have:=cntL_mem h;omega
theorem cnt_kid{t x:Nd}(h:x∈kd t):cnt x<cnt t:=by
 have:=cntL_mem h;rw[cnt_un t];omega
theorem cntL_len: ∀(l:List Nd),l.length≤cntL l
 | []=>Nat.le_refl _
 |x::l=>by
   have:=cntL_len l;have:=cnt_un x;simp only[cntL,List.length_cons];omega
theorem cntL_drop{l:List Nd}{i:Nat}{x:Nd}(h:l[i]? =some x):cntL (l.drop i)=cnt x+cntL (l.drop (i+1)):=by
 rw[List.drop_eq_getElem_cons (lt_len h)];simp only[cntL];rw[(List.getElem?_eq_some_iff.1 h).2]
theorem Nd.of_eq(x:Nd):Nd.of (x.un.1,(x.un.2.1.1,x.un.2.1.2.1,x.un.2.1.2.2.1,x.un.2.1.2.2.2),x.un.2.2.1,x.un.2.2.2.1,x.un.2.2.2.2.1,x.un.2.2.2.2.2)=x:=by
 cases x;rfl
theorem of7_spec: ∀(L:Nat) (t:Nd) (N:Nat),L+5≤N→1≤L→L≤1000→
 ∃ks,F_7 N t.un.1 t.un.2.1.1 t.un.2.1.2.1 t.un.2.1.2.2.1 t.un.2.1.2.2.2 t.un.2.2.1 t.un.2.2.2.1 t.un.2.2.2.2.1 t.un.2.2.2.2.2 (L:Int)=some (ks,((L-cnt t:Nat):Int))∧(cnt t<L→ks=kd t):=by
 intro L
 induction L using Nat.strongRecOn with
 |ind L IH=>
   intro t N hN h1 h2;obtain⟨M,rfl⟩: ∃m,N=m+1:=⟨N-1,by omega⟩
   have key: ∀(left i:Nat) (acc:List Nd) (K:Nat),left<K→left<L→acc.length=i→i+left≤1000→i≤(kd t).length→
    ∃acc',(iterO K (fun s=>F_25 M (F_7 M) (kd t) s.1 s.2.1 s.2.2) ((left:Int),(i:Int),acc)=some (.inl (((left-cntL ((kd t).drop i):Nat):Int),acc'))∨
      iterO K (fun s=>F_25 M (F_7 M) (kd t) s.1 s.2.1 s.2.2) ((left:Int),(i:Int),acc)=some (.inr (acc',((left-cntL ((kd t).drop i):Nat):Int))))∧
      (cntL ((kd t).drop i)<left→acc'=acc++(kd t).drop i):=by
    intro left
    induction left using Nat.strongRecOn with
    |ind left ih=>
      intro i acc K hK hL ha hb hi;obtain⟨K,rfl⟩: ∃m,K=m+1:=⟨K-1,by omega⟩;by_cases hlt:i<(kd t).length
      ·have hx:(kd t)[i]? =some (kd t)[i]:=List.getElem?_eq_getElem hlt;generalize(kd t)[i]=x at hx;have hc:=cntL_drop hx;have hp:=cnt_un x;by_cases h0:left=0
       ·refine⟨acc,.inr ?_,fun h=>by omega⟩;subst h0;simp only[iterO,F_25];rw[if_pos (by simpa using hlt),idx_of hx];simp
       obtain⟨ks,e1,e2⟩:=IH left hL x M (by omega) (by omega) (by omega);obtain⟨acc',g1,g2⟩:=ih (left-cnt x) (by omega) (i+1) (acc++ [Nd.of (x.un.1,(x.un.2.1.1,x.un.2.1.2.1,x.un.2.1.2.2.1,x.un.2.1.2.2.2),ks,x.un.2.2.2.1,x.un.2.2.2.2.1,x.un.2.2.2.2.2)]) K (by omega) (by omega) (by simp[ha]) (by omega) (by omega)
       have hs:F_25 M (F_7 M) (kd t) (left:Int) (i:Int) acc=some (.inl (((left-cnt x:Nat):Int),((i+1:Nat):Int),acc++ [Nd.of (x.un.1,(x.un.2.1.1,x.un.2.1.2.1,x.un.2.1.2.2.1,x.un.2.1.2.2.2),ks,x.un.2.2.2.1,x.un.2.2.2.2.1,x.un.2.2.2.2.2)])):=by
        unfold F_25;rw[if_pos (by simpa using hlt),idx_of hx];simp only[bind,Option.bind_some];rw[if_neg (by simp;omega),e1];simp only[Option.bind_some];rw[app_eq (by simp;omega),w64_succ (by omega)];rfl
       refine⟨acc',?_,fun h=>?_⟩
       ·simp only[iterO,hs];rw[hc,show left-(cnt x+cntL ((kd t).drop (i+1)))=left-cnt x-cntL ((kd t).drop (i+1)) by omega];exact g1
       rw[g2 (by omega),e2 (by omega),Nd.of_eq,List.append_assoc,List.drop_eq_getElem_cons hlt,(List.getElem?_eq_some_iff.1 hx).2];rfl
      have hd:(kd t).drop i= []:=List.drop_eq_nil_of_le (by omega);refine⟨acc,.inl ?_,fun _=>by simp[hd]⟩;simp only[iterO,F_25];rw[if_neg (by simpa using hlt),hd];simp[cntL]
   obtain⟨acc',g1,g2⟩:=key (L-1) 0 [] M (by omega) (by omega) rfl (by omega) (by omega);have hw:w64 ((L:Int)-1)=((L-1:Nat):Int):=by rw[w64,wrap64]<;>omega
   have hcu:=cnt_un t;rw[List.drop_zero]at g1 g2;refine⟨acc',?_,fun h=>by rw[g2 (by omega)];rfl⟩;rw[F_7,hw,show L-cnt t=L-1-cntL (kd t) by omega];rcases g1 with g1|g1
   ·show(iterO M (fun s=>F_25 M (F_7 M) (kd t) s.1 s.2.1 s.2.2) (((L-1:Nat):Int),((0:Nat):Int),[]) >>= _)=_;rw[g1];rfl
   show(iterO M (fun s=>F_25 M (F_7 M) (kd t) s.1 s.2.1 s.2.2) (((L-1:Nat):Int),((0:Nat):Int),[]) >>= _)=_;rw[g1];rfl
abbrev Rl:=List Int×Nd×Int×Int
structure Short(C Nm:List ByteArray)(R:List Rl):Prop where
 c:C.length≤20
 r:R.length≤60
 n:Nm.length≤60
 t: ∀r∈R,cnt r.2.1<700∧r.1.length≤50
theorem long_spec{N:Nat}{C Nm:List ByteArray}{R:List Rl}(hN:4294967296≤N): ∃b,F_27 N C Nm R=some b∧(b=false→Short C Nm R):=by
 unfold F_27;by_cases h1:C.length≤20
 case neg=>
  have b1:(C.length:Int)>20:=by omega
  exact⟨true,by simp[b1],by simp⟩
 by_cases h2:R.length≤60
 case neg=>
  have b2:(R.length:Int)>60:=by omega
  exact⟨true,by simp[b2],by simp⟩
 by_cases h3:Nm.length≤60
 case neg=>
  have b3:(Nm.length:Int)>60:=by omega
  exact⟨true,by simp[b3],by simp⟩
 have b1: ¬(C.length:Int)>20:=by omega
 have b2: ¬(R.length:Int)>60:=by omega
 have b3: ¬(Nm.length:Int)>60:=by omega
 simp only[b1,b2,b3,decide_false,Bool.false_eq_true,if_false,bind,Option.bind_some]
 rw[loop_any R (fun r=>decide (700≤cnt r.2.1)||decide (r.1.length>50)) true (by omega) (fun i r hx=>by
  have hi:=lt_len hx;obtain⟨ks,e1,_⟩:=of7_spec 700 r.2.1 N (by omega) (by omega) (by omega);unfold F_75;rw[if_pos (by simpa using hi),idx_of hx];simp only[bind,Option.bind_some];rw[show((700:Int))=((700:Nat):Int)from rfl,e1,w64_succ (by omega)];simp only[Option.bind_some];by_cases c1:700≤cnt r.2.1
  ·have:700-cnt r.2.1=0:=by omega
   simp[c1,this]
  have: ¬700-cnt r.2.1=0:=by omega
  by_cases c2:r.1.length>50
  ·have c3:(r.1.length:Int)>50:=by omega
   simp[this,c2,c3]
  have c3: ¬(r.1.length:Int)>50:=by omega
  simp[this,c1,c2,c3]) (by unfold F_75;simp)]
 cases h:R.any (fun r=>decide (700≤cnt r.2.1)||decide (r.1.length>50))with
 |true=>exact⟨true,rfl,by simp⟩
 |false=>
   refine⟨false,rfl,fun _=>⟨h1,h2,h3,fun r hr=>?_⟩⟩;have:=List.any_eq_false.1 h r hr;simp at this;omega
theorem of14_spec{N:Nat}{C Nm:List ByteArray}{R:List Rl}(hN:4294967296≤N)(hs:Short C Nm R):F_21 N C Nm R=some R:=by
 have hr:=hs.r;unfold F_21
 have:=loop_fold (f:=fun s:Int×List Rl=>F_63 N R s.1 s.2) (fun i (s:List Rl)=>((i:Int),s)) id R (fun s x=>s++ [x]) (fun i s=>s.length=i) (N:=N) (s:=[]) (by omega) rfl
  (fun i r s hx hI=>by
   have hi:=lt_len hx;obtain⟨ks,e1,e2⟩:=of7_spec 700 r.2.1 N (by omega) (by omega) (by omega);have hc:=hs.t r (List.mem_of_getElem? hx);unfold F_63;rw[if_pos (by simpa using hi),idx_of hx];simp only[bind,Option.bind_some];rw[show((700:Int))=((700:Nat):Int)from rfl,e1,w64_succ (by omega)];simp only[Option.bind_some];rw[e2 hc.1,Nd.of_eq,app_eq (by simp;omega)];exact⟨rfl,by simp[hI]⟩)
  (fun s _=>by unfold F_63;simp)
 have hf: ∀(l acc:List Rl),l.foldl (fun s x=>s++ [x]) acc=acc++l:=by
  intro l
  induction l with
  |nil=>simp
  |cons x l ih=>intro acc;rw[List.foldl_cons,ih];simp
 rw[hf]at this;show(iterO N (fun s=>F_63 N R s.1 s.2) (((0:Nat):Int),[]) >>= _)=_;rw[this];rfl
open Go Go.Eng
set_option maxRecDepth 100000
def sl(s:ByteArray):List Int:=s.data.toList.map fun u=>((u.toNat:Nat):Int)
theorem sl_len(s:ByteArray):(sl s).length=s.size:=by
 unfold sl;rw[List.length_map,Array.length_toList];rfl
theorem sidx_sl(s:ByteArray)(i:Int):sidx s i=idx (sl s) i:=by
 unfold sidx idx sl;rw[List.getElem?_map]
theorem emp_sl(s:ByteArray):(s.toList==ByteArray.empty.toList)=decide (s.size=0):=by
 rw[ba_toList,ba_toList];have:s.size=s.data.toList.length:=by rw[Array.length_toList];rfl
 rw[this];show(s.data.toList== [])=_;cases s.data.toList<;>simp
def ltC(c:Int):Bool:=decide (97≤c)&&decide (c≤122)
def dgC(c:Int):Bool:=decide (48≤c)&&decide (c≤57)
def nmB(l:List Int):Bool:=decide (1≤l.length)&&decide (l.length≤12)&&ltC (l.getD 0 0)&&l.all (fun c=>ltC c||dgC c)
theorem nm_code{N:Nat}{s:ByteArray}(hN:9300000000000000000≤N)(hs:s.size≤maxLen):F_32 N s=some (nmB (sl s)):=by
 have hm:s.size<9223372036854775808:=by unfold maxLen at hs;omega
 have hl:=sl_len s;unfold F_32
 rw[loop_any (List.range s.size) (fun i=> !ltC ((sl s).getD i 0)&&(i==0|| !dgC ((sl s).getD i 0))) false (by simp;omega) (fun i x hx=>by
  obtain⟨hi,rfl⟩:=range_get hx
  have hx:(sl s)[x]? =some ((sl s).getD x 0):=by
   rw[List.getD,List.getElem?_eq_getElem (by omega)];rfl
  generalize(sl s).getD x 0=c at hx;unfold F_90;rw[if_pos (by simpa using hi)];simp only[sidx_sl,idx_of hx,bind,Option.bind_some];rw[w64_succ (by omega)];unfold ltC dgC;by_cases c1:97≤c
  ·by_cases c2:c≤122
   ·simp[c1,c2]
   by_cases h0:x=0
   ·subst h0;simp[c1,c2]
   have: ¬(x:Int)=0:=by omega
   have c3: ¬c<48:=by omega
   have c4:c>57:=by omega
   simp[c1,c2,h0,c3,c4]
  by_cases h0:x=0
  ·subst h0;simp[c1]
  by_cases c3:c<48
  ·simp[c1,h0,c3]
  by_cases c4:c>57
  ·simp[c1,h0,c3,c4]
  simp[c1,h0,c3,c4,show 48≤c by omega,show c≤57 by omega]) (by unfold F_90;simp)]
 by_cases h0:s.size=0
 ·have e:sl s= []:=List.eq_nil_of_length_eq_zero (by omega)
  have e2:(s.toList != ByteArray.empty.toList)=false:=by
   show(!(s.toList==ByteArray.empty.toList))=_;rw[emp_sl];simp[h0]
  rw[h0,e2,nmB,e];rfl
 have e2:(s.toList != ByteArray.empty.toList)=true:=by
  show(!(s.toList==ByteArray.empty.toList))=_;rw[emp_sl];simp[h0]
 simp only[e2,if_true,bind,Option.bind_some]
 cases hl:sl s with
 |nil=>
   have:=sl_len s;rw[hl]at this;simp at this;omega
 |cons c t=>
   have hsz:s.size=t.length+1:=by rw[←sl_len s,hl];rfl
   rw[hsz,List.range_succ_eq_map,List.any_cons,List.any_map]
   have e3:(fun i=> !ltC ((c::t).getD i 0)&&(i==0|| !dgC ((c::t).getD i 0)))∘Nat.succ=fun i=> !(ltC (t.getD i 0)||dgC (t.getD i 0)):=by
    funext i;simp[Bool.not_or]
   rw[e3]
   have e4:((List.range t.length).any fun i=> !(ltC (t.getD i 0)||dgC (t.getD i 0)))= !t.all (fun c=>ltC c||dgC c):=by
    rw[List.any_eq_not_all_not]
    congr 1
    simp only[Bool.not_not];rw[Bool.eq_iff_iff,List.all_eq_true,List.all_eq_true];constructor
    ·intro h x hx;obtain⟨i,hi,rfl⟩:=List.getElem_of_mem hx;have:=h i (by simpa using hi);rwa[List.getD,List.getElem?_eq_getElem hi]at this
    intro h i hi;have hi:i<t.length:=by simpa using hi
    have:=h _ (List.getElem_mem hi);rw[List.getD,List.getElem?_eq_getElem hi];exact this
   rw[e4];unfold nmB;simp only[List.length_cons,List.getD_cons_zero,List.all_cons];generalize t.all (fun c=>ltC c||dgC c)=q;by_cases c3:t.length+1≤12
   ·have c4:(t.length:Int)+1≤12:=by omega
    cases ltC c<;>cases q<;>simp[c3,c4]
   have c4: ¬(t.length:Int)+1≤12:=by omega
   cases ltC c<;>cases q<;>simp[c3,c4]
theorem nm_ref{N:Nat}{s:ByteArray}(hN:9300000000000000000≤N):F_28 N s=some (nmB (sl s)):=by
 have hl:=sl_len s;unfold F_28 nmB;by_cases h1:s.size<1
 ·have:(s.size:Int)<1:=by omega
  have h2: ¬1≤s.size:=by omega
  simp[this,hl,h2]
 by_cases h2:s.size>12
 ·have:(s.size:Int)>12:=by omega
  have h3: ¬s.size≤12:=by omega
  simp[this,hl,h3]
 have b1: ¬(s.size:Int)<1:=by omega
 have b2: ¬(s.size:Int)>12:=by omega
 have hx:(sl s)[0]? =some ((sl s).getD 0 0):=by
  rw[List.getD,List.getElem?_eq_getElem (by omega)];rfl
 have e0:sidx s 0=some ((sl s).getD 0 0):=by
  rw[sidx_sl];exact idx_of (i:=0) hx
 simp only[b1,b2,decide_false,Bool.false_eq_true,if_false,e0,bind,Option.bind_some]
 rw[loop_any (sl s) (fun c=> !(ltC c||dgC c)) false (by omega) (fun i c hx=>by
  have hi:=lt_len hx;unfold F_77;rw[if_pos (by simpa using(show(i:Int)<(s.size:Int) by omega))];simp only[sidx_sl,idx_of hx,bind,Option.bind_some];rw[w64_succ (by omega)];unfold ltC dgC;by_cases c1:c<97
  ·by_cases c3:c<48
   ·simp[c1,c3,show¬97≤c by omega,show¬48≤c by omega]
   by_cases c4:c>57
   ·simp[c1,c3,c4,show¬97≤c by omega,show¬c≤57 by omega]
   simp[c1,c3,c4,show¬97≤c by omega,show 48≤c by omega,show c≤57 by omega]
  by_cases c2:c>122
  ·simp[c1,c2,show¬c≤122 by omega,show c>57 by omega,show¬c≤57 by omega]
  simp[c1,c2,show 97≤c by omega,show c≤122 by omega]) (by unfold F_77;rw[hl];simp)]
 have e5:((sl s).any fun c=> !(ltC c||dgC c))= !(sl s).all (fun c=>ltC c||dgC c):=by
  rw[List.any_eq_not_all_not];simp
 rw[e5,hl];generalize(sl s).all (fun c=>ltC c||dgC c)=q;have g1:1≤s.size:=by omega
 have g2:s.size≤12:=by omega
 generalize(sl s).getD 0 0=c;unfold ltC;by_cases c1:c<97
 ·simp[c1,show¬97≤c by omega]
 by_cases c2:c>122
 ·simp[c1,c2,show¬c≤122 by omega]
 cases q<;>simp[c1,c2,g1,g2,show 97≤c by omega,show c≤122 by omega]
open Go Go.Eng
set_option maxRecDepth 100000
def bareB(k:Int)(z:Bool)(mn mx:Int)(e:Bool):Bool:=(k==1||z)&&(k==4||(mn==0&&mx==0))&&(k==5||e)
def kindB(k:Int)(n:Nat)(mn mx:Int)(q:Bool):Bool:=
 if(k==1)=true then n==0 else if(k==2)=true then true else if(k==3)=true then decide (2≤n)else
  if(k==4)=true then n==1&&decide (0≤mn)&&decide (mn≤40)&&(mx== -1||(decide (mn≤mx)&&decide (1≤mx)&&decide (mx≤40)))else k==5&&n==0&&q
def okB(k:Int)(z:Bool)(n:Nat)(mn mx:Int)(e q:Bool):Bool:=bareB k z mn mx e&&kindB k n mn mx q
theorem imax_le{a b c:Int}:a≥imax b c↔b≤a∧c≤a:=by
 unfold imax;split<;>omega
theorem bare_spec{N:Nat}{k a b c d:Int}{l:List Nd}{mn mx:Int}{s:ByteArray}:
 F_99 N k a b c d l mn mx s=some (bareB k (([a,b,c,d]:List Int)== [0,0,0,0]) mn mx (s.toList==ByteArray.empty.toList)):=by
 unfold F_99 bareB;generalize(([a,b,c,d]:List Int)== [0,0,0,0])=z;generalize(s.toList==ByteArray.empty.toList)=e;generalize(k==1)=k1;generalize(k==4)=k4;generalize(k==5)=k5;generalize(mn==0)=m1;generalize(mx==0)=m2;cases z<;>cases e<;>cases k1<;>cases k4<;>cases k5<;>cases m1<;>cases m2<;>rfl
theorem beq_nat(n m:Nat):((n:Int)==(m:Int))=(n==m):=by
 rw[Bool.eq_iff_iff,beq_iff_eq,beq_iff_eq];omega
theorem node_code{N:Nat}{k a b c d:Int}{l:List Nd}{mn mx:Int}{s:ByteArray}(hN:9300000000000000000≤N)(hs:s.size≤maxLen):
 F_100 N k a b c d l mn mx s=some (okB k (([a,b,c,d]:List Int)== [0,0,0,0]) l.length mn mx (s.toList==ByteArray.empty.toList) (nmB (sl s))):=by
 unfold F_100 okB kindB;rw[bare_spec,nm_code hN hs,show((l.length:Int)==0)=(l.length==0)from beq_nat _ 0,show((l.length:Int)==1)=(l.length==1)from beq_nat _ 1]
 have e2:decide (mx≥imax mn 1)=(decide (mn≤mx)&&decide (1≤mx)):=by
  rw[Bool.eq_iff_iff];simp only[decide_eq_true_eq,Bool.and_eq_true];exact imax_le
 have e3:decide ((l.length:Int)≥2)=decide (2≤l.length):=by
  rw[Bool.eq_iff_iff,decide_eq_true_eq,decide_eq_true_eq];omega
 rw[e2,e3];simp only[ge_iff_le];generalize bareB k (([a,b,c,d]:List Int)== [0,0,0,0]) mn mx (s.toList==ByteArray.empty.toList)=z;generalize nmB (sl s)=q;generalize(l.length==0)=n0;generalize(l.length==1)=n1;generalize decide (2≤l.length)=n2;generalize decide (0≤mn)=m1;generalize decide (mn≤40)=m2;generalize(mx== -1)=m3;generalize decide (mn≤mx)=m4;generalize decide (1≤mx)=m5;generalize decide (mx≤40)=m6;cases z
 ·rfl
 cases h1:k==1
 ·cases h2:k==2
  ·cases h3:k==3
   ·cases h4:k==4
    ·cases h5:k==5<;>cases n0<;>cases q<;>rfl
    cases n1<;>cases m1<;>cases m2<;>cases m3<;>cases m4<;>cases m5<;>cases m6<;>rfl
   rfl
  rfl
 rfl
theorem node_ref{N:Nat}{k a b c d:Int}{l:List Nd}{n:Nat}{mn mx lv:Int}{s:ByteArray}(hN:9300000000000000000≤N):
 F_91 N k a b c d l mn mx s lv (n:Int)=some (okB k (([a,b,c,d]:List Int)== [0,0,0,0]) n mn mx (s.toList==ByteArray.empty.toList) (nmB (sl s))):=by
 unfold F_91 okB kindB bareB;rw[nm_ref hN,show(k != 1)= !(k==1)from rfl,show(k != 4)= !(k==4)from rfl,show(k != 5)= !(k==5)from rfl,show(mn != 0)= !(mn==0)from rfl,show(mx != 0)= !(mx==0)from rfl,show(([a,b,c,d]:List Int) != [0,0,0,0])= !(([a,b,c,d]:List Int)== [0,0,0,0])from rfl,show(s.toList != ByteArray.empty.toList)= !(s.toList==ByteArray.empty.toList)from rfl,show((n:Int) != 1)= !((n:Int)==1)from rfl,show((n:Int)==0)=(n==0)from beq_nat _ 0,show((n:Int)==1)=(n==1)from beq_nat _ 1]
 have e3:decide ((n:Int)>1)=decide (2≤n):=by
  rw[Bool.eq_iff_iff,decide_eq_true_eq,decide_eq_true_eq];omega
 have e4:decide (mn<0)= !decide (0≤mn):=by
  rw[Bool.eq_iff_iff];simp
 have e5:decide (mn>40)= !decide (mn≤40):=by
  rw[Bool.eq_iff_iff];simp
 rw[e3,e4,e5];simp only[ge_iff_le];generalize(([a,b,c,d]:List Int)== [0,0,0,0])=z;generalize(s.toList==ByteArray.empty.toList)=e;generalize nmB (sl s)=q;generalize(n==0)=n0;generalize(n==1)=n1;generalize decide (2≤n)=n2;generalize decide (0≤mn)=m1;generalize decide (mn≤40)=m2;generalize(mx== -1)=m3;generalize decide (mn≤mx)=m4;generalize decide (1≤mx)=m5;generalize decide (mx≤40)=m6;generalize(mn==0)=m7;generalize(mx==0)=m8;cases h1:k==1
 ·cases h2:k==2
  ·cases h3:k==3
   ·cases h4:k==4
    ·cases h5:k==5<;>cases z<;>cases e<;>cases m7<;>cases m8<;>cases n0<;>cases q<;>rfl
    have h5:(k==5)=false:=by
     rw[beq_iff_eq.1 h4];rfl
    rw[h5];cases z
    ·rfl
    cases e
    ·rfl
    cases n1<;>cases m1<;>cases m2<;>cases m3<;>cases m4<;>cases m5<;>cases m6<;>rfl
   have h4:(k==4)=false:=by
    rw[beq_iff_eq.1 h3];rfl
   have h5:(k==5)=false:=by
    rw[beq_iff_eq.1 h3];rfl
   rw[h4,h5];cases z<;>cases e<;>cases m7<;>cases m8<;>rfl
  have h4:(k==4)=false:=by
   rw[beq_iff_eq.1 h2];rfl
  have h5:(k==5)=false:=by
   rw[beq_iff_eq.1 h2];rfl
  rw[h4,h5];cases z<;>cases e<;>cases m7<;>cases m8<;>rfl
 have h4:(k==4)=false:=by
  rw[beq_iff_eq.1 h1];rfl
 have h5:(k==5)=false:=by
  rw[beq_iff_eq.1 h1];rfl
 rw[h4,h5];cases z<;>cases e<;>cases m7<;>cases m8<;>rfl
open Go Go.Eng
set_option maxRecDepth 100000
mutual
def wk:Nat→Nd→List (Nd×Int)
 |lv,.mk k s l a b t=>(.mk k s l a b t,(lv:Int))::(if lv>24 then []else wkL (lv+1) l)
def wkL:Nat→List Nd→List (Nd×Int)
 |_,[]=>[]
 |lv,x::l=>wk lv x++wkL lv l
end
theorem wk_un(lv:Nat)(t:Nd):wk lv t=(t,(lv:Int))::(if lv>24 then []else wkL (lv+1) (kd t)):=by
 cases t;simp only[wk];rfl
theorem wkL_drop{lv:Nat}{l:List Nd}{i:Nat}{x:Nd}(h:l[i]? =some x):wkL lv (l.drop i)=wk lv x++wkL lv (l.drop (i+1)):=by
 rw[List.drop_eq_getElem_cons (lt_len h)];simp only[wkL];rw[(List.getElem?_eq_some_iff.1 h).2]
def run{σ α:Type}(Y:α→σ→Option (σ×Bool)):List α→Nat→σ→Option ((σ×Int) ⊕ ((σ×Int) ⊕ (σ×Int)))
 | [],n,s=>some (.inr (.inr (s,(n:Int))))
 |_::_,0,s=>some (.inl (s,0))
 |x::xs,n+1,s=>Y x s >>= fun q=>if(!q.2)=true then some (.inr (.inl (q.1,((n+1:Nat):Int))))else run Y xs n q.1
def nxt{σ α:Type}(Y:α→σ→Option (σ×Bool))(ys:List α):(σ×Int) ⊕ ((σ×Int) ⊕ (σ×Int))→Option ((σ×Int) ⊕ ((σ×Int) ⊕ (σ×Int)))
 | .inl p=>some (.inl p)
 | .inr (.inl p)=>some (.inr (.inl p))
 | .inr (.inr p)=>run Y ys p.2.toNat p.1
theorem run_app{σ α:Type}(Y:α→σ→Option (σ×Bool))(ys:List α): ∀(xs:List α) (n:Nat) (s:σ),run Y (xs++ys) n s=run Y xs n s >>= nxt Y ys
 | [],n,s=>by simp[run,nxt,bind]
 |x::xs,0,s=>by simp[run,nxt,bind]
 |x::xs,n+1,s=>by
   simp only[List.cons_append,run,bind]
   cases Y x s with
   |none=>rfl
   |some q=>
     simp only[Option.bind_some];by_cases h:(!q.2)=true
     ·rw[if_pos h,if_pos h];rfl
     rw[if_neg h,if_neg h];exact run_app Y ys xs n q.1
def cv{σ:Type}:(σ×Int) ⊕ ((σ×Int) ⊕ (σ×Int))→(σ×Int) ⊕ ((σ×Int) ⊕ ((σ×Int) ⊕ (σ×Int)))
 | .inl p=> .inr (.inl p)
 | .inr (.inl p)=> .inr (.inr (.inl p))
 | .inr (.inr p)=> .inl p
theorem run_nat{σ α:Type}{Y:α→σ→Option (σ×Bool)}: ∀{xs:List α} {n:Nat} {s:σ} {p:σ×Int},run Y xs n s=some (.inr (.inr p))→ ∃m:Nat,p.2=(m:Int)∧m≤n
 | [],n,s,p,h=>by
   simp only[run,Option.some.injEq,Sum.inr.injEq]at h;subst h;exact⟨n,rfl,Nat.le_refl _⟩
 |x::xs,0,s,p,h=>by simp[run]at h
 |x::xs,n+1,s,p,h=>by
   simp only[run,bind]at h
   cases hy:Y x s with
   |none=>rw[hy]at h;simp at h
   |some q=>
     rw[hy]at h;simp only[Option.bind_some]at h;split at h
     ·simp at h
     obtain⟨m,h1,h2⟩:=run_nat h;exact⟨m,h1,by omega⟩
theorem walk_run{σ:Type}(Y:Nd×Int→σ→Option (σ×Bool)): ∀(c:Nat) (t:Nd),cnt t=c→ ∀(lv n N:Nat) (s:σ),cnt t+5≤N→cnt t<100000→lv≤25→n≤100000→
 F_16 N (n:Int) Y s t.un.1 t.un.2.1.1 t.un.2.1.2.1 t.un.2.1.2.2.1 t.un.2.1.2.2.2 t.un.2.2.1 t.un.2.2.2.1 t.un.2.2.2.2.1 t.un.2.2.2.2.2 (lv:Int)=run Y (wk lv t) n s:=by
 intro c
 induction c using Nat.strongRecOn with
 |ind c IH=>
   intro t hc lv n N s hN hb hlv hn;obtain⟨M,rfl⟩: ∃m,N=m+1:=⟨N-1,by omega⟩;have hcu:=cnt_un t;have hll:=cntL_len (kd t);rw[F_16,wk_un]
   cases n with
   |zero=>simp[run]
   |succ n=>
     have e0:(((n+1:Nat):Int)==0)=false:=by simp;omega
     have e1:w64 (((n+1:Nat):Int)-1)=(n:Int):=by rw[w64,wrap64]<;>omega
     simp only[e0,e1,Bool.false_eq_true,if_false,Nd.of_eq,run,bind]
     cases hY:Y (t,(lv:Int)) s with
     |none=>rfl
     |some q=>
       simp only[Option.bind_some];by_cases hq:(!q.2)=true
       ·rw[if_pos hq,if_pos hq]
       rw[if_neg hq,if_neg hq];by_cases h24:lv>24
       ·have:(lv:Int)>24:=by omega
        simp[this,h24,run]
       have h24': ¬(lv:Int)>24:=by omega
       simp only[h24',decide_false,Bool.false_eq_true,if_false,h24]
       have key: ∀(r i n K:Nat) (s:σ),i+r=(kd t).length→r<K→n≤100000→
        iterO K (fun s=>F_68 M (F_16 M) Y (kd t) (lv:Int) s.1 s.2.1 s.2.2) (s,(n:Int),(i:Int))=(run Y (wkL (lv+1) ((kd t).drop i)) n s).map cv:=by
        intro r
        induction r with
        |zero=>
          intro i n K s hi hK hn;obtain⟨K,rfl⟩: ∃m,K=m+1:=⟨K-1,by omega⟩;rw[List.drop_eq_nil_of_le (by omega)];simp only[iterO,F_68];rw[if_neg (by simp;omega)];simp[wkL,run,cv]
        |succ r ih=>
          intro i n K s hi hK hn;obtain⟨K,rfl⟩: ∃m,K=m+1:=⟨K-1,by omega⟩;have hlt:i<(kd t).length:=by omega
          have hx:(kd t)[i]? =some (kd t)[i]:=List.getElem?_eq_getElem hlt;generalize(kd t)[i]=x at hx;have hm:=cnt_kid (List.mem_of_getElem? hx);have hw:w64 ((lv:Int)+1)=((lv+1:Nat):Int):=w64_succ (by omega);have e:=IH (cnt x) (by omega) x rfl (lv+1) n M s (by omega) (by omega) (by omega) hn
          have hs:F_68 M (F_16 M) Y (kd t) (lv:Int) s (n:Int) (i:Int)=(run Y (wk (lv+1) x) n s).bind (fun z=>match z with
           | .inl p=>some (.inr (.inr (.inl p)))
           | .inr (.inl p)=>some (.inr (.inr (.inr (.inl p))))
           | .inr (.inr p)=>some (.inl (p.1,p.2,((i+1:Nat):Int)))):=by
           unfold F_68;rw[if_pos (by simpa using hlt),idx_of hx];simp only[bind,Option.bind_some];rw[hw,e,w64_succ (by omega)]
           cases run Y (wk (lv+1) x) n s with
           |none=>rfl
           |some z=>
             match z with
             | .inl p=>rfl
             | .inr (.inl p)=>rfl
             | .inr (.inr p)=>rfl
          rw[wkL_drop hx,run_app];simp only[iterO,hs]
          cases hr:run Y (wk (lv+1) x) n s with
          |none=>rfl
          |some z=>
            match z,hr with
            | .inl p,_=>rfl
            | .inr (.inl p),_=>rfl
            | .inr (.inr p),hr=>
              obtain⟨m,h1,h2⟩:=run_nat hr;obtain⟨s',q'⟩:=p;simp only at h1;subst h1;simp only[bind,Option.bind_some,nxt,Int.toNat_natCast];exact ih (i+1) m K s' (by omega) (by omega) (by omega)
       have:=key (kd t).length 0 n M q.1 (by omega) (by omega) (by omega);rw[List.drop_zero]at this;rw[show((0:Int))=((0:Nat):Int)from rfl,this]
       cases run Y (wkL (lv+1) (kd t)) n q.1 with
       |none=>rfl
       |some z=>
         match z with
         | .inl p=>rfl
         | .inr (.inl p)=>rfl
         | .inr (.inr p)=>rfl
def okT(t:Nd):Bool:=
 okB t.un.1 (([t.un.2.1.1,t.un.2.1.2.1,t.un.2.1.2.2.1,t.un.2.1.2.2.2]:List Int)== [0,0,0,0]) (kd t).length t.un.2.2.2.1 t.un.2.2.2.2.1 (t.un.2.2.2.2.2.toList==ByteArray.empty.toList) (nmB (sl t.un.2.2.2.2.2))
def okX(x:Nd×Int):Bool:=decide (x.2≤24)&&okT x.1
def rtT(t:Nd):Bool:=decide ((wk 1 t).length≤600)&&(wk 1 t).all okX
mutual
theorem wk_Q: ∀(lv:Nat) (t:Nd),NdQ t→ ∀x∈wk lv t,NdQ x.1
 |lv,.mk k s l a b t,h,x,hx=>by
   have hl:NdQL l:=by simp only[NdQ]at h;exact h.2
   simp only[wk]at hx;rcases List.mem_cons.1 hx with rfl|hx
   ·exact h
   split at hx
   ·simp at hx
   exact wkL_Q (lv+1) l hl x hx
theorem wkL_Q: ∀(lv:Nat) (l:List Nd),NdQL l→ ∀x∈wkL lv l,NdQ x.1
 |_,[],_,x,hx=>by simp[wkL]at hx
 |lv,y::l,h,x,hx=>by
   simp only[NdQL]at h;simp only[wkL]at hx;rcases List.mem_append.1 hx with hx|hx
   ·exact wk_Q lv y h.1 x hx
   exact wkL_Q lv l h.2 x hx
end
def yR(N:Nat):Nd×Int→Int ⊕ Unit→Option ((Int ⊕ Unit)×Bool):=YS (σ1:=Int) (σ2:=Unit) (fun x s=>F_67 N x.1 x.2 s)
theorem right_run{N:Nat}(hN:9300000000000000000≤N): ∀(l:List (Nd×Int)) (m:Nat),m≤600→(∀x∈l,NdQ x.1)→
 (if m+l.length≤600∧l.all okX=true then∃n,run (yR N) l (601-m) (.inl (m:Int))=some (.inr (.inr (.inl (((m+l.length:Nat)):Int),n)))
  else∃n,run (yR N) l (601-m) (.inl (m:Int))=some (.inr (.inl (.inr (),n))))
 | [],m,hm,_=>by
   rw[if_pos (by simpa using hm)];exact⟨_,rfl⟩
 |x::l,m,hm,hq=>by
   have hx:=hq x (by simp)
   have e:run (yR N) (x::l) (601-m) (.inl (m:Int))=
    (if m+1≤600∧okX x=true then run (yR N) l (601-(m+1)) (.inl ((m+1:Nat):Int))else some (.inr (.inl (.inr (),((601-m:Nat):Int))))):=by
    have r0:yR N x (.inl (m:Int))=some (if m+1≤600∧okX x=true then(.inl ((m+1:Nat):Int),true)else(.inr (),false)):=by
     show F_67 N x.1 x.2 (m:Int)=_;unfold F_67;rw[node_code hN hx.text,w64_succ (by omega)];have:okT x.1=okB x.1.un.1 (([x.1.un.2.1.1,x.1.un.2.1.2.1,x.1.un.2.1.2.2.1,x.1.un.2.1.2.2.2]:List Int)== [0,0,0,0]) x.1.un.2.2.1.length x.1.un.2.2.2.1 x.1.un.2.2.2.2.1 (x.1.un.2.2.2.2.2.toList==ByteArray.empty.toList) (nmB (sl x.1.un.2.2.2.2.2)):=rfl;rw[←this];unfold okX;by_cases h1:x.2>24
     ·have h1': ¬x.2≤24:=by omega
      simp[h1,h1']
     have h1':x.2≤24:=by omega
     by_cases h2:m+1≤600
     ·have h3: ¬600<(m:Int)+1:=by omega
      cases okT x.1<;>simp[h1,h1',h2,h3]
     have h3:600<(m:Int)+1:=by omega
     simp[h1,h2,h3]
    rw[show 601-m=(601-(m+1))+1 by omega];simp only[run];rw[r0];by_cases h:m+1≤600∧okX x=true
    ·rw[if_pos h,if_pos h];rfl
    rw[if_neg h,if_neg h];rfl
   rw[e];by_cases h1:m+1≤600∧okX x=true
   ·rw[if_pos h1];have ih:=right_run hN l (m+1) h1.1 (fun y hy=>hq y (by simp[hy]))
    have e2:(m+(x::l).length≤600∧(x::l).all okX=true)↔(m+1+l.length≤600∧l.all okX=true):=by
     simp only[List.length_cons,List.all_cons,h1.2,Bool.true_and];rw[show m+(l.length+1)=m+1+l.length by omega]
    by_cases h2:m+1+l.length≤600∧l.all okX=true
    ·rw[if_pos h2]at ih;rw[if_pos (e2.2 h2)];obtain⟨n,hn⟩:=ih;exact⟨n,by rw[hn,List.length_cons,show m+1+l.length=m+(l.length+1) by omega]⟩
    rw[if_neg h2]at ih;rw[if_neg (fun h=>h2 (e2.1 h))];exact ih
   rw[if_neg h1,if_neg]
   ·exact⟨_,rfl⟩
   rintro⟨h2,h3⟩;simp only[List.length_cons,List.all_cons,Bool.and_eq_true]at h2 h3;exact h1 ⟨by omega,h3.1⟩
theorem right_code{N:Nat}{t:Nd}(hN:9300000000000000000≤N)(hc:cnt t<1000)(hq:NdQ t):
 F_20 N t.un.1 t.un.2.1.1 t.un.2.1.2.1 t.un.2.1.2.2.1 t.un.2.1.2.2.2 t.un.2.2.1 t.un.2.2.2.1 t.un.2.2.2.2.1 t.un.2.2.2.2.2=some (rtT t):=by
 unfold F_20 F_62 F_104;have e:=walk_run (yR N) _ t rfl 1 601 N (.inl 0) (by omega) (by omega) (by omega) (by omega);have r:=right_run hN (wk 1 t) 0 (by omega) (fun x hx=>wk_Q 1 t hq x hx);simp only[bind,Option.bind_some];rw[show(YS (σ1:=Int) (σ2:=Unit) fun x s=>F_67 N x.1 x.2 s)=yR N from rfl,show((601:Int))=((601:Nat):Int)from rfl,show((1:Int))=((1:Nat):Int)from rfl,e];unfold rtT;by_cases h:0+(wk 1 t).length≤600∧(wk 1 t).all okX=true
 ·rw[if_pos h]at r;obtain⟨n,hn⟩:=r;have hn:run (yR N) (wk 1 t) 601 (.inl 0)=_:=hn;rw[hn];have h1:(wk 1 t).length≤600:=by omega
  simp[h.2,h1]
 rw[if_neg h]at r;obtain⟨n,hn⟩:=r;have hn:run (yR N) (wk 1 t) 601 (.inl 0)=_:=hn;rw[hn];by_cases h1:(wk 1 t).length≤600
 ·have:(wk 1 t).all okX=false:=by
   cases hh:(wk 1 t).all okX with
   |false=>rfl
   |true=>exact absurd ⟨by omega,hh⟩ h
  simp[this]
 simp[h1]
def stp(x:Nd×Int):Nd×Int×Int:=(Nd.of (x.1.un.1,(x.1.un.2.1.1,x.1.un.2.1.2.1,x.1.un.2.1.2.2.1,x.1.un.2.1.2.2.2),[],x.1.un.2.2.2.1,x.1.un.2.2.2.2.1,x.1.un.2.2.2.2.2),x.2,((kd x.1).length:Int))
theorem walk_ref: ∀(c:Nat) (t:Nd),cnt t=c→ ∀(lv N:Nat) (acc:List (Nd×Int×Int)),cnt t+5≤N→cnt t<100000→lv≤25→acc.length≤601→
 F_9 N t.un.1 t.un.2.1.1 t.un.2.1.2.1 t.un.2.1.2.2.1 t.un.2.1.2.2.2 t.un.2.2.1 t.un.2.2.2.1 t.un.2.2.2.2.1 t.un.2.2.2.2.2 (lv:Int) acc=some (acc++((wk lv t).take (601-acc.length)).map stp):=by
 intro c
 induction c using Nat.strongRecOn with
 |ind c IH=>
   intro t hc lv N acc hN hb hlv ha;obtain⟨M,rfl⟩: ∃m,N=m+1:=⟨N-1,by omega⟩;have hcu:=cnt_un t;have hll:=cntL_len (kd t);rw[F_9];by_cases h6:acc.length=601
   ·have:(acc.length:Int)≥601:=by omega
    rw[if_pos (by simpa using this),h6];simp
   have: ¬(acc.length:Int)≥601:=by omega
   rw[if_neg (by simpa using this),app_eq (by simp;omega)];simp only[bind,Option.bind_some];have e0:601-acc.length=(600-acc.length)+1:=by omega
   rw[wk_un,e0,List.take_succ_cons,List.map_cons];have e1:(Nd.of (t.un.1,(t.un.2.1.1,t.un.2.1.2.1,t.un.2.1.2.2.1,t.un.2.1.2.2.2),[],t.un.2.2.2.1,t.un.2.2.2.2.1,t.un.2.2.2.2.2),(lv:Int),(t.un.2.2.1.length:Int))=stp (t,(lv:Int)):=rfl;rw[e1];generalize stp (t,(lv:Int))=y;by_cases h24:lv>24
   ·have:(lv:Int)>24:=by omega
    rw[if_pos (by simpa using this),if_pos h24];simp
   have: ¬(lv:Int)>24:=by omega
   rw[if_neg (by simpa using this),if_neg h24]
   have key: ∀(r i K:Nat) (acc:List (Nd×Int×Int)),i+r=(kd t).length→r<K→acc.length≤601→
    iterO K (fun s=>F_42 M (F_9 M) (kd t) (lv:Int) s.1 s.2) (acc,(i:Int))=some (.inl (acc++((wkL (lv+1) ((kd t).drop i)).take (601-acc.length)).map stp))∨
    iterO K (fun s=>F_42 M (F_9 M) (kd t) (lv:Int) s.1 s.2) (acc,(i:Int))=some (.inr (acc++((wkL (lv+1) ((kd t).drop i)).take (601-acc.length)).map stp)):=by
    intro r
    induction r with
    |zero=>
      intro i K acc hi hK ha;obtain⟨K,rfl⟩: ∃m,K=m+1:=⟨K-1,by omega⟩;rw[List.drop_eq_nil_of_le (by omega)];refine .inl ?_;simp only[iterO,F_42];rw[if_neg (by simp;omega)];simp[wkL]
    |succ r ih=>
      intro i K acc hi hK ha;obtain⟨K,rfl⟩: ∃m,K=m+1:=⟨K-1,by omega⟩;have hlt:i<(kd t).length:=by omega
      have hx:(kd t)[i]? =some (kd t)[i]:=List.getElem?_eq_getElem hlt;generalize(kd t)[i]=x at hx;have hm:=cnt_kid (List.mem_of_getElem? hx);by_cases h6:acc.length=601
      ·refine .inr ?_;have:(acc.length:Int)≥601:=by omega
       simp only[iterO,F_42];rw[if_pos (by simpa using hlt),idx_of hx];simp only[bind,Option.bind_some];rw[if_pos (by simpa using this),h6];simp
      have h6': ¬(acc.length:Int)≥601:=by omega
      have hw:w64 ((lv:Int)+1)=((lv+1:Nat):Int):=w64_succ (by omega);have e:=IH (cnt x) (by omega) x rfl (lv+1) M acc (by omega) (by omega) (by omega) ha
      have hs:F_42 M (F_9 M) (kd t) (lv:Int) acc (i:Int)=some (.inl (acc++((wk (lv+1) x).take (601-acc.length)).map stp,((i+1:Nat):Int))):=by
       unfold F_42;rw[if_pos (by simpa using hlt),idx_of hx];simp only[bind,Option.bind_some];rw[if_neg (by simpa using h6'),hw,e,w64_succ (by omega)];rfl
      have hl:(acc++((wk (lv+1) x).take (601-acc.length)).map stp).length=acc.length+min (601-acc.length) (wk (lv+1) x).length:=by simp
      have g:=ih (i+1) K (acc++((wk (lv+1) x).take (601-acc.length)).map stp) (by omega) (by omega) (by rw[hl];omega)
      have e3:acc++((wk (lv+1) x).take (601-acc.length)).map stp++((wkL (lv+1) ((kd t).drop (i+1))).take (601-(acc++((wk (lv+1) x).take (601-acc.length)).map stp).length)).map stp=acc++((wkL (lv+1) ((kd t).drop i)).take (601-acc.length)).map stp:=by
       rw[hl,wkL_drop hx,List.take_append,List.map_append,List.append_assoc]
       congr 4
       omega
      rw[e3]at g;simp only[iterO,hs];exact g
   have hl:(acc++ [y]).length=acc.length+1:=by simp
   have g:=key (kd t).length 0 M (acc++ [y]) (by omega) (by omega) (by omega);rw[List.drop_zero,hl,show 601-(acc.length+1)=600-acc.length by omega,show acc++ [y]++((wkL (lv+1) (kd t)).take (600-acc.length)).map stp=acc++y::((wkL (lv+1) (kd t)).take (600-acc.length)).map stp by simp]at g;rw[show((0:Int))=((0:Nat):Int)from rfl];rcases g with g|g<;>rw[g]<;>rfl
theorem right_ref{N:Nat}{t:Nd}(hN:9300000000000000000≤N)(hc:cnt t<1000):
 F_29 N t.un.1 t.un.2.1.1 t.un.2.1.2.1 t.un.2.1.2.2.1 t.un.2.1.2.2.2 t.un.2.2.1 t.un.2.2.2.1 t.un.2.2.2.2.1 t.un.2.2.2.2.2=some (rtT t):=by
 unfold F_29;rw[show((1:Int))=((1:Nat):Int)from rfl,walk_ref _ t rfl 1 N [] (by omega) (by omega) (by omega) (by simp)];simp only[bind,Option.bind_some,List.nil_append,List.length_nil,Nat.sub_zero]
 rw[loop_any (((wk 1 t).take 601).map stp) (fun y=>decide (y.2.1>24)|| !okB y.1.un.1 (([y.1.un.2.1.1,y.1.un.2.1.2.1,y.1.un.2.1.2.2.1,y.1.un.2.1.2.2.2]:List Int)== [0,0,0,0]) y.2.2.toNat y.1.un.2.2.2.1 y.1.un.2.2.2.2.1 (y.1.un.2.2.2.2.2.toList==ByteArray.empty.toList) (nmB (sl y.1.un.2.2.2.2.2))) false (by simp;omega) (fun i y hy=>by
  have hi:=lt_len hy
  have hi6:i<601:=by
   simp at hi;omega
  unfold F_78;rw[if_pos (by simpa using hi),idx_of hy];simp only[bind,Option.bind_some]
  have hn:y.2.2=((y.2.2.toNat:Nat):Int):=by
   have:=List.mem_of_getElem? hy;obtain⟨x,_,rfl⟩:=List.mem_map.1 this;simp[stp]
  rw[hn,node_ref hN,w64_succ (by omega)];rw[←hn];by_cases h:y.2.1>24
  ·simp[h]
  generalize okB y.1.un.1 (([y.1.un.2.1.1,y.1.un.2.1.2.1,y.1.un.2.1.2.2.1,y.1.un.2.1.2.2.2]:List Int)== [0,0,0,0]) y.2.2.toNat y.1.un.2.2.2.1 y.1.un.2.2.2.2.1 (y.1.un.2.2.2.2.2.toList==ByteArray.empty.toList) (nmB (sl y.1.un.2.2.2.2.2))=q;cases q<;>simp[h]) (by unfold F_78;simp)]
 rw[List.any_map]
 have e2:((fun y:Nd×Int×Int=>decide (y.2.1>24)|| !okB y.1.un.1 (([y.1.un.2.1.1,y.1.un.2.1.2.1,y.1.un.2.1.2.2.1,y.1.un.2.1.2.2.2]:List Int)== [0,0,0,0]) y.2.2.toNat y.1.un.2.2.2.1 y.1.un.2.2.2.2.1 (y.1.un.2.2.2.2.2.toList==ByteArray.empty.toList) (nmB (sl y.1.un.2.2.2.2.2)))∘stp)=fun x=> !okX x:=by
  funext x
  have e3:decide (x.2>24)= !decide (x.2≤24):=by
   rw[Bool.eq_iff_iff];simp
  unfold okX;rw[Bool.not_and,←e3];rfl
 rw[e2];unfold rtT
 have e4:((wk 1 t).take 601).any (fun x=> !okX x)= !((wk 1 t).take 601).all okX:=by
  rw[List.any_eq_not_all_not];simp
 rw[e4];by_cases h:(wk 1 t).length≤600
 ·rw[List.take_of_length_le (by omega)];have:((wk 1 t).length:Int)≤600:=by omega
  cases(wk 1 t).all okX<;>simp[h,this]
 have: ¬(min 601 (wk 1 t).length≤600):=by omega
 cases((wk 1 t).take 601).all okX<;>simp[h]<;>omega
open Go Go.Eng
set_option maxRecDepth 100000
def RT(lv:Nat)(t:Nd):Prop:= ∀x∈wk lv t,okX x=true
theorem RT.node{lv:Nat}{t:Nd}(h:RT lv t):lv≤24∧okT t=true:=by
 have:=h (t,(lv:Int)) (by rw[wk_un];simp);unfold okX at this;simp only[Bool.and_eq_true,decide_eq_true_eq]at this;exact⟨by omega,this.2⟩
theorem wkL_mem{lv:Nat}{x:Nd}: ∀{l:List Nd},x∈l→ ∀y∈wk lv x,y∈wkL lv l
 |z::l,h,y,hy=>by
   simp only[wkL];rcases List.mem_cons.1 h with rfl|h
   ·exact List.mem_append.2 (.inl hy)
   exact List.mem_append.2 (.inr (wkL_mem h y hy))
theorem RT.kid{lv:Nat}{t x:Nd}(h:RT lv t)(hx:x∈kd t):RT (lv+1) x:=fun y hy=>by
 have h24:=h.node.1;refine h y ?_;rw[wk_un,if_neg (by omega)];exact List.mem_cons_of_mem _ (wkL_mem hx y hy)
theorem RT.of{t:Nd}(h:rtT t=true):RT 1 t:=by
 unfold rtT at h;simp only[Bool.and_eq_true,List.all_eq_true]at h;exact h.2
abbrev kn(t:Nd):Int:=t.un.1
abbrev lo(t:Nd):Int:=t.un.2.2.2.1
abbrev hi(t:Nd):Int:=t.un.2.2.2.2.1
theorem ok_kind{t:Nd}(h:okT t=true):(kn t=1∧kd t= [])∨kn t=2∨(kn t=3∧2≤(kd t).length)∨
 (kn t=4∧(kd t).length=1∧0≤lo t∧lo t≤40∧(hi t= -1∨(lo t≤hi t∧1≤hi t∧hi t≤40)))∨(kn t=5∧kd t= []):=by
 unfold okT okB kindB at h;rw[Bool.and_eq_true]at h;have h:=h.2;simp only[beq_iff_eq]at h;split at h
 ·rename_i h1;exact .inl ⟨h1,List.eq_nil_of_length_eq_zero (by simpa using h)⟩
 split at h
 ·rename_i h1;exact .inr (.inl h1)
 split at h
 ·rename_i h1;exact .inr (.inr (.inl ⟨h1,by simpa using h⟩))
 split at h
 ·rename_i h1;simp only[Bool.and_eq_true,Bool.or_eq_true,beq_iff_eq,decide_eq_true_eq]at h;have h2:hi t= -1∨((lo t≤hi t∧1≤hi t)∧hi t≤40):=h.2;exact .inr (.inr (.inr (.inl ⟨h1,h.1.1.1,h.1.1.2,h.1.2,h2.imp id fun h=>⟨h.1.1,h.1.2,h.2⟩⟩)))
 simp only[Bool.and_eq_true,beq_iff_eq]at h;exact .inr (.inr (.inr (.inr ⟨h.1.1,List.eq_nil_of_length_eq_zero h.1.2⟩)))
def adj(k mn mx x:Int):Int:=if k=4 then(if mx= -1 then min (x*(mn+1)) 1048576 else min (x*mx) 1048576)else x
mutual
def wgt:Nd→Int
 | .mk k _ l mn mx _=>wgtL k mn mx 1 l
def wgtL:Int→Int→Int→Int→List Nd→Int
 |_,_,_,w,[]=>w
 |k,mn,mx,w,x::l=>wgtL k mn mx (min (w+adj k mn mx (wgt x)) 1048576) l
end
theorem wgt_un(t:Nd):wgt t=wgtL (kn t) (lo t) (hi t) 1 (kd t):=by
 cases t;simp only[wgt];rfl
theorem wgtL_drop{k mn mx w:Int}{l:List Nd}{i:Nat}{x:Nd}(h:l[i]? =some x):wgtL k mn mx w (l.drop i)=wgtL k mn mx (min (w+adj k mn mx (wgt x)) 1048576) (l.drop (i+1)):=by
 rw[List.drop_eq_getElem_cons (lt_len h)];simp only[wgtL];rw[(List.getElem?_eq_some_iff.1 h).2]
theorem mul_bd{a b:Int}(h1:0≤a)(h2:a≤1048576)(h3:0≤b)(h4:b≤41):0≤a*b∧a*b≤42991616:=by
 refine⟨Int.mul_nonneg h1 h3,?_⟩;have:=Int.mul_le_mul h2 h4 h3 (by omega);omega
structure Bd(k mn mx:Int):Prop where
 b:k=4→0≤mn∧mn≤40∧(mx= -1∨(1≤mx∧mx≤40))
theorem ok_bd{t:Nd}(h:okT t=true):Bd (kn t) (lo t) (hi t):=⟨fun h4=>by
 rcases ok_kind h with⟨h1,_⟩|h1|⟨h1,_⟩|⟨_,_,a,b,c⟩|⟨h1,_⟩
 ·omega
 ·omega
 ·omega
 ·exact⟨a,b,by omega⟩
 omega⟩
theorem adj_bd{k mn mx x:Int}(h:Bd k mn mx)(h1:1≤x)(h2:x≤1048576):0≤adj k mn mx x∧adj k mn mx x≤1048576:=by
 unfold adj;split
 ·rename_i h4;obtain⟨a,b,c⟩:=h.b h4;split
  ·have:=(mul_bd (a:=x) (b:=mn+1) (by omega) h2 (by omega) (by omega)).1;omega
  have:=(mul_bd (a:=x) (b:=mx) (by omega) h2 (by omega) (by omega)).1;omega
 omega
theorem wgtL_bd{k mn mx:Int}(h:Bd k mn mx): ∀(l:List Nd) (w:Int),(∀x∈l,1≤wgt x∧wgt x≤1048576)→1≤w→w≤1048576→1≤wgtL k mn mx w l∧wgtL k mn mx w l≤1048576
 | [],w,_,h1,h2=>by simp only[wgtL];omega
 |x::l,w,hx,h1,h2=>by
   simp only[wgtL];have:=hx x (by simp);have:=adj_bd h this.1 this.2;exact wgtL_bd h l _ (fun y hy=>hx y (by simp[hy])) (by omega) (by omega)
theorem wgt_bd: ∀(c:Nat) (t:Nd),cnt t=c→ ∀lv,RT lv t→1≤wgt t∧wgt t≤1048576:=by
 intro c
 induction c using Nat.strongRecOn with
 |ind c IH=>
   intro t hc lv h;rw[wgt_un];exact wgtL_bd (ok_bd h.node.2) _ _ (fun x hx=>IH (cnt x) (by have:=cnt_kid hx;omega) x rfl _ (h.kid hx)) (by omega) (by omega)
theorem cut_spec(N:Nat)(x:Int):F_69 N x=some (min x 1048576):=by
 unfold F_69;by_cases h:x>1048576
 ·rw[if_pos (by simpa using h)]
  congr 1;omega
 rw[if_neg (by simpa using h)]
 congr 1;omega
theorem weight_ref: ∀(c:Nat) (t:Nd),cnt t=c→ ∀(lv N:Nat),RT lv t→cnt t+5≤N→cnt t<100000→
 F_12 N t.un.1 t.un.2.1.1 t.un.2.1.2.1 t.un.2.1.2.2.1 t.un.2.1.2.2.2 t.un.2.2.1 t.un.2.2.2.1 t.un.2.2.2.2.1 t.un.2.2.2.2.2=some (wgt t):=by
 intro c
 induction c using Nat.strongRecOn with
 |ind c IH=>
   intro t hc lv N h hN hb;obtain⟨M,rfl⟩: ∃m,N=m+1:=⟨N-1,by omega⟩;have hcu:=cnt_un t;have hll:=cntL_len (kd t);have hbd:=ok_bd h.node.2;rw[F_12]
   have key: ∀(r i K:Nat) (w:Int),i+r=(kd t).length→r<K→1≤w→w≤1048576→
    iterO K (fun s=>F_51 M (F_12 M) (kn t) (kd t) (lo t) (hi t) s.1 s.2) ((i:Int),w)=some (wgtL (kn t) (lo t) (hi t) w ((kd t).drop i)):=by
    intro r
    induction r with
    |zero=>
      intro i K w hi_ hK h1 h2;obtain⟨K,rfl⟩: ∃m,K=m+1:=⟨K-1,by omega⟩;rw[List.drop_eq_nil_of_le (by omega)];simp only[iterO,F_51];rw[if_neg (by simp;omega)];simp[wgtL]
    |succ r ih=>
      intro i K w hi_ hK h1 h2;obtain⟨K,rfl⟩: ∃m,K=m+1:=⟨K-1,by omega⟩;have hlt:i<(kd t).length:=by omega
      have hx:(kd t)[i]? =some (kd t)[i]:=List.getElem?_eq_getElem hlt;generalize(kd t)[i]=x at hx;have hmem:=List.mem_of_getElem? hx;have hm:=cnt_kid hmem;have e:=IH (cnt x) (by omega) x rfl (lv+1) M (h.kid hmem) (by omega) (by omega);have hw:=wgt_bd _ x rfl _ (h.kid hmem);have ha:=adj_bd hbd hw.1 hw.2
      have hs:F_51 M (F_12 M) (kn t) (kd t) (lo t) (hi t) (i:Int) w=some (.inl (((i+1:Nat):Int),min (w+adj (kn t) (lo t) (hi t) (wgt x)) 1048576)):=by
       unfold F_51;rw[if_pos (by simpa using hlt),idx_of hx];simp only[bind,Option.bind_some];rw[e,w64_succ (by omega)];simp only[Option.bind_some,cut_spec];have fin: ∀z:Int,0≤z→z≤1048576→w64 (w+z)=w+z:=fun z h3 h4=>by rw[w64,wrap64]<;>omega
       by_cases h4:kn t=4
       ·obtain⟨a,b,c⟩:=hbd.b h4;have e4:(kn t==4)=true:=by simpa using h4
        rw[e4];by_cases h5:hi t= -1
        ·have e5:(hi t== -1)=true:=by simpa using h5
         have eq1:w64 (lo t+1)=lo t+1:=by rw[w64,wrap64]<;>omega
         have mb:=mul_bd (a:=wgt x) (b:=lo t+1) (by omega) hw.2 (by omega) (by omega);have eq2:w64 (wgt x*(lo t+1))=wgt x*(lo t+1):=by rw[w64,wrap64]<;>omega
         have ea:adj (kn t) (lo t) (hi t) (wgt x)=min (wgt x*(lo t+1)) 1048576:=by unfold adj;rw[if_pos h4,if_pos h5]
         rw[ea]at ha;simp only[e5,if_true,Option.bind_some,eq1,eq2,ea,fin _ ha.1 ha.2]
        have e5:(hi t== -1)=false:=by simpa using h5
        have mb:=mul_bd (a:=wgt x) (b:=hi t) (by omega) hw.2 (by omega) (by omega);have eq2:w64 (wgt x*hi t)=wgt x*hi t:=by rw[w64,wrap64]<;>omega
        have ea:adj (kn t) (lo t) (hi t) (wgt x)=min (wgt x*hi t) 1048576:=by unfold adj;rw[if_pos h4,if_neg h5]
        rw[ea]at ha;simp only[e5,if_true,Bool.false_eq_true,if_false,Option.bind_some,eq2,ea,fin _ ha.1 ha.2]
       have e4:(kn t==4)=false:=by simpa using h4
       have ea:adj (kn t) (lo t) (hi t) (wgt x)=wgt x:=by unfold adj;rw[if_neg h4]
       rw[ea]at ha;simp only[e4,Bool.false_eq_true,if_false,Option.bind_some,ea,fin _ ha.1 ha.2]
      simp only[iterO,hs];rw[wgtL_drop hx];exact ih (i+1) K _ (by omega) (by omega) (by omega) (by omega)
   have g:=key (kd t).length 0 M 1 (by omega) (by omega) (by omega) (by omega);rw[List.drop_zero,←wgt_un]at g;show(iterO M (fun s=>F_51 M (F_12 M) (kn t) (kd t) (lo t) (hi t) s.1 s.2) (((0:Nat):Int),1) >>= _)=_;rw[g];rfl
open Go Go.Eng
set_option maxRecDepth 100000
theorem or_tot{N:Nat}(hN:5≤N)(x1 x2 x3 x4 x5 x6 x7 x8:Int): ∃r,F_13 N x1 x2 x3 x4 x5 x6 x7 x8=some r:=by
 obtain⟨M,rfl⟩: ∃m,N=m+5:=⟨N-5,by omega⟩;unfold F_13
 have s: ∀(j:Nat) (a b c d:Int),j<4→ ∃e f g h,F_73 (M+5) x5 x6 x7 x8 a b c d (j:Int)=some (.inl (e,f,g,h,((j+1:Nat):Int))):=fun j a b c d hj=>by
  unfold F_73;rw[if_pos (by simpa using(show(j:Int)<4 by omega))];have h1:j<([a,b,c,d]:List Int).length:=hj;have h2:j<([x5,x6,x7,x8]:List Int).length:=hj;simp only[idx_nat h1,idx_nat h2,bind,Option.bind_some,setI_nat h1];rw[w64_succ (by omega)];exact⟨_,_,_,_,rfl⟩
 obtain⟨a1,b1,c1,d1,h1⟩:=s 0 x1 x2 x3 x4 (by omega);obtain⟨a2,b2,c2,d2,h2⟩:=s 1 a1 b1 c1 d1 (by omega);obtain⟨a3,b3,c3,d3,h3⟩:=s 2 a2 b2 c2 d2 (by omega);obtain⟨a4,b4,c4,d4,h4⟩:=s 3 a3 b3 c3 d3 (by omega);have h5:F_73 (M+5) x5 x6 x7 x8 a4 b4 c4 d4 ((4:Nat):Int)=some (.inr (a4,b4,c4,d4)):=rfl;rw[show((0:Int))=((0:Nat):Int)from rfl];simp only[iterO,h1,h2,h3,h4,h5];exact⟨_,rfl⟩
theorem times_tot{N:Nat}(a b:Int): ∃r,F_61 N a b=some r:=by
 unfold F_61;by_cases h:a>0
 ·have:nz a=some ():=by unfold nz;rw[if_neg (by omega)]
  rw[if_pos (by simpa using h),this];simp only[bind,Option.bind_some];split<;>exact⟨_,rfl⟩
 rw[if_neg (by simpa using h)];exact⟨_,rfl⟩
theorem behind_tot{N:Nat}(hN:5≤N)(x1 x2 x18 x19:Bool)(x3 x4 x5 x6 x7 x8 x9 x10 x11 x12 x13 x14 x15 x16 x17:Int)(x20 x21 x22 x23 x24 x25 x26 x27 x28 x29 x30 x31 x32 x33 x34:Int): ∃r,F_96 N x1 x2 x3 x4 x5 x6 x7 x8 x9 x10 x11 x12 x13 x14 x15 x16 x17 x18 x19 x20 x21 x22 x23 x24 x25 x26 x27 x28 x29 x30 x31 x32 x33 x34=some r:=by
 have o:=or_tot hN;unfold F_96 F_50 F_38;simp only[bind,Option.bind_some];obtain⟨⟨p1,p2,p3,p4⟩,e1⟩:=o x14 x15 x16 x17 x31 x32 x33 x34;obtain⟨⟨q1,q2,q3,q4⟩,e2⟩:=o x6 x7 x8 x9 x23 x24 x25 x26;obtain⟨⟨r1,r2,r3,r4⟩,e3⟩:=o x27 x28 x29 x30 x10 x11 x12 x13;rw[e1,e2,e3];cases x1<;>cases x18<;>cases x2<;>cases x19<;>exact⟨_,rfl⟩
theorem orF_tot{N:Nat}(hN:5≤N)(x1 x2 x18 x19:Bool)(x3 x4 x5 x6 x7 x8 x9 x10 x11 x12 x13 x14 x15 x16 x17:Int)(x20 x21 x22 x23 x24 x25 x26 x27 x28 x29 x30 x31 x32 x33 x34:Int): ∃r,F_97 N x1 x2 x3 x4 x5 x6 x7 x8 x9 x10 x11 x12 x13 x14 x15 x16 x17 x18 x19 x20 x21 x22 x23 x24 x25 x26 x27 x28 x29 x30 x31 x32 x33 x34=some r:=by
 have o:=or_tot hN;unfold F_97;simp only[bind];obtain⟨⟨p1,p2,p3,p4⟩,e1⟩:=o x14 x15 x16 x17 x31 x32 x33 x34;obtain⟨⟨q1,q2,q3,q4⟩,e2⟩:=o x6 x7 x8 x9 x23 x24 x25 x26;obtain⟨⟨r1,r2,r3,r4⟩,e3⟩:=o x10 x11 x12 x13 x27 x28 x29 x30;rw[e1,e2,e3];cases x1<;>cases x18<;>cases x2<;>exact⟨_,rfl⟩
theorem again_tot{N:Nat}(x1 x2:Bool)(x3 x4 x5 x6 x7 x8 x9 x10 x11 x12 x13 x14 x15 x16 x17 x18 x19:Int): ∃r,F_95 N x1 x2 x3 x4 x5 x6 x7 x8 x9 x10 x11 x12 x13 x14 x15 x16 x17 x18 x19=some r:=by
 unfold F_95 F_84 F_50;obtain⟨a,e1⟩:=times_tot (N:=N) x3 x18;obtain⟨b,e2⟩:=times_tot (N:=N) x4 x19;rw[e1,e2];simp only[bind,Option.bind_some];cases x1
 ·cases x2<;>cases x19==(-1)<;>cases decide (x4>0)<;>exact⟨_,rfl⟩
 cases x18==0<;>exact⟨_,rfl⟩
open Go Go.Eng
set_option maxRecDepth 100000
theorem l1_tot{M:Nat}(hM:5≤M)(lst:List (Bool×Bool×Int×Int×Int×(Int×Int×Int×Int)×(Int×Int×Int×Int)×(Int×Int×Int×Int)))(hl:lst.length<M)(hl2:lst.length<4294967296)(s0:Bool×Bool×Int×Int×Int×Int×Int×Int×Int×Int×Int×Int×Int×Int×Int×Int): ∃r,iterO M (fun s:Int×Bool×Bool×Int×Int×Int×Int×Int×Int×Int×Int×Int×Int×Int×Int×Int×Int=>F_65 M lst s.1 s.2.1 s.2.2.1 s.2.2.2.1 s.2.2.2.2.1 s.2.2.2.2.2.1 s.2.2.2.2.2.2.1 s.2.2.2.2.2.2.2.1 s.2.2.2.2.2.2.2.2.1 s.2.2.2.2.2.2.2.2.2.1 s.2.2.2.2.2.2.2.2.2.2.1 s.2.2.2.2.2.2.2.2.2.2.2.1 s.2.2.2.2.2.2.2.2.2.2.2.2.1 s.2.2.2.2.2.2.2.2.2.2.2.2.2.1 s.2.2.2.2.2.2.2.2.2.2.2.2.2.2.1 s.2.2.2.2.2.2.2.2.2.2.2.2.2.2.2.1 s.2.2.2.2.2.2.2.2.2.2.2.2.2.2.2.2) (0,s0)=some r:=by
 obtain⟨r,h,_⟩:=loop_inv (f:=fun s:Int×Bool×Bool×Int×Int×Int×Int×Int×Int×Int×Int×Int×Int×Int×Int×Int×Int=>F_65 M lst s.1 s.2.1 s.2.2.1 s.2.2.2.1 s.2.2.2.2.1 s.2.2.2.2.2.1 s.2.2.2.2.2.2.1 s.2.2.2.2.2.2.2.1 s.2.2.2.2.2.2.2.2.1 s.2.2.2.2.2.2.2.2.2.1 s.2.2.2.2.2.2.2.2.2.2.1 s.2.2.2.2.2.2.2.2.2.2.2.1 s.2.2.2.2.2.2.2.2.2.2.2.2.1 s.2.2.2.2.2.2.2.2.2.2.2.2.2.1 s.2.2.2.2.2.2.2.2.2.2.2.2.2.2.1 s.2.2.2.2.2.2.2.2.2.2.2.2.2.2.2.1 s.2.2.2.2.2.2.2.2.2.2.2.2.2.2.2.2) (fun i (s:Bool×Bool×Int×Int×Int×Int×Int×Int×Int×Int×Int×Int×Int×Int×Int×Int)=>((i:Int),s)) id lst (fun _ _=>True) (N:=M) (s:=s0) hl trivial (fun i y s hx _=>by
  have hi:=lt_len hx;obtain⟨b1,b2,a3,a4,a5,a6,a7,a8,a9,a10,a11,a12,a13,a14,a15,a16⟩:=s;obtain⟨y1,y2,y3,y4,y5,⟨y6,y7,y8,y9⟩,⟨y10,y11,y12,y13⟩,⟨y14,y15,y16,y17⟩⟩:=y;obtain⟨r,e⟩:=behind_tot hM b1 b2 y1 y2 a3 a4 0 a5 a6 a7 a8 a9 a10 a11 a12 a13 a14 a15 a16 y3 y4 y5 y6 y7 y8 y9 y10 y11 y12 y13 y14 y15 y16 y17;unfold F_65;rw[if_pos (by simpa using hi),idx_of hx];simp only[bind,Option.bind_some];rw[e,w64_succ (by omega)];exact⟨r,rfl,trivial⟩) (fun s _=>by unfold F_65;simp)
 exact⟨r,h⟩
theorem l2_tot{M:Nat}(hM:5≤M)(lst:List (Bool×Bool×Int×Int×Int×(Int×Int×Int×Int)×(Int×Int×Int×Int)×(Int×Int×Int×Int)))(hl:lst.length<M)(hl2:lst.length<4294967296)(s0:Bool×Bool×Int×Int×Int×Int×Int×Int×Int×Int×Int×Int×Int×Int×Int×Int×Int): ∃r,iterO M (fun s:Int×Bool×Bool×Int×Int×Int×Int×Int×Int×Int×Int×Int×Int×Int×Int×Int×Int×Int=>F_66 M lst s.1 s.2.1 s.2.2.1 s.2.2.2.1 s.2.2.2.2.1 s.2.2.2.2.2.1 s.2.2.2.2.2.2.1 s.2.2.2.2.2.2.2.1 s.2.2.2.2.2.2.2.2.1 s.2.2.2.2.2.2.2.2.2.1 s.2.2.2.2.2.2.2.2.2.2.1 s.2.2.2.2.2.2.2.2.2.2.2.1 s.2.2.2.2.2.2.2.2.2.2.2.2.1 s.2.2.2.2.2.2.2.2.2.2.2.2.2.1 s.2.2.2.2.2.2.2.2.2.2.2.2.2.2.1 s.2.2.2.2.2.2.2.2.2.2.2.2.2.2.2.1 s.2.2.2.2.2.2.2.2.2.2.2.2.2.2.2.2.1 s.2.2.2.2.2.2.2.2.2.2.2.2.2.2.2.2.2) (0,s0)=some r:=by
 obtain⟨r,h,_⟩:=loop_inv (f:=fun s:Int×Bool×Bool×Int×Int×Int×Int×Int×Int×Int×Int×Int×Int×Int×Int×Int×Int×Int=>F_66 M lst s.1 s.2.1 s.2.2.1 s.2.2.2.1 s.2.2.2.2.1 s.2.2.2.2.2.1 s.2.2.2.2.2.2.1 s.2.2.2.2.2.2.2.1 s.2.2.2.2.2.2.2.2.1 s.2.2.2.2.2.2.2.2.2.1 s.2.2.2.2.2.2.2.2.2.2.1 s.2.2.2.2.2.2.2.2.2.2.2.1 s.2.2.2.2.2.2.2.2.2.2.2.2.1 s.2.2.2.2.2.2.2.2.2.2.2.2.2.1 s.2.2.2.2.2.2.2.2.2.2.2.2.2.2.1 s.2.2.2.2.2.2.2.2.2.2.2.2.2.2.2.1 s.2.2.2.2.2.2.2.2.2.2.2.2.2.2.2.2.1 s.2.2.2.2.2.2.2.2.2.2.2.2.2.2.2.2.2) (fun i (s:Bool×Bool×Int×Int×Int×Int×Int×Int×Int×Int×Int×Int×Int×Int×Int×Int×Int)=>((i:Int),s)) id lst (fun _ _=>True) (N:=M) (s:=s0) hl trivial (fun i y s hx _=>by
  have hi:=lt_len hx;obtain⟨b1,b2,a3,a4,a5,a6,a7,a8,a9,a10,a11,a12,a13,a14,a15,a16,a17⟩:=s;obtain⟨y1,y2,y3,y4,y5,⟨y6,y7,y8,y9⟩,⟨y10,y11,y12,y13⟩,⟨y14,y15,y16,y17⟩⟩:=y;obtain⟨r,e⟩:=orF_tot hM b1 b2 y1 y2 a3 a4 a5 a6 a7 a8 a9 a10 a11 a12 a13 a14 a15 a16 a17 y3 y4 y5 y6 y7 y8 y9 y10 y11 y12 y13 y14 y15 y16 y17;unfold F_66;rw[if_pos (by simpa using hi),idx_of hx];simp only[bind,Option.bind_some];rw[e,w64_succ (by omega)];exact⟨r,rfl,trivial⟩) (fun s _=>by unfold F_66;simp)
 exact⟨r,h⟩
theorem wgtL_ne{k mn mx:Int}(h:k≠4): ∀(l:List Nd) (w:Int),wgtL k mn mx w l=wgtL 0 0 0 w l
 | [],w=>by simp only[wgtL]
 |x::l,w=>by
   simp only[wgtL];have e1:adj k mn mx (wgt x)=wgt x:=by unfold adj;rw[if_neg h]
   have e2:adj 0 0 0 (wgt x)=wgt x:=rfl;rw[e1,e2];exact wgtL_ne h l _
theorem imin_min(a b:Int):imin a b=min a b:=by
 unfold imin;split<;>omega
theorem times_spec{N:Nat}{a n:Int}(h1:1≤a)(h2:a≤1048576)(h3:0≤n)(h4:n≤41):F_61 N a n=some (min (a*n) 1048576):=by
 have mb:=mul_bd (a:=a) (b:=n) (by omega) h2 h3 h4;have ew:w64 (a*n)=a*n:=by rw[w64,wrap64]<;>omega
 have hq:(1048576:Int).tdiv a=1048576/a:=Int.tdiv_eq_ediv_of_nonneg (by omega);have hq0:0≤(1048576:Int)/a:=Int.ediv_nonneg (by omega) (by omega);have hq1:(1048576:Int)/a≤1048576:=Int.ediv_le_self _ (by omega)
 have hq2:(1048576:Int)<a*(1048576/a+1):=by
  have:=Int.lt_mul_ediv_self_add (x:=1048576) (k:=a) (by omega);rw[Int.mul_add,Int.mul_one];omega
 unfold F_61;have hn:nz a=some ():=by unfold nz;rw[if_neg (by omega)]
 rw[if_pos (by simpa using(show a>0 by omega)),hn];simp only[bind,Option.bind_some,hq];rw[show w64 ((1048576:Int)/a)=1048576/a by rw[w64,wrap64]<;>omega];by_cases c:n>1048576/a
 ·rw[if_pos (by simpa using c)];have:a*(1048576/a+1)≤a*n:=Int.mul_le_mul_of_nonneg_left (by omega) (by omega)
  congr 1
  omega
 rw[if_neg (by simpa using c),ew,imin_min]
set_option maxHeartbeats 1000000 in
theorem known_spec: ∀(c:Nat) (t:Nd),cnt t=c→ ∀(lv N:Nat),RT lv t→cnt t+10≤N→cnt t<100000→
 ∃r,F_4 N t.un.1 t.un.2.1.1 t.un.2.1.2.1 t.un.2.1.2.2.1 t.un.2.1.2.2.2 t.un.2.2.1 t.un.2.2.2.1 t.un.2.2.2.2.1 t.un.2.2.2.2.2=some r∧r.2.2.2.2.1=wgt t:=by
 intro c
 induction c using Nat.strongRecOn with
 |ind c IH=>
   intro t hc lv N h hN hb;obtain⟨M,rfl⟩: ∃m,N=m+1:=⟨N-1,by omega⟩;have hcu:=cnt_un t;have hll:=cntL_len (kd t);have hbd:=ok_bd h.node.2;have hkw: ∀x∈kd t,1≤wgt x∧wgt x≤1048576:=fun x hx=>wgt_bd _ x rfl _ (h.kid hx);rw[F_4]
   have key: ∀(r i K:Nat) (lst:List (Bool×Bool×Int×Int×Int×(Int×Int×Int×Int)×(Int×Int×Int×Int)×(Int×Int×Int×Int))) (w:Int),i+r=(kd t).length→r<K→lst.length=i→1≤w→w≤1048576→(∀(j:Nat) (x:Nd) (y:(Bool×Bool×Int×Int×Int×(Int×Int×Int×Int)×(Int×Int×Int×Int)×(Int×Int×Int×Int))),(kd t)[j]? =some x→lst[j]? =some y→y.2.2.2.2.1=wgt x)→
    ∃lst',iterO K (fun s=>F_60 M (F_4 M) (kd t) s.1 s.2.1 s.2.2) ((i:Int),lst,w)=some (lst',wgtL 0 0 0 w ((kd t).drop i))∧lst'.length=(kd t).length∧ ∀(j:Nat) (x:Nd) (y:(Bool×Bool×Int×Int×Int×(Int×Int×Int×Int)×(Int×Int×Int×Int)×(Int×Int×Int×Int))),(kd t)[j]? =some x→lst'[j]? =some y→y.2.2.2.2.1=wgt x:=by
    intro r
    induction r with
    |zero=>
      intro i K lst w hi_ hK hl h1 h2 hp;obtain⟨K,rfl⟩: ∃m,K=m+1:=⟨K-1,by omega⟩;rw[List.drop_eq_nil_of_le (by omega)];refine⟨lst,?_,by omega,hp⟩;simp only[iterO,F_60];rw[if_neg (by simp;omega)];simp[wgtL]
    |succ r ih=>
      intro i K lst w hi_ hK hl h1 h2 hp;obtain⟨K,rfl⟩: ∃m,K=m+1:=⟨K-1,by omega⟩;have hlt:i<(kd t).length:=by omega
      have hx:(kd t)[i]? =some (kd t)[i]:=List.getElem?_eq_getElem hlt;generalize(kd t)[i]=x at hx;have hmem:=List.mem_of_getElem? hx;have hm:=cnt_kid hmem;obtain⟨⟨f1,f2,f3,f4,f5,f6,f7,f8,f9,f10,f11,f12,f13,f14,f15,f16,f17⟩,e,ew⟩:=IH (cnt x) (by omega) x rfl (lv+1) M (h.kid hmem) (by omega) (by omega);simp only at ew;have hw:=hkw x hmem
      have hs:F_60 M (F_4 M) (kd t) (i:Int) lst w=some (.inl (((i+1:Nat):Int),lst++ [(f1,f2,f3,f4,f5,(f6,f7,f8,f9),(f10,f11,f12,f13),(f14,f15,f16,f17))],min (w+wgt x) 1048576)):=by
       unfold F_60;rw[if_pos (by simpa using hlt),idx_of hx];simp only[bind,Option.bind_some];rw[e,w64_succ (by omega)];simp only[Option.bind_some];rw[app_eq (by simp;omega)];simp only[Option.bind_some,F_38];rw[ew,imin_min,show w64 (w+wgt x)=w+wgt x by rw[w64,wrap64]<;>omega]
      obtain⟨lst',g1,g2,g3⟩:=ih (i+1) K (lst++ [(f1,f2,f3,f4,f5,(f6,f7,f8,f9),(f10,f11,f12,f13),(f14,f15,f16,f17))]) (min (w+wgt x) 1048576) (by omega) (by omega) (by simp[hl]) (by omega) (by omega) (fun j x' y hj hy=>by
       by_cases c:j<lst.length
       ·rw[List.getElem?_append_left c]at hy;exact hp j x' y hj hy
       have:=lt_len hy;simp at this;obtain rfl:j=i:=by omega
       rw[List.getElem?_append_right (by omega),hl,Nat.sub_self]at hy;simp only[List.getElem?_cons_zero,Option.some.injEq]at hy;rw[hx]at hj;obtain rfl:=Option.some.inj hj;rw[←hy];exact ew)
      refine⟨lst',?_,g2,g3⟩;simp only[iterO,hs];rw[wgtL_drop hx];exact g1
   obtain⟨lst,g,hl,hp⟩:=key (kd t).length 0 M [] 1 (by omega) (by omega) rfl (by omega) (by omega) (fun j x y _ hy=>by simp at hy);rw[List.drop_zero]at g;have g:iterO M (fun s=>F_60 M (F_4 M) (kd t) s.1 s.2.1 s.2.2) (0,[],1)=some (lst,wgtL 0 0 0 1 (kd t)):=g;rw[g];simp only[bind,Option.bind_some];have hwne:kn t≠4→wgtL 0 0 0 1 (kd t)=wgt t:=fun hne=>by rw[wgt_un,wgtL_ne hne]
   generalize wgtL 0 0 0 1 (kd t)=W at hwne;rcases ok_kind h.node.2 with⟨k1,_⟩|k2|⟨k3,n3⟩|⟨k4,n4,a,b,c⟩|⟨k5,_⟩
   ·have e1:(t.un.1==1)=true:=by simpa using k1
    have hW:=hwne (by omega);rw[if_pos e1];unfold F_83 F_50;simp only[Option.bind_some];split<;>exact⟨_,rfl,hW⟩
   ·have e1: ¬(t.un.1==1)=true:=by show¬(kn t==1)=true;rw[k2];decide
    have e2:(t.un.1==2)=true:=by simpa using k2
    have hW:=hwne (by omega);rw[if_neg e1,if_pos e2];unfold F_84;simp only[Option.bind_some];obtain⟨⟨r1,r2,r3,r4,r5,r6,r7,r8,r9,r10,r11,r12,r13,r14,r15,r16⟩,er⟩:=l1_tot (M:=M) (by omega) lst (by omega) (by omega) (false,true,0,0,0,0,0,0,0,0,0,0,0,0,0,0);rw[er];exact⟨_,rfl,hW⟩
   ·have e1: ¬(t.un.1==1)=true:=by show¬(kn t==1)=true;rw[k3];decide
    have e2: ¬(t.un.1==2)=true:=by show¬(kn t==2)=true;rw[k3];decide
    have e3:(t.un.1==3)=true:=by simpa using k3
    have hW:=hwne (by omega);rw[if_neg e1,if_neg e2,if_pos e3];have h0:0<lst.length:=by omega
    have i0:idx lst 0=some lst[0]:=idx_nat h0
    have s0:slc lst 1 (lst.length:Int)=some (lst.drop 1):=by
     unfold slc;rw[if_pos (by omega)];simp
    rw[i0];simp only[Option.bind_some];rw[s0];simp only[Option.bind_some];obtain⟨⟨r1,r2,r3,r4,r5,r6,r7,r8,r9,r10,r11,r12,r13,r14,r15,r16,r17⟩,er⟩:=l2_tot (M:=M) (by omega) (lst.drop 1) (by simp;omega) (by simp;omega) (lst[0].1,lst[0].2.1,lst[0].2.2.1,lst[0].2.2.2.1,lst[0].2.2.2.2.1,lst[0].2.2.2.2.2.1.1,lst[0].2.2.2.2.2.1.2.1,lst[0].2.2.2.2.2.1.2.2.1,lst[0].2.2.2.2.2.1.2.2.2,lst[0].2.2.2.2.2.2.1.1,lst[0].2.2.2.2.2.2.1.2.1,lst[0].2.2.2.2.2.2.1.2.2.1,lst[0].2.2.2.2.2.2.1.2.2.2,lst[0].2.2.2.2.2.2.2.1,lst[0].2.2.2.2.2.2.2.2.1,lst[0].2.2.2.2.2.2.2.2.2.1,lst[0].2.2.2.2.2.2.2.2.2.2);rw[er];exact⟨_,rfl,hW⟩
   ·have e1: ¬(t.un.1==1)=true:=by show¬(kn t==1)=true;rw[k4];decide
    have e2: ¬(t.un.1==2)=true:=by show¬(kn t==2)=true;rw[k4];decide
    have e3: ¬(t.un.1==3)=true:=by show¬(kn t==3)=true;rw[k4];decide
    have e4:(t.un.1==4)=true:=by simpa using k4
    rw[if_neg e1,if_neg e2,if_neg e3,if_pos e4];have h0:0<lst.length:=by omega
    have i0:idx lst 0=some lst[0]:=idx_nat h0
    obtain⟨x,hz⟩: ∃z,kd t= [z]:=by
     match hk:kd t,n4 with
     | [z],_=>exact⟨z,rfl⟩
    have hx:(kd t)[0]? =some x:=by rw[hz];rfl
    have hy:lst[0]? =some lst[0]:=List.getElem?_eq_getElem h0;have hwy:=hp 0 _ _ hx hy;have hkx:=hkw _ (List.mem_of_getElem? hx)
    have hwt:wgt t=min (1+adj (kn t) (lo t) (hi t) (wgt x)) 1048576:=by
     rw[wgt_un,hz];simp only[wgtL]
    rw[i0];simp only[Option.bind_some];obtain⟨⟨r1,r2,r3,r4,r5,r6,r7,r8,r9,r10,r11,r12,r13,r14,r15,r16,r17⟩,er⟩:=again_tot (N:=M) lst[0].1 lst[0].2.1 lst[0].2.2.1 lst[0].2.2.2.1 lst[0].2.2.2.2.1 lst[0].2.2.2.2.2.1.1 lst[0].2.2.2.2.2.1.2.1 lst[0].2.2.2.2.2.1.2.2.1 lst[0].2.2.2.2.2.1.2.2.2 lst[0].2.2.2.2.2.2.1.1 lst[0].2.2.2.2.2.2.1.2.1 lst[0].2.2.2.2.2.2.1.2.2.1 lst[0].2.2.2.2.2.2.1.2.2.2 lst[0].2.2.2.2.2.2.2.1 lst[0].2.2.2.2.2.2.2.2.1 lst[0].2.2.2.2.2.2.2.2.2.1 lst[0].2.2.2.2.2.2.2.2.2.2 t.un.2.2.2.1 t.un.2.2.2.2.1;rw[er];simp only[Option.bind_some];rw[hwy];unfold F_38
    have fin: ∀z:Int,0≤z→z≤1048576→imin (w64 (1+z)) 1048576=min (1+z) 1048576:=fun z h3 h4=>by
     rw[imin_min,show w64 (1+z)=1+z by rw[w64,wrap64]<;>omega]
    have ha:=adj_bd hbd hkx.1 hkx.2;by_cases h5:hi t= -1
    ·have e5:(t.un.2.2.2.2.1== -1)=true:=by simpa using h5
     have eq1:w64 (t.un.2.2.2.1+1)=lo t+1:=by
      show w64 (lo t+1)=_;rw[w64,wrap64]<;>omega
     rw[if_pos e5,eq1];simp only[Option.bind_some];rw[times_spec hkx.1 hkx.2 (by omega) (by omega)];have ea:adj (kn t) (lo t) (hi t) (wgt x)=min (wgt x*(lo t+1)) 1048576:=by unfold adj;rw[if_pos k4,if_pos h5]
     rw[ea]at ha hwt;refine⟨_,rfl,?_⟩;exact(fin _ ha.1 ha.2).trans hwt.symm
    have e5: ¬(t.un.2.2.2.2.1== -1)=true:=by simpa using h5
    rw[if_neg e5];simp only[Option.bind_some];rw[times_spec hkx.1 hkx.2 (show 0≤hi t by omega) (show hi t≤41 by omega)];have ea:adj (kn t) (lo t) (hi t) (wgt x)=min (wgt x*hi t) 1048576:=by unfold adj;rw[if_pos k4,if_neg h5]
    rw[ea]at ha hwt;refine⟨_,rfl,?_⟩;exact(fin _ ha.1 ha.2).trans hwt.symm
   have e1: ¬(t.un.1==1)=true:=by show¬(kn t==1)=true;rw[k5];decide
   have e2: ¬(t.un.1==2)=true:=by show¬(kn t==2)=true;rw[k5];decide
   have e3: ¬(t.un.1==3)=true:=by show¬(kn t==3)=true;rw[k5];decide
   have e4: ¬(t.un.1==4)=true:=by show¬(kn t==4)=true;rw[k5];decide
   have hW:=hwne (by omega);rw[if_neg e1,if_neg e2,if_neg e3,if_neg e4];exact⟨_,rfl,hW⟩
theorem weight_code{N:Nat}{t:Nd}(hN:9300000000000000000≤N)(hc:cnt t<1000)(hq:NdQ t)(h:rtT t=true):
 F_94 N t.un.1 t.un.2.1.1 t.un.2.1.2.1 t.un.2.1.2.2.1 t.un.2.1.2.2.2 t.un.2.2.1 t.un.2.2.2.1 t.un.2.2.2.2.1 t.un.2.2.2.2.2=some (wgt t):=by
 unfold F_94 F_103;obtain⟨⟨r1,r2,r3,r4,r5,r6,r7,r8,r9,r10,r11,r12,r13,r14,r15,r16,r17⟩,e,ew⟩:=known_spec _ t rfl 1 N (RT.of h) (by omega) (by omega);rw[right_code hN hc hq,h,e];simp only at ew;rw[←ew];rfl
open Go Go.Eng
set_option maxRecDepth 100000
def sumF:List Stt→Nat
 | []=>0
 |s::l=>s.1.length+sumF l
theorem sumF_app: ∀(a b:List Stt),sumF (a++b)=sumF a+sumF b
 | [],b=>by simp[sumF]
 |s::a,b=>by
   simp only[List.cons_append,sumF];rw[sumF_app a b];omega
theorem sumF_set: ∀(S:List Stt) (f:Nat) (x y:Stt),S[f]? =some x→sumF (S.set f y)+x.1.length=sumF S+y.1.length
 | [],f,x,y,h=>by simp at h
 |s::S,0,x,y,h=>by
   simp at h;subst h;simp only[List.set_cons_zero,sumF];omega
 |s::S,f+1,x,y,h=>by
   have:=sumF_set S f x y (by simpa using h);simp only[List.set_cons_succ,sumF];omega
theorem sumF_get: ∀{S:List Stt} {f:Nat} {x:Stt},S[f]? =some x→x.1.length≤sumF S
 | [],f,x,h=>by simp at h
 |s::S,0,x,h=>by
   simp at h;subst h;simp only[sumF];omega
 |s::S,f+1,x,h=>by
   have:=sumF_get (S:=S) (f:=f) (by simpa using h);simp only[sumF];omega
structure SO(n:Int)(s:Stt):Prop where
 to: -1≤s.2.2.1∧s.2.2.1<n
 set0:s.2.2.1= -1→s.2.1=(0,0,0,0)
 rul: -1≤s.2.2.2∧s.2.2.2≤47
 free: ∀x∈s.1,0≤x∧x<n
theorem SO.mono{n m:Int}{s:Stt}(h:SO n s)(hm:n≤m):SO m s:=
 ⟨by have:=h.to;omega,h.set0,h.rul,fun x hx=>by have:=h.free x hx;omega⟩
structure MI(S:List Stt):Prop where
 n:S.length≤4000
 s: ∀s∈S,SO S.length s
 f:sumF S≤1000000+4*S.length
def er(b:Bool):Int:=if b then 2 else 0
theorem eOk_er(b:Bool):eOk errIds (er b)=b:=by cases b<;>rfl
abbrev nw:Stt:=([],(((0:Int),(0:Int),(0:Int),(0:Int)),((-1):Int),((-1):Int)))
theorem SO.nw{n:Int}(h:0≤n):SO n nw:=⟨by simp;omega,fun _=>rfl,by simp,fun x hx=>by simp at hx⟩
def mkS(S:List Stt)(b:Bool):List Stt×Bool×Int:=if 4000≤S.length then(S,true,0)else(S++ [nw],b,(S.length:Int))
theorem state_code(N:Nat)(S:List Stt)(E:List Int)(b:Bool):F_19 N S E (er b)=some ((mkS S b).1,er (mkS S b).2.1,(mkS S b).2.2):=by
 unfold F_19 mkS;by_cases h:4000≤S.length
 ·have:(S.length:Int)≥4000:=by omega
  rw[if_pos (by simpa using this),if_pos h];rfl
 have: ¬(S.length:Int)≥4000:=by omega
 rw[if_neg (by simpa using this),if_neg h,app_eq (by simp;omega)];simp only[bind,Option.bind_some];rw[show w64 (((S++ [nw]).length:Int)-1)=(S.length:Int) by rw[w64,wrap64]<;>simp<;>omega]
theorem state_ref(N:Nat)(S:List Stt)(E:List Int)(b:Bool):F_14 N S E b=some (mkS S b):=by
 unfold F_14 mkS;by_cases h:4000≤S.length
 ·have:(S.length:Int)≥4000:=by omega
  rw[if_pos (by simpa using this),if_pos h]
 have: ¬(S.length:Int)≥4000:=by omega
 rw[if_neg (by simpa using this),if_neg h,app_eq (by simp;omega)];simp only[bind,Option.bind_some];rw[show w64 (((S++ [nw]).length:Int)-1)=(S.length:Int) by rw[w64,wrap64]<;>simp<;>omega]
structure PS(c:Nat)(S:List Stt)(b:Bool)(S':List Stt)(b':Bool)(e:Int):Prop where
 s0:sumF S≤1000000+4*S.length
 mi:MI S'
 len:S.length≤S'.length
 g:sumF S'+4*S.length≤sumF S+4*S'.length
 ok:b'=false→b=false∧0≤e∧e<S'.length∧sumF S'+4*S.length+c≤sumF S+4*S'.length
theorem mkS_ps{S:List Stt}(b:Bool)(h:MI S):PS 4 S b (mkS S b).1 (mkS S b).2.1 (mkS S b).2.2:=by
 by_cases c:4000≤S.length
 ·have e:mkS S b=(S,true,0):=by unfold mkS;rw[if_pos c]
  rw[e];exact⟨h.f,h,Nat.le_refl _,Nat.le_refl _,fun hb=>by simp at hb⟩
 have e:mkS S b=(S++ [nw],b,(S.length:Int)):=by unfold mkS;rw[if_neg c]
 have hl:(S++ [nw]).length=S.length+1:=by simp
 have hs:sumF (S++ [nw])=sumF S:=by rw[sumF_app];rfl
 have hf:=h.f;rw[e];show PS 4 S b (S++ [nw]) b (S.length:Int);refine⟨hf,⟨by omega,fun s hs=>?_,by omega⟩,by omega,by omega,fun hb=>⟨hb,by omega,by omega,by omega⟩⟩;rcases List.mem_append.1 hs with hs|hs
 ·exact(h.s s hs).mono (by omega)
 simp only[List.mem_singleton]at hs;subst hs;exact .nw (by omega)
def frS(S:List Stt)(b:Bool)(f:Int)(l:List Int):List Stt:=if b then S else match S[f.toNat]? with|some x=>S.set f.toNat (x.1++l,x.2)|none=>S
theorem frS_len(S:List Stt)(b:Bool)(f:Int)(l:List Int):(frS S b f l).length=S.length:=by
 unfold frS;split
 ·rfl
 split<;>simp
theorem frS_get{S:List Stt}{f:Int}{l:List Int}{x:Stt}(h:S[f.toNat]? =some x):frS S false f l=S.set f.toNat (x.1++l,x.2):=by
 unfold frS;rw[h];rfl
theorem get_of{S:List Stt}{f:Int}(h:0≤f∧f<S.length): ∃x,S[f.toNat]? =some x:=⟨_,List.getElem?_eq_getElem (by omega)⟩
theorem frS_two{S:List Stt}{b:Bool}{f:Int}{k t:Int}:frS (frS S b f [k]) b f [t]=frS S b f [k,t]:=by
 cases b
 ·cases h:S[f.toNat]? with
  |none=>
    have: ∀l,frS S false f l=S:=fun l=>by simp[frS,h]
    rw[this,this,this]
  |some x=>
    rw[frS_get h,frS_get h];have hl:=lt_len h;rw[frS_get (x:=(x.1++ [k],x.2)) (by rw[List.getElem?_set_self hl])];simp
 rfl
theorem free_code{N:Nat}{S:List Stt}{E:List Int}{b:Bool}{f:Int}{l:List Int}(hf:b=false→0≤f∧f<S.length)(hs:sumF S≤2000000)(hl:l.length≤100000):F_48 N S E (er b) f l=some (frS S b f l):=by
 unfold F_48;rw[eOk_er];cases b
 ·obtain⟨x,hx⟩:=get_of (hf rfl);have hi:idx S f=some x:=by unfold idx;rw[if_pos (hf rfl).1,hx]
  have hxl:=sumF_get hx;rw[frS_get hx];simp only[Bool.not_false,if_true,hi,bind,Option.bind_some];rw[app_eq (by omega)];simp only[Option.bind_some];rw[setI_int (hf rfl).1 (lt_len hx)];rfl
 rfl
theorem free_ref{N:Nat}{S:List Stt}{E:List Int}{b:Bool}{f t:Int}(hf:b=false→0≤f∧f<S.length)(hs:sumF S≤2000000):F_17 N S E b f t=some (frS S b f [t]):=by
 unfold F_17;cases b
 ·obtain⟨x,hx⟩:=get_of (hf rfl);have hi:idx S f=some x:=by unfold idx;rw[if_pos (hf rfl).1,hx]
  have hxl:=sumF_get hx;rw[frS_get hx];simp only[Bool.not_false,if_true,hi,bind,Option.bind_some];rw[app_eq (by simp;omega)];simp only[Option.bind_some];rw[setI_int (hf rfl).1 (lt_len hx)];rfl
 rfl
theorem frS_sum{S:List Stt}{b:Bool}{f:Int}{l:List Int}(hf:b=false→0≤f∧f<S.length):sumF (frS S b f l)=sumF S+if b then 0 else l.length:=by
 cases b
 ·obtain⟨x,hx⟩:=get_of (hf rfl);rw[frS_get hx];have:=sumF_set S f.toNat x (x.1++l,x.2) hx;simp only[List.length_append]at this;simp only[Bool.false_eq_true,if_false];omega
 rfl
theorem frS_so{S:List Stt}{b:Bool}{f:Int}{l:List Int}{n:Int}(h: ∀s∈S,SO n s)(hl:b=false→ ∀x∈l,0≤x∧x<n): ∀s∈frS S b f l,SO n s:=by
 cases b
 ·unfold frS;simp only[Bool.false_eq_true,if_false];split
  ·rename_i x hx;intro s hs;rcases List.mem_or_eq_of_mem_set hs with hs|hs
   ·exact h s hs
   subst hs;have hx:=h x (List.mem_of_getElem? hx)
   exact⟨hx.to,hx.set0,hx.rul,fun y hy=>by
    rcases List.mem_append.1 hy with hy|hy
    ·exact hx.free y hy
    exact hl rfl y hy⟩
  exact h
 exact h
def frA(S:List Stt)(b:Bool)(t:Int)(ends:List Int):List Stt:=ends.foldl (fun S e=>frS S b e [t]) S
theorem frA_len(b:Bool)(t:Int): ∀(ends:List Int) (S:List Stt),(frA S b t ends).length=S.length
 | [],S=>rfl
 |e::ends,S=>by
   show(frA (frS S b e [t]) b t ends).length=_;rw[frA_len b t ends,frS_len]
theorem frA_sum{b:Bool}{t:Int}: ∀(ends:List Int) (S:List Stt),(b=false→ ∀e∈ends,0≤e∧e<S.length)→sumF (frA S b t ends)=sumF S+if b then 0 else ends.length
 | [],S,_=>by simp[frA]
 |e::ends,S,h=>by
   have e0:frA S b t (e::ends)=frA (frS S b e [t]) b t ends:=rfl;rw[e0,frA_sum ends _ (fun hb x hx=>by rw[frS_len];exact h hb x (by simp[hx])),frS_sum (fun hb=>h hb e (by simp))];cases b
   ·simp only[Bool.false_eq_true,if_false,List.length_cons,List.length_nil];omega
   rfl
theorem frA_so{b:Bool}{t n:Int}(ht:b=false→0≤t∧t<n): ∀(ends:List Int) (S:List Stt),(∀s∈S,SO n s)→ ∀s∈frA S b t ends,SO n s
 | [],S,h=>h
 |e::ends,S,h=>frA_so ht ends _ (frS_so h (fun hb x hx=>by simp only[List.mem_singleton]at hx;subst hx;exact ht hb))
theorem free_loop{f:List Stt×Int→Option ((List Stt×Int) ⊕ List Stt)}{N:Nat}{S:List Stt}{b:Bool}{t:Int}{ends:List Int}(hN:ends.length<N)(hl:ends.length≤100000)(hs:sumF S≤1100000)(he:b=false→ ∀e∈ends,0≤e∧e<S.length)
 (hb: ∀(i:Nat) (e:Int) (Z:List Stt),ends[i]? =some e→(b=false→0≤e∧e<Z.length)→sumF Z≤2000000→f (Z,(i:Int))=some (.inl (frS Z b e [t],((i+1:Nat):Int)))) (h0: ∀Z,f (Z,(ends.length:Int))=some (.inr Z)):
 iterO N f (S,0)=some (frA S b t ends):=by
 have:=loop_fold (f:=f) (fun i (Z:List Stt)=>(Z,(i:Int))) id ends (fun S e=>frS S b e [t]) (fun i Z=>Z.length=S.length∧sumF Z≤1100000+i) (N:=N) (s:=S) hN ⟨rfl,by omega⟩
  (fun i e Z hx hI=>by
   have hi:=lt_len hx;have hv:b=false→0≤e∧e<Z.length:=fun hb'=>by rw[hI.1];exact he hb' e (List.mem_of_getElem? hx)
   refine⟨hb i e Z hx hv (by omega),by rw[frS_len];exact hI.1,?_⟩;rw[frS_sum hv];cases b
   ·simp only[Bool.false_eq_true,if_false,List.length_cons,List.length_nil];omega
   simp only[if_true];omega)
  (fun Z _=>h0 Z)
 exact this
theorem PS.rfl'{S:List Stt}{b:Bool}{e:Int}(h:MI S)(he:b=false→0≤e∧e<S.length):PS 0 S b S b e:=
 ⟨h.f,h,Nat.le_refl _,Nat.le_refl _,fun hb=>⟨hb,(he hb).1,(he hb).2,Nat.le_refl _⟩⟩
theorem PS.trans{c d:Nat}{S S1 S2:List Stt}{b b1 b2:Bool}{e1 e2:Int}(h:PS c S b S1 b1 e1)(h2:PS d S1 b1 S2 b2 e2):PS (c+d) S b S2 b2 e2:=
 ⟨h.s0,h2.mi,by have:=h.len;have:=h2.len;omega,by have:=h.g;have:=h2.g;omega,fun hb=>by
  obtain⟨h3,h4,h5,h6⟩:=h2.ok hb;obtain⟨h7,_,_,h8⟩:=h.ok h3;exact⟨h7,h4,h5,by omega⟩⟩
theorem PS.weak{c d:Nat}{S S1:List Stt}{b b1:Bool}{e1:Int}(h:PS c S b S1 b1 e1)(hd:d≤c):PS d S b S1 b1 e1:=
 ⟨h.s0,h.mi,h.len,h.g,fun hb=>by
  obtain⟨h3,h4,h5,h6⟩:=h.ok hb;exact⟨h3,h4,h5,by omega⟩⟩
theorem PS.at{c:Nat}{S S1:List Stt}{b b1:Bool}{e1 e2:Int}(h:PS c S b S1 b1 e1)(he:b1=false→0≤e2∧e2<S1.length):PS c S b S1 b1 e2:=
 ⟨h.s0,h.mi,h.len,h.g,fun hb=>by
  obtain⟨h3,h4,h5,h6⟩:=h.ok hb;exact⟨h3,(he hb).1,(he hb).2,h6⟩⟩
theorem PS.sum{c:Nat}{S S1:List Stt}{b b1:Bool}{e1:Int}(h:PS c S b S1 b1 e1):sumF S1≤1016000:=by
 have:=h.mi.n;have:=h.mi.f;omega
theorem PS.fr{c:Nat}{S S1:List Stt}{b b1:Bool}{e1 f:Int}{l:List Int}(h:PS c S b S1 b1 e1)(hf:b1=false→0≤f∧f<S1.length)(hc:l.length≤c)(hl:b1=false→ ∀x∈l,0≤x∧x<S1.length):PS (c-l.length) S b (frS S1 b1 f l) b1 e1:=by
 have hs:=frS_sum (l:=l) hf;have hn:=frS_len S1 b1 f l;cases b1
 ·obtain⟨h3,h4,h5,h6⟩:=h.ok rfl;simp only[Bool.false_eq_true,if_false]at hs;have:=h.len;have hmf:=h.mi.f;have hg:=h.g;have h0:=h.s0;refine⟨h0,⟨by rw[hn];exact h.mi.n,fun s hs'=>?_,by omega⟩,by omega,by omega,fun _=>⟨h3,h4,by omega,by omega⟩⟩;rw[hn];exact frS_so h.mi.s hl s hs'
 exact⟨h.s0,h.mi,h.len,h.g,fun hb=>by simp at hb⟩
open Go Go.Eng
set_option maxRecDepth 100000
section
variable {M:Nat}{E:List Int}
theorem st_ex(M:Nat)(E:List Int){S:List Stt}(b:Bool)(h:MI S): ∃S1 b1 k,F_19 M S E (er b)=some (S1,er b1,k)∧F_14 M S E b=some (S1,b1,k)∧PS 4 S b S1 b1 k:=
 ⟨_,_,_,state_code M S E b,state_ref M S E b,mkS_ps b h⟩
def TS(N:Nat)(E:List Int)(t:Nd):Prop:= ∀(S:List Stt) (b:Bool) (f:Int),MI S→(b=false→0≤f∧f<S.length)→ ∃S' b' e,
 F_6 N S E (er b) t.un.1 t.un.2.1.1 t.un.2.1.2.1 t.un.2.1.2.2.1 t.un.2.1.2.2.2 t.un.2.2.1 t.un.2.2.2.1 t.un.2.2.2.2.1 t.un.2.2.2.2.2 f=some (S',er b',e)∧
 F_1 N S E b t.un.1 t.un.2.1.1 t.un.2.1.2.1 t.un.2.1.2.2.1 t.un.2.1.2.2.2 t.un.2.2.1 t.un.2.2.2.1 t.un.2.2.2.2.1 t.un.2.2.2.2.2 f=some (S',b',e)∧PS 0 S b S' b' e
theorem PS.val{c:Nat}{S S1:List Stt}{b b1:Bool}{e1:Int}(h:PS c S b S1 b1 e1):b1=false→0≤e1∧e1<S1.length:=fun hb=>⟨(h.ok hb).2.1,(h.ok hb).2.2.1⟩
theorem PS.old{c:Nat}{S S1:List Stt}{b b1:Bool}{e1 f:Int}(h:PS c S b S1 b1 e1)(hf:b=false→0≤f∧f<S.length):b1=false→0≤f∧f<S1.length:=fun hb=>by
 have:=hf (h.ok hb).1;have:=h.len;omega
theorem PS.frA'{c:Nat}{S S1:List Stt}{b b1:Bool}{e1 t:Int}{ends:List Int}(h:PS c S b S1 b1 e1)(he:b1=false→ ∀e∈ends,0≤e∧e<S1.length)(hc:ends.length≤c)(ht:b1=false→0≤t∧t<S1.length):PS 0 S b (frA S1 b1 t ends) b1 e1:=by
 have hs:=frA_sum (t:=t) ends S1 he;have hn:=frA_len b1 t ends S1;have h0:=h.s0;have hl:=h.len;have hmf:=h.mi.f;have hg:=h.g;cases b1
 ·obtain⟨h3,h4,h5,h6⟩:=h.ok rfl;simp only[Bool.false_eq_true,if_false]at hs;refine⟨h0,⟨by rw[hn];exact h.mi.n,fun s hs'=>?_,by omega⟩,by omega,by omega,fun _=>⟨h3,h4,by omega,by omega⟩⟩;rw[hn];exact frA_so ht ends S1 h.mi.s s hs'
 simp only[if_true]at hs;refine⟨h0,⟨by rw[hn];exact h.mi.n,fun s hs'=>?_,by omega⟩,by omega,by omega,fun hb=>by simp at hb⟩;rw[hn];exact frA_so (by simp) ends S1 h.mi.s s hs'
theorem cat_loop{ks:List Nd}(hk: ∀x∈ks,TS M E x)(hl:ks.length<100000): ∀(r i K:Nat) (S:List Stt) (b:Bool) (f:Int),i+r=ks.length→r<K→MI S→(b=false→0≤f∧f<S.length)→ ∃S' b' e,
 iterO K (fun s=>F_59 M (F_6 M) E ks s.1 s.2.1 s.2.2.1 s.2.2.2) (S,er b,f,(i:Int))=some (S',er b',e)∧
 iterO K (fun s=>F_53 M (F_1 M) E ks s.1 s.2.1 s.2.2.1 s.2.2.2) (S,b,f,(i:Int))=some (S',b',e)∧PS 0 S b S' b' e:=by
 intro r
 induction r with
 |zero=>
   intro i K S b f hi hK hS hf;obtain⟨K,rfl⟩: ∃m,K=m+1:=⟨K-1,by omega⟩;refine⟨S,b,f,?_,?_,.rfl' hS hf⟩
   ·simp only[iterO,F_59];rw[if_neg (by simp;omega)]
   simp only[iterO,F_53];rw[if_neg (by simp;omega)]
 |succ r ih=>
   intro i K S b f hi hK hS hf;obtain⟨K,rfl⟩: ∃m,K=m+1:=⟨K-1,by omega⟩;have hlt:i<ks.length:=by omega
   have hx:ks[i]? =some ks[i]:=List.getElem?_eq_getElem hlt;generalize ks[i]=x at hx;obtain⟨S1,b1,e1,q1,q2,P⟩:=hk x (List.mem_of_getElem? hx) S b f hS hf;obtain⟨S2,b2,e2,g1,g2,P2⟩:=ih (i+1) K S1 b1 e1 (by omega) (by omega) P.mi P.val
   have s1:F_59 M (F_6 M) E ks S (er b) f (i:Int)=some (.inl (S1,er b1,e1,((i+1:Nat):Int))):=by
    unfold F_59;rw[if_pos (by simpa using hlt),idx_of hx];simp only[bind,Option.bind_some];rw[q1,w64_succ (by omega)];rfl
   have s2:F_53 M (F_1 M) E ks S b f (i:Int)=some (.inl (S1,b1,e1,((i+1:Nat):Int))):=by
    unfold F_53;rw[if_pos (by simpa using hlt),idx_of hx];simp only[bind,Option.bind_some];rw[q2,w64_succ (by omega)];rfl
   refine⟨S2,b2,e2,?_,?_,P.trans P2⟩
   ·simp only[iterO,s1];exact g1
   simp only[iterO,s2];exact g2
theorem alt_loop{ks:List Nd}(hk: ∀x∈ks,TS M E x)(hl:ks.length<100000){S0:List Stt}{b0:Bool}{f0:Int}: ∀(r i K:Nat) (S:List Stt) (b:Bool) (ends:List Int),i+r=ks.length→r<K→ends.length=i→PS ends.length S0 b0 S b f0→(b=false→ ∀e∈ends,0≤e∧e<S.length)→ ∃S' b' ends',
 iterO K (fun s=>F_56 M (F_6 M) E ks f0 s.1 s.2.1 s.2.2.1 s.2.2.2) (S,er b,(i:Int),ends)=some (S',er b',ends')∧
 iterO K (fun s=>F_44 M (F_1 M) E ks f0 s.1 s.2.1 s.2.2.1 s.2.2.2) (S,b,ends,(i:Int))=some (S',b',ends')∧ends'.length=ks.length∧PS ends'.length S0 b0 S' b' f0∧(b'=false→ ∀e∈ends',0≤e∧e<S'.length):=by
 intro r
 induction r with
 |zero=>
   intro i K S b ends hi hK hn hP he;obtain⟨K,rfl⟩: ∃m,K=m+1:=⟨K-1,by omega⟩;refine⟨S,b,ends,?_,?_,by omega,hP,he⟩
   ·simp only[iterO,F_56];rw[if_neg (by simp;omega)]
   simp only[iterO,F_44];rw[if_neg (by simp;omega)]
 |succ r ih=>
   intro i K S b ends hi hK hn hP he;obtain⟨K,rfl⟩: ∃m,K=m+1:=⟨K-1,by omega⟩;have hlt:i<ks.length:=by omega
   have hx:ks[i]? =some ks[i]:=List.getElem?_eq_getElem hlt;generalize ks[i]=x at hx;obtain⟨S1,b1,k,c1,c2,P1⟩:=st_ex M E b hP.mi;have hf1:=P1.old hP.val;have Q1:=hP.trans P1;have d1:=free_code (N:=M) (E:=E) (l:=[k]) hf1 (by have:=P1.sum;omega) (by simp);have d2:=free_ref (N:=M) (E:=E) (t:=k) hf1 (by have:=P1.sum;omega);have Q2:=Q1.fr (l:=[k]) hf1 (by simp<;>omega) (fun hb y hy=>by simp only[List.mem_singleton]at hy;subst hy;exact P1.val hb);obtain⟨S2,b2,e2,q1,q2,P2⟩:=hk x (List.mem_of_getElem? hx) (frS S1 b1 f0 [k]) b1 k Q2.mi Q2.val;have Q3:=(Q2.trans P2).weak (d:=(ends++ [e2]).length) (by simp<;>omega);have Q4:=Q3.at (e2:=f0) (P2.old (by rw[frS_len];exact hf1))
   obtain⟨S',b',ends',g1,g2,g3,g4,g5⟩:=ih (i+1) K S2 b2 (ends++ [e2]) (by omega) (by omega) (by simp[hn]) Q4 (fun hb y hy=>by
    rcases List.mem_append.1 hy with hy|hy
    ·have h1:=P2.ok hb;have h2:=P1.ok h1.1;have h3:=he h2.1 y hy;have h4:=P1.len;have h5:=P2.len;rw[frS_len]at h5;omega
    simp only[List.mem_singleton]at hy;subst hy;exact P2.val hb)
   have s1:F_56 M (F_6 M) E ks f0 S (er b) (i:Int) ends=some (.inl (S2,er b2,((i+1:Nat):Int),ends++ [e2])):=by
    unfold F_56 F_57;rw[if_pos (by simpa using hlt),idx_of hx];simp only[bind,Option.bind_some];rw[c1];simp only[Option.bind_some];rw[d1];simp only[Option.bind_some];rw[q1];simp only[Option.bind_some];rw[app_eq (by simp;omega),w64_succ (by omega)];rfl
   have s2:F_44 M (F_1 M) E ks f0 S b ends (i:Int)=some (.inl (S2,b2,ends++ [e2],((i+1:Nat):Int))):=by
    unfold F_44;rw[if_pos (by simpa using hlt),idx_of hx];simp only[bind,Option.bind_some];rw[c2];simp only[Option.bind_some];rw[d2];simp only[Option.bind_some];rw[q2];simp only[Option.bind_some];rw[app_eq (by simp;omega),w64_succ (by omega)];rfl
   refine⟨S',b',ends',?_,?_,g3,g4,g5⟩
   ·simp only[iterO,s1];exact g1
   simp only[iterO,s2];exact g2
theorem min_loop{ks:List Nd}{x:Nd}(hx:ks[0]? =some x)(hk:TS M E x){mn:Nat}(hm:mn≤40): ∀(r i K:Nat) (S:List Stt) (b:Bool) (f:Int),i+r=mn→r<K→MI S→(b=false→0≤f∧f<S.length)→ ∃S' b' e,
 iterO K (fun s=>F_58 M (F_6 M) E (mn:Int) x s.1 s.2.1 s.2.2.1 s.2.2.2) (S,er b,(i:Int),f)=some (S',er b',e)∧
 iterO K (fun s=>F_54 M (F_1 M) E ks (mn:Int) s.1 s.2.1 s.2.2.1 s.2.2.2) (S,b,(i:Int),f)=some (S',b',e)∧PS 0 S b S' b' e:=by
 intro r
 induction r with
 |zero=>
   intro i K S b f hi hK hS hf;obtain⟨K,rfl⟩: ∃m,K=m+1:=⟨K-1,by omega⟩;refine⟨S,b,f,?_,?_,.rfl' hS hf⟩
   ·simp only[iterO,F_58];rw[if_neg (by simp;omega)]
   simp only[iterO,F_54];rw[if_neg (by simp;omega)]
 |succ r ih=>
   intro i K S b f hi hK hS hf;obtain⟨K,rfl⟩: ∃m,K=m+1:=⟨K-1,by omega⟩;obtain⟨S1,b1,e1,q1,q2,P⟩:=hk S b f hS hf;obtain⟨S2,b2,e2,g1,g2,P2⟩:=ih (i+1) K S1 b1 e1 (by omega) (by omega) P.mi P.val
   have s1:F_58 M (F_6 M) E (mn:Int) x S (er b) (i:Int) f=some (.inl (S1,er b1,((i+1:Nat):Int),e1)):=by
    unfold F_58;rw[if_pos (by simp;omega)];simp only[bind];rw[q1,w64_succ (by omega)];rfl
   have s2:F_54 M (F_1 M) E ks (mn:Int) S b (i:Int) f=some (.inl (S1,b1,((i+1:Nat):Int),e1)):=by
    unfold F_54;rw[if_pos (by simp;omega),show((0:Int))=((0:Nat):Int)from rfl,idx_of hx];simp only[bind,Option.bind_some];rw[q2,w64_succ (by omega)];rfl
   refine⟨S2,b2,e2,?_,?_,P.trans P2⟩
   ·simp only[iterO,s1];exact g1
   simp only[iterO,s2];exact g2
theorem max_loop{ks:List Nd}{x:Nd}(hx:ks[0]? =some x)(hk:TS M E x){mn mx:Nat}(hm:mn<mx)(hm2:mx≤40){S0:List Stt}{b0:Bool}: ∀(r i K:Nat) (S:List Stt) (b:Bool) (f:Int) (ahead:List Int),mn+i+r=mx→r<K→ahead.length=i→PS ahead.length S0 b0 S b f→(b=false→ ∀e∈ahead,0≤e∧e<S.length)→ ∃S' b' f' ahead',
 iterO K (fun s=>F_49 M (F_6 M) E (mn:Int) (mx:Int) x s.1 s.2.1 s.2.2.1 s.2.2.2.1 s.2.2.2.2) (S,er b,f,(i:Int),ahead)=some (S',er b',f',ahead')∧
 iterO K (fun s=>F_45 M (F_1 M) E ks (mx:Int) s.1 s.2.1 s.2.2.1 s.2.2.2.1 s.2.2.2.2) (S,b,f,ahead,((mn+i:Nat):Int))=some (S',b',f',ahead')∧ahead'.length≤40∧PS ahead'.length S0 b0 S' b' f'∧(b'=false→ ∀e∈ahead',0≤e∧e<S'.length):=by
 have hw:w64 ((mx:Int)-(mn:Int))=((mx-mn:Nat):Int):=by rw[w64,wrap64]<;>omega
 intro r
 induction r with
 |zero=>
   intro i K S b f ahead hi hK hn hP he;obtain⟨K,rfl⟩: ∃m,K=m+1:=⟨K-1,by omega⟩;refine⟨S,b,f,ahead,?_,?_,by omega,hP,he⟩
   ·simp only[iterO,F_49];rw[hw,if_neg (by simp;omega)]
   simp only[iterO,F_45];rw[if_neg (by simp;omega)]
 |succ r ih=>
   intro i K S b f ahead hi hK hn hP he;obtain⟨K,rfl⟩: ∃m,K=m+1:=⟨K-1,by omega⟩;obtain⟨S1,b1,k,c1,c2,P1⟩:=st_ex M E b hP.mi;have hf1:=P1.old hP.val;have Q1:=hP.trans P1;have d1:=free_code (N:=M) (E:=E) (l:=[k]) hf1 (by have:=P1.sum;omega) (by simp);have d2:=free_ref (N:=M) (E:=E) (t:=k) hf1 (by have:=P1.sum;omega);have Q2:=Q1.fr (l:=[k]) hf1 (by simp<;>omega) (fun hb y hy=>by simp only[List.mem_singleton]at hy;subst hy;exact P1.val hb);obtain⟨S2,b2,e2,q1,q2,P2⟩:=hk (frS S1 b1 f [k]) b1 k Q2.mi Q2.val;have Q3:=(Q2.trans P2).weak (d:=(ahead++ [f]).length) (by simp<;>omega)
   obtain⟨S',b',f',ahead',g1,g2,g3,g4,g5⟩:=ih (i+1) K S2 b2 e2 (ahead++ [f]) (by omega) (by omega) (by simp[hn]) Q3 (fun hb y hy=>by
    have h1:=P2.ok hb;have h2:=P1.ok h1.1;have h4:=P1.len;have h5:=P2.len;rw[frS_len]at h5;rcases List.mem_append.1 hy with hy|hy
    ·have h3:=he h2.1 y hy;omega
    simp only[List.mem_singleton]at hy;subst hy;have h3:=hf1 h1.1;omega)
   have s1:F_49 M (F_6 M) E (mn:Int) (mx:Int) x S (er b) f (i:Int) ahead=some (.inl (S2,er b2,e2,((i+1:Nat):Int),ahead++ [f])):=by
    unfold F_49 F_57;rw[hw,if_pos (by simp;omega),app_eq (by simp;omega)];simp only[bind,Option.bind_some];rw[c1];simp only[Option.bind_some];rw[d1];simp only[Option.bind_some];rw[q1,w64_succ (by omega)];rfl
   have s2:F_45 M (F_1 M) E ks (mx:Int) S b f ahead ((mn+i:Nat):Int)=some (.inl (S2,b2,e2,ahead++ [f],((mn+(i+1):Nat):Int))):=by
    unfold F_45;rw[if_pos (by simp;omega),app_eq (by simp;omega)];simp only[bind,Option.bind_some];rw[c2];simp only[Option.bind_some];rw[d2];simp only[Option.bind_some];rw[show((0:Int))=((0:Nat):Int)from rfl,idx_of hx];simp only[Option.bind_some];rw[q2,w64_succ (by omega)];rfl
   refine⟨S',b',f',ahead',?_,?_,g3,g4,g5⟩
   ·simp only[iterO,s1];exact g1
   simp only[iterO,s2];exact g2
end
open Go Go.Eng
set_option maxRecDepth 100000
section
variable {M:Nat}{E:List Int}
theorem alt_code{ks:List Nd}(hk: ∀x∈ks,TS M E x)(hl:ks.length<100000)(hM:ks.length+10≤M){S:List Stt}{b:Bool}{f:Int}(hS:MI S)(hf:b=false→0≤f∧f<S.length)(k a1 a2 a3 a4 mn mx:Int)(tx:ByteArray): ∃S' b' e,
 F_8 M (F_6 M) S E (er b) k a1 a2 a3 a4 ks mn mx tx f=some (S',er b',e)∧
 (((iterO M (fun s=>F_44 M (F_1 M) E ks f s.1 s.2.1 s.2.2.1 s.2.2.2) (S,b,[],0)):Option (List Stt×Bool×List Int)) >>= fun(x4552,x4553,x4556)=>
   F_14 M x4552 E x4553 >>= fun(x4841,x4842,x4843)=>
   ((iterO M (fun s=>F_34 M E x4556 x4842 x4843 s.1 s.2) (x4841,0)):Option (List Stt)) >>= fun x4895=>
   some (x4895,x4842,x4843))=some (S',b',e)∧PS 0 S b S' b' e:=by
 obtain⟨S1,b1,ends,g1,g2,g3,g4,g5⟩:=alt_loop (f0:=f) hk hl ks.length 0 M S b [] (by omega) (by omega) rfl (PS.rfl' hS hf) (fun _ e he=>by simp at he);obtain⟨S2,b2,t,c1,c2,P2⟩:=st_ex M E b1 g4.mi;have Q:=(g4.trans P2).at (e2:=t) P2.val
 have hv:b2=false→ ∀e∈ends,0≤e∧e<S2.length:=fun hb e he=>by
  have h1:=P2.ok hb;have h2:=g5 h1.1 e he;have h3:=P2.len;omega
 have hsm:=Q.sum
 have f1:iterO M (fun s=>F_47 M E ends (er b2) t s.1 s.2) (S2,0)=some (frA S2 b2 t ends):=
  free_loop (f:=fun s=>F_47 M E ends (er b2) t s.1 s.2) (by omega) (by omega) (by omega) hv (fun i e Z hx hz hs=>by
   have hi:=lt_len hx;show F_47 M E ends (er b2) t Z (i:Int)=_;unfold F_47;rw[if_pos (by simpa using hi),idx_of hx];simp only[bind,Option.bind_some];rw[free_code hz hs (by simp),w64_succ (by omega)]
   rfl) (fun Z=>by
   show F_47 M E ends (er b2) t Z (ends.length:Int)=_;unfold F_47;simp)
 have f2:iterO M (fun s=>F_34 M E ends b2 t s.1 s.2) (S2,0)=some (frA S2 b2 t ends):=
  free_loop (f:=fun s=>F_34 M E ends b2 t s.1 s.2) (by omega) (by omega) (by omega) hv (fun i e Z hx hz hs=>by
   have hi:=lt_len hx;show F_34 M E ends b2 t Z (i:Int)=_;unfold F_34;rw[if_pos (by simpa using hi),idx_of hx];simp only[bind,Option.bind_some];rw[free_ref hz hs,w64_succ (by omega)]
   rfl) (fun Z=>by
   show F_34 M E ends b2 t Z (ends.length:Int)=_;unfold F_34;simp)
 have g1:iterO M (fun s=>F_56 M (F_6 M) E ks f s.1 s.2.1 s.2.2.1 s.2.2.2) (S,er b,0,[])=some (S1,er b1,ends):=g1;have g2:iterO M (fun s=>F_44 M (F_1 M) E ks f s.1 s.2.1 s.2.2.1 s.2.2.2) (S,b,[],0)=some (S1,b1,ends):=g2;refine⟨frA S2 b2 t ends,b2,t,?_,?_,Q.frA' hv (by omega) P2.val⟩
 ·unfold F_8;rw[g1];simp only[bind,Option.bind_some];rw[c1];simp only[Option.bind_some];rw[f1];rfl
 rw[g2];simp only[bind,Option.bind_some];rw[c2];simp only[Option.bind_some];rw[f2];rfl
theorem bytes_code{S:List Stt}{f:Int}(hS:MI S)(hf:0≤f∧f<S.length)(k a1 a2 a3 a4 mn mx:Int)(ks:List Nd)(tx:ByteArray): ∃S' b' e,
 F_82 M S E (er false) k a1 a2 a3 a4 ks mn mx tx f=some (S',er b',e)∧
 (F_14 M S E false >>= fun(x3773,x3774,x3775)=>
  ((if(!x3774)=true then(
    ((idx x3773 f >>= fun x3824=>
    setI x3773 f (x3824.1,(a1,a2,a3,a4),x3824.2.2.1,x3824.2.2.2) >>= fun x3832=>
    some x3832):Option (List Stt)) >>= fun x3822=>
    idx x3822 f >>= fun x3835=>
    setI x3822 f (x3835.1,(x3835.2.1.1,x3835.2.1.2.1,x3835.2.1.2.2.1,x3835.2.1.2.2.2),x3775,x3835.2.2.2) >>= fun x3843=>
    some x3843)
    else(
    some x3773)):Option (List Stt)) >>= fun x3810=>
  some (x3810,x3774,x3775))=some (S',b',e)∧PS 0 S false S' b' e:=by
 obtain⟨S1,b1,t,c1,c2,P1⟩:=st_ex M E false hS
 cases hb:b1 with
 |true=>
   subst hb;refine⟨S1,true,t,?_,?_,P1.weak (by omega)⟩
   ·unfold F_82;rw[c1];simp only[bind,Option.bind_some];rw[eOk_er];rfl
   rw[c2];rfl
 |false=>
   subst hb;have hf1:=P1.old (f:=f) (fun _=>hf) rfl;obtain⟨x,hx⟩:=get_of hf1;have hl:=lt_len hx;have hv:=P1.val rfl;have i1:idx S1 f=some x:=by unfold idx;rw[if_pos hf.1,hx]
   have i2: ∀y,idx (S1.set f.toNat y) f=some y:=fun y=>by unfold idx;rw[if_pos hf.1,List.getElem?_set_self hl]
   have hxo:=P1.mi.s x (List.mem_of_getElem? hx);have hs:=sumF_set S1 f.toNat x (x.1,(a1,a2,a3,a4),t,x.2.2.2) hx;simp only at hs;have hn:(S1.set f.toNat (x.1,(a1,a2,a3,a4),t,x.2.2.2)).length=S1.length:=by simp
   have hg:=P1.g;have hok:=(P1.ok rfl).2.2.2;have hs0:=P1.s0;have hmf:=P1.mi.f;have hln:=P1.len;refine⟨S1.set f.toNat (x.1,(a1,a2,a3,a4),t,x.2.2.2),false,t,?_,?_,?_⟩
   ·unfold F_82;rw[c1];simp only[bind,Option.bind_some];rw[eOk_er];simp only[Bool.not_false,if_true,i1,Option.bind_some];rw[setI_int hf.1 hl];simp only[Option.bind_some,i2];rw[setI_int hf.1 (by simpa using hl)];simp only[Option.bind_some,List.set_set]
   ·rw[c2];simp only[bind,Option.bind_some,Bool.not_false,if_true,i1];rw[setI_int hf.1 hl];simp only[Option.bind_some,i2];rw[setI_int hf.1 (by simpa using hl)];simp only[Option.bind_some,List.set_set]
   refine⟨hs0,⟨by rw[hn];exact P1.mi.n,fun s hs'=>?_,by omega⟩,by omega,by omega,fun _=>⟨rfl,hv.1,by omega,by omega⟩⟩;rw[hn];rcases List.mem_or_eq_of_mem_set hs' with hs'|hs'
   ·exact P1.mi.s s hs'
   subst hs';exact⟨⟨by simp only;omega,by simp only;omega⟩,fun h=>by simp only at h;omega,hxo.rul,hxo.free⟩
theorem loop_code{x:Nd}(hk:TS M E x){S:List Stt}{b:Bool}{f:Int}(hS:MI S)(hf:b=false→0≤f∧f<S.length): ∃S' b' e,
 F_93 M (F_6 M) S E (er b) x.un.1 x.un.2.1.1 x.un.2.1.2.1 x.un.2.1.2.2.1 x.un.2.1.2.2.2 x.un.2.2.1 x.un.2.2.2.1 x.un.2.2.2.2.1 x.un.2.2.2.2.2 f=some (S',er b',e)∧
 (F_14 M S E b >>= fun(x5350,x5351,x5352)=>
  F_14 M x5350 E x5351 >>= fun(x5358,x5359,x5360)=>
  F_17 M x5358 E x5359 f x5352 >>= fun x5365=>
  F_17 M x5365 E x5359 f x5360 >>= fun x5370=>
  some x >>= fun x5372=>
  F_1 M x5370 E x5359 x5372.un.1 x5372.un.2.1.1 x5372.un.2.1.2.1 x5372.un.2.1.2.2.1 x5372.un.2.1.2.2.2 x5372.un.2.2.1 x5372.un.2.2.2.1 x5372.un.2.2.2.2.1 x5372.un.2.2.2.2.2 x5352 >>= fun(x5426,x5427,x5428)=>
  F_17 M x5426 E x5427 x5428 x5352 >>= fun x5433=>
  F_17 M x5433 E x5427 x5428 x5360 >>= fun x5438=>
  some (x5438,x5427,x5360))=some (S',b',e)∧PS 0 S b S' b' e:=by
 obtain⟨S1,b1,k,c1,c2,P1⟩:=st_ex M E b hS;obtain⟨S2,b2,t,c3,c4,P2⟩:=st_ex M E b1 P1.mi;have hf2:=P2.old (P1.old hf);have hk2:=P2.old P1.val;have Q:=(P1.trans P2).at hk2;have hs2:=Q.sum;have d1:=free_code (N:=M) (E:=E) (l:=[k,t]) hf2 (by omega) (by simp);have d2:=free_ref (N:=M) (E:=E) (t:=k) hf2 (by omega)
 have d3:=free_ref (N:=M) (E:=E) (S:=frS S2 b2 f [k]) (t:=t) (b:=b2) (f:=f) (by rw[frS_len];exact hf2) (by
  rw[frS_sum hf2];have:(if b2=true then 0 else [k].length)≤1:=by split<;>simp
  omega)
 have Q1:=Q.fr (l:=[k,t]) hf2 (by simp) (fun hb y hy=>by
  rcases List.mem_cons.1 hy with rfl|hy
  ·exact hk2 hb
  simp only[List.mem_singleton]at hy;subst hy;exact P2.val hb)
 obtain⟨S3,b3,e,q1,q2,P3⟩:=hk (frS S2 b2 f [k,t]) b2 k Q1.mi Q1.val;have Q2:=Q1.trans P3;have hs3:=Q2.sum;have hk3:=P3.old (f:=k) (by rw[frS_len];exact hk2);have ht3:=P3.old (f:=t) (by rw[frS_len];exact P2.val);have d4:=free_code (N:=M) (E:=E) (l:=[k,t]) P3.val (by omega) (by simp);have d5:=free_ref (N:=M) (E:=E) (t:=k) P3.val (by omega)
 have d6:=free_ref (N:=M) (E:=E) (S:=frS S3 b3 e [k]) (t:=t) (b:=b3) (f:=e) (by rw[frS_len];exact P3.val) (by
  rw[frS_sum P3.val];have:(if b3=true then 0 else [k].length)≤1:=by split<;>simp
  omega)
 have Q3:=Q2.fr (l:=[k,t]) P3.val (by simp) (fun hb y hy=>by
  rcases List.mem_cons.1 hy with rfl|hy
  ·exact hk3 hb
  simp only[List.mem_singleton]at hy;subst hy;exact ht3 hb)
 have Q4:=(Q3.at (e2:=t) (by rw[frS_len];exact ht3)).weak (d:=0) (by omega);refine⟨frS S3 b3 e [k,t],b3,t,?_,?_,Q4⟩
 ·unfold F_93;rw[c1];simp only[bind,Option.bind_some];rw[c3];simp only[Option.bind_some];rw[d1];simp only[Option.bind_some];rw[q1];simp only[Option.bind_some];rw[d4];rfl
 rw[c2];simp only[bind,Option.bind_some];rw[c4];simp only[Option.bind_some];rw[d2];simp only[Option.bind_some];rw[d3,frS_two];simp only[Option.bind_some];rw[q2];simp only[Option.bind_some];rw[d5];simp only[Option.bind_some];rw[d6,frS_two];rfl
theorem more_code{ks:List Nd}{x:Nd}(hx:ks[0]? =some x)(hk:TS M E x){mn mx:Nat}(hm:mn<mx)(hm2:mx≤40)(hM:100≤M){S:List Stt}{b:Bool}{f:Int}(hS:MI S)(hf:b=false→0≤f∧f<S.length): ∃S' b' e,
 (((iterO M (fun s=>F_49 M (F_6 M) E (mn:Int) (mx:Int) x s.1 s.2.1 s.2.2.1 s.2.2.2.1 s.2.2.2.2) (S,er b,f,0,[])):Option (List Stt×Int×Int×List Int)) >>= fun(x804,x805,x806,x809)=>
   F_57 M x804 E x805 x806 >>= fun(x923,x924,x925)=>
   ((iterO M (fun s=>F_37 M E x809 x924 x925 s.1 s.2) (x923,0)):Option (List Stt)) >>= fun x983=>
   some (x983,x924,x925))=some (S',er b',e)∧
 (((iterO M (fun s=>F_45 M (F_1 M) E ks (mx:Int) s.1 s.2.1 s.2.2.1 s.2.2.2.1 s.2.2.2.2) (S,b,f,[],(mn:Int))):Option (List Stt×Bool×Int×List Int)) >>= fun(x5715,x5716,x5717,x5720)=>
   F_14 M x5715 E x5716 >>= fun(x5999,x6000,x6001)=>
   F_17 M x5999 E x6000 x5717 x6001 >>= fun x6006=>
   ((iterO M (fun s=>F_35 M E x5720 x6000 x6001 s.1 s.2) (x6006,0)):Option (List Stt)) >>= fun x6058=>
   some (x6058,x6000,x6001))=some (S',b',e)∧PS 0 S b S' b' e:=by
 obtain⟨S1,b1,f1,ends,g1,g2,g3,g4,g5⟩:=max_loop (S0:=S) (b0:=b) hx hk hm hm2 (mx-mn) 0 M S b f [] (by omega) (by omega) rfl (PS.rfl' hS hf) (fun _ e he=>by simp at he);obtain⟨S2,b2,t,c1,c2,P2⟩:=st_ex M E b1 g4.mi;have hf2:=P2.old g4.val;have Q:=(g4.trans P2).at (e2:=t) P2.val;have hsm:=Q.sum;have d1:=free_code (N:=M) (E:=E) (l:=[t]) hf2 (by omega) (by simp);have d2:=free_ref (N:=M) (E:=E) (t:=t) hf2 (by omega);have Q1:=Q.fr (l:=[t]) hf2 (by simp) (fun hb y hy=>by simp only[List.mem_singleton]at hy;subst hy;exact P2.val hb);have hsm1:=Q1.sum;have hl3:(frS S2 b2 f1 [t]).length=S2.length:=frS_len _ _ _ _;generalize frS S2 b2 f1 [t]=S3 at d1 d2 Q1 hsm1 hl3
 have hv:b2=false→ ∀e∈ends,0≤e∧e<S3.length:=fun hb e he=>by
  have h1:=P2.ok hb;have h2:=g5 h1.1 e he;have h3:=P2.len;omega
 have f1:iterO M (fun s=>F_37 M E ends (er b2) t s.1 s.2) (S3,0)=some (frA S3 b2 t ends):=
  free_loop (f:=fun s=>F_37 M E ends (er b2) t s.1 s.2) (by omega) (by omega) (by omega) hv (fun i e Z hx hz hs=>by
   have hi:=lt_len hx;show F_37 M E ends (er b2) t Z (i:Int)=_;unfold F_37;rw[if_pos (by simpa using hi),idx_of hx];simp only[bind,Option.bind_some];rw[free_code hz hs (by simp),w64_succ (by omega)]
   rfl) (fun Z=>by
   show F_37 M E ends (er b2) t Z (ends.length:Int)=_;unfold F_37;simp)
 have f2:iterO M (fun s=>F_35 M E ends b2 t s.1 s.2) (S3,0)=some (frA S3 b2 t ends):=
  free_loop (f:=fun s=>F_35 M E ends b2 t s.1 s.2) (by omega) (by omega) (by omega) hv (fun i e Z hx hz hs=>by
   have hi:=lt_len hx;show F_35 M E ends b2 t Z (i:Int)=_;unfold F_35;rw[if_pos (by simpa using hi),idx_of hx];simp only[bind,Option.bind_some];rw[free_ref hz hs,w64_succ (by omega)]
   rfl) (fun Z=>by
   show F_35 M E ends b2 t Z (ends.length:Int)=_;unfold F_35;simp)
 have g1:iterO M (fun s=>F_49 M (F_6 M) E (mn:Int) (mx:Int) x s.1 s.2.1 s.2.2.1 s.2.2.2.1 s.2.2.2.2) (S,er b,f,0,[])=_:=g1;have g2:iterO M (fun s=>F_45 M (F_1 M) E ks (mx:Int) s.1 s.2.1 s.2.2.1 s.2.2.2.1 s.2.2.2.2) (S,b,f,[],(mn:Int))=_:=g2;refine⟨frA S3 b2 t ends,b2,t,?_,?_,Q1.frA' hv (by simp) (by rw[hl3];exact P2.val)⟩
 ·rw[g1];simp only[bind,Option.bind_some];unfold F_57;rw[c1];simp only[bind,Option.bind_some];rw[d1];simp only[Option.bind_some];rw[f1];rfl
 rw[g2];simp only[bind,Option.bind_some];rw[c2];simp only[Option.bind_some];rw[d2];simp only[Option.bind_some];rw[f2];rfl
end
theorem tree_spec{E:List Int}: ∀(c:Nat) (t:Nd),cnt t=c→ ∀(lv N:Nat),RT lv t→cnt t+1000≤N→cnt t<50000→TS N E t:=by
 intro c
 induction c using Nat.strongRecOn with
 |ind c IH=>
   intro t hc lv N h hN hb S b f hS hf;obtain⟨M,rfl⟩: ∃m,N=m+1:=⟨N-1,by omega⟩;have hcu:=cnt_un t;have hll:=cntL_len (kd t)
   have hk: ∀x∈kd t,TS M E x:=fun x hx=>by
    have hm:=cnt_kid hx;exact IH (cnt x) (by omega) x rfl (lv+1) M (h.kid hx) (by omega) (by omega)
   rw[F_6,F_1,eOk_er]
   cases hb':b with
   |true=>
     subst hb';exact⟨S,true,0,rfl,rfl,.rfl' hS (fun h=>by simp at h)⟩
   |false=>
     subst hb';have hf:=hf rfl;rw[if_neg Bool.false_ne_true,if_neg Bool.false_ne_true];rcases ok_kind h.node.2 with⟨k1,_⟩|k2|⟨k3,n3⟩|⟨k4,n4,a,b,c⟩|⟨k5,_⟩
     ·have e1:(t.un.1==1)=true:=by simpa using k1
      rw[if_pos e1,if_pos e1];obtain⟨S',b',e,g1,g2,P⟩:=bytes_code (M:=M) (E:=E) hS hf t.un.1 t.un.2.1.1 t.un.2.1.2.1 t.un.2.1.2.2.1 t.un.2.1.2.2.2 t.un.2.2.2.1 t.un.2.2.2.2.1 t.un.2.2.1 t.un.2.2.2.2.2;exact⟨S',b',e,by rw[g1];rfl,g2,P⟩
     ·have e1: ¬(t.un.1==1)=true:=by show¬(kn t==1)=true;rw[k2];decide
      have e2:(t.un.1==2)=true:=by simpa using k2
      rw[if_neg e1,if_pos e2,if_neg e1,if_pos e2];obtain⟨S',b',e,g1,g2,P⟩:=cat_loop hk (by omega) (kd t).length 0 M S false f (by omega) (by omega) hS (fun _=>hf);have g1:iterO M (fun s=>F_59 M (F_6 M) E (kd t) s.1 s.2.1 s.2.2.1 s.2.2.2) (S,er false,f,0)=_:=g1;have g2:iterO M (fun s=>F_53 M (F_1 M) E (kd t) s.1 s.2.1 s.2.2.1 s.2.2.2) (S,false,f,0)=_:=g2;exact⟨S',b',e,by rw[g1];rfl,by rw[g2];rfl,P⟩
     ·have e1: ¬(t.un.1==1)=true:=by show¬(kn t==1)=true;rw[k3];decide
      have e2: ¬(t.un.1==2)=true:=by show¬(kn t==2)=true;rw[k3];decide
      have e3:(t.un.1==3)=true:=by simpa using k3
      have e5: ¬(t.un.1==5)=true:=by show¬(kn t==5)=true;rw[k3];decide
      rw[if_neg e1,if_neg e2,if_pos e3,if_neg e1,if_neg e2,if_neg e5,if_pos e3];obtain⟨S',b',e,g1,g2,P⟩:=alt_code hk (by omega) (by omega) hS (fun _=>hf) t.un.1 t.un.2.1.1 t.un.2.1.2.1 t.un.2.1.2.2.1 t.un.2.1.2.2.2 t.un.2.2.2.1 t.un.2.2.2.2.1 t.un.2.2.2.2.2;exact⟨S',b',e,by rw[g1];rfl,g2,P⟩
     ·have e1: ¬(t.un.1==1)=true:=by show¬(kn t==1)=true;rw[k4];decide
      have e2: ¬(t.un.1==2)=true:=by show¬(kn t==2)=true;rw[k4];decide
      have e3: ¬(t.un.1==3)=true:=by show¬(kn t==3)=true;rw[k4];decide
      have e4:(t.un.1==4)=true:=by simpa using k4
      have e5: ¬(t.un.1==5)=true:=by show¬(kn t==5)=true;rw[k4];decide
      rw[if_neg e1,if_neg e2,if_neg e3,if_pos e4,if_neg e1,if_neg e2,if_neg e5,if_neg e3]
      obtain⟨x,hz⟩: ∃z,kd t= [z]:=by
       match hk:kd t,n4 with
       | [z],_=>exact⟨z,rfl⟩
      have hx:(kd t)[0]? =some x:=by rw[hz];rfl
      have hkx:=hk x (List.mem_of_getElem? hx);have hmn:((lo t).toNat:Int)=lo t:=Int.toNat_of_nonneg a;obtain⟨S1,b1,f1,g1,g2,P1⟩:=min_loop hx hkx (mn:=(lo t).toNat) (by omega) (lo t).toNat 0 M S false f (by omega) (by omega) hS (fun _=>hf);rw[hmn]at g1 g2;have g1:iterO M (fun s=>F_58 M (F_6 M) E (lo t) x s.1 s.2.1 s.2.2.1 s.2.2.2) (S,er false,0,f)=_:=g1;have g2:iterO M (fun s=>F_54 M (F_1 M) E (kd t) (lo t) s.1 s.2.1 s.2.2.1 s.2.2.2) (S,false,0,f)=_:=g2;have i0:idx (kd t) 0=some x:=idx_of (i:=0) hx;unfold F_5;rw[g2,i0];simp only[bind,Option.bind_some];rw[g1];simp only[Option.bind_some];by_cases h5:hi t= -1
      ·have m1:(t.un.2.2.2.2.1== -1)=true:=by simpa using h5
       have m2: ¬(t.un.2.2.2.2.1==t.un.2.2.2.1)=true:=by
        show¬(hi t==lo t)=true;simp;omega
       have m3:(decide (t.un.2.2.2.2.1<0))=true:=by
        show decide (hi t<0)=true;simp;omega
       rw[if_pos m1,if_neg m2,if_pos m3];obtain⟨S',b',e,r1,r2,P⟩:=loop_code hkx P1.mi P1.val;refine⟨S',b',e,?_,?_,P1.trans P⟩
       ·rw[r1];rfl
       rw[←r2];rfl
      have m1: ¬(t.un.2.2.2.2.1== -1)=true:=by simpa using h5
      rw[if_neg m1];have c:=c.resolve_left h5;by_cases h6:hi t=lo t
      ·have m2:(t.un.2.2.2.2.1==t.un.2.2.2.1)=true:=by
        show(hi t==lo t)=true;simpa using h6
       rw[if_pos m2,if_pos m2];exact⟨S1,b1,f1,rfl,rfl,P1⟩
      have m2: ¬(t.un.2.2.2.2.1==t.un.2.2.2.1)=true:=by
       show¬(hi t==lo t)=true;simpa using h6
      have m3: ¬(decide (t.un.2.2.2.2.1<0))=true:=by
       show¬decide (hi t<0)=true;simp;omega
      rw[if_neg m2,if_neg m2,if_neg m3];have hmx:((hi t).toNat:Int)=hi t:=Int.toNat_of_nonneg (by omega);obtain⟨S',b',e,r1,r2,P⟩:=more_code (mn:=(lo t).toNat) (mx:=(hi t).toNat) hx hkx (by omega) (by omega) (by omega) P1.mi P1.val;rw[hmn,hmx]at r1;rw[hmn,hmx]at r2;refine⟨S',b',e,?_,?_,P1.trans P⟩
      ·exact congrArg (fun o:Option (List Stt×Int×Int)=>Option.bind o fun x=>some (x.1,x.2.1,x.2.2)) r1
      rw[←r2];rfl
     have e1: ¬(t.un.1==1)=true:=by show¬(kn t==1)=true;rw[k5];decide
     have e2: ¬(t.un.1==2)=true:=by show¬(kn t==2)=true;rw[k5];decide
     have e3: ¬(t.un.1==3)=true:=by show¬(kn t==3)=true;rw[k5];decide
     have e4: ¬(t.un.1==4)=true:=by show¬(kn t==4)=true;rw[k5];decide
     have e5:(t.un.1==5)=true:=by simpa using k5
     rw[if_neg e1,if_neg e2,if_neg e3,if_neg e4,if_neg e1,if_neg e2,if_pos e5];obtain⟨S1,b1,k,c1,c2,P1⟩:=st_ex M E false hS;exact⟨S1,b1,k,by rw[c1];rfl,by rw[c2];rfl,P1.weak (by omega)⟩
open Go Go.Eng
set_option maxRecDepth 100000
section
variable {N:Nat}{C Nm:List ByteArray}{R:List Rl}
def badC(n:Nat)(c:Int):Bool:=decide (c<0)||decide (c≥(n:Int))
def badR(n:Nat)(r:Rl):Bool:= !rtT r.2.1||r.1.any (badC n)
theorem badC_code(x:Int)(R:List Rl):F_92 N x C Nm R=some (badC C.length x):=by
 unfold F_92 badC;by_cases h:x<0<;>simp[h]
theorem badC_any{xs:List Int}(hN:9300000000000000000≤N)(hl:xs.length≤50):F_31 N xs C Nm R=some (xs.any (badC C.length)):=by
 unfold F_31 F_10
 rw[loop_find xs (badC C.length) (fun i=>(i:Int)) (by omega) (fun i x hx=>by
  have hi:=lt_len hx;unfold F_87;simp only[show((i:Int)<(xs.length:Int)) by omega,decide_true,if_true,idx_of hx,badC_code,bind,Option.bind_some];rw[w64_succ (by omega)]) (by unfold F_87;simp)]
 cases h:xs.findIdx? (badC C.length)with
 |none=>
   have:xs.any (badC C.length)=false:=List.any_eq_false.2 fun x hx=>by rw[List.findIdx?_eq_none_iff.1 h x hx];simp
   simp[this]
 |some k=>
   obtain⟨hk,hp,_⟩:=List.findIdx?_eq_some_iff_getElem.1 h;have:xs.any (badC C.length)=true:=List.any_eq_true.2 ⟨_,List.getElem_mem hk,hp⟩;rw[this];simp
theorem build1_code(hN:9300000000000000000≤N){r:Rl}(hr:cnt r.2.1<700∧r.1.length≤50)(hq:NdQ r.2.1)(a b:Int):
 F_36 N r.1 r.2.1.un.1 r.2.1.un.2.1.1 r.2.1.un.2.1.2.1 r.2.1.un.2.1.2.2.1 r.2.1.un.2.1.2.2.2 r.2.1.un.2.2.1 r.2.1.un.2.2.2.1 r.2.1.un.2.2.2.2.1 r.2.1.un.2.2.2.2.2 a b C Nm R=some (badR C.length r):=by
 unfold F_36 badR;rw[right_code hN (by omega) hq];simp only[bind,Option.bind_some];rw[badC_any hN hr.2];cases rtT r.2.1<;>simp
theorem badR_any(hN:9300000000000000000≤N)(hs:Short C Nm R)(hq: ∀r∈R,NdQ r.2.1):F_39 N R C Nm R=some (R.any (badR C.length)):=by
 have hl:=hs.r;unfold F_39 F_11
 rw[loop_find R (badR C.length) (fun i=>(i:Int)) (by omega) (fun i x hx=>by
  have hi:=lt_len hx;have hm:=List.mem_of_getElem? hx;unfold F_89;simp only[show((i:Int)<(R.length:Int)) by omega,decide_true,if_true,idx_of hx,bind,Option.bind_some];rw[build1_code hN (hs.t x hm) (hq x hm),w64_succ (by omega)];rfl) (by unfold F_89;simp)]
 cases h:R.findIdx? (badR C.length)with
 |none=>
   have:R.any (badR C.length)=false:=List.any_eq_false.2 fun x hx=>by rw[List.findIdx?_eq_none_iff.1 h x hx];simp
   simp[this]
 |some k=>
   obtain⟨hk,hp,_⟩:=List.findIdx?_eq_some_iff_getElem.1 h;have:R.any (badR C.length)=true:=List.any_eq_true.2 ⟨_,List.getElem_mem hk,hp⟩;rw[this];simp
def lens(C:List ByteArray)(R:List Rl):Bool:=decide (C.length<1)||decide (C.length>8)||decide (R.length<1)||decide (R.length>48)
theorem lens_code:((if(decide ((C.length:Int)<1))=true then(
 some true)
 else(
 if(decide ((C.length:Int)>8))=true then(
 some true)
 else(
 if(decide ((R.length:Int)<1))=true then(
 some true)
 else(
 some (decide ((R.length:Int)>48)))))):Option Bool)=some (lens C R):=by
 unfold lens;have e1:decide ((C.length:Int)<1)=decide (C.length<1):=by rw[Bool.eq_iff_iff,decide_eq_true_eq,decide_eq_true_eq];omega
 have e2:decide ((C.length:Int)>8)=decide (C.length>8):=by rw[Bool.eq_iff_iff,decide_eq_true_eq,decide_eq_true_eq];omega
 have e3:decide ((R.length:Int)<1)=decide (R.length<1):=by rw[Bool.eq_iff_iff,decide_eq_true_eq,decide_eq_true_eq];omega
 have e4:decide ((R.length:Int)>48)=decide (R.length>48):=by rw[Bool.eq_iff_iff,decide_eq_true_eq,decide_eq_true_eq];omega
 rw[e1,e2,e3,e4];cases decide (C.length<1)<;>cases decide (C.length>8)<;>cases decide (R.length<1)<;>rfl
theorem buildable_code(hN:9300000000000000000≤N)(hs:Short C Nm R)(hq: ∀r∈R,NdQ r.2.1):F_18 N C Nm R=some (!lens C R&& !R.any (badR C.length)):=by
 unfold F_18;rw[lens_code];simp only[bind,Option.bind_some];rw[badR_any hN hs hq];cases lens C R<;>rfl
theorem heavy_any(hN:9300000000000000000≤N)(hs:Short C Nm R)(hq: ∀r∈R,NdQ r.2.1)(hr: ∀r∈R,rtT r.2.1=true):F_98 N R=some (R.any fun r=>decide (wgt r.2.1>4000)):=by
 have hl:=hs.r;unfold F_98 F_41
 rw[loop_find R (fun r=>decide (wgt r.2.1>4000)) (fun i=>(i:Int)) (by omega) (fun i x hx=>by
  have hi:=lt_len hx;have hm:=List.mem_of_getElem? hx;have hc:=(hs.t x hm).1;unfold F_88 F_102;simp only[show((i:Int)<(R.length:Int)) by omega,decide_true,if_true,idx_of hx,bind,Option.bind_some];rw[weight_code hN (by omega) (hq x hm) (hr x hm),w64_succ (by omega)];rfl) (by unfold F_88;simp)]
 cases h:R.findIdx? (fun r=>decide (wgt r.2.1>4000))with
 |none=>
   have:R.any (fun r=>decide (wgt r.2.1>4000))=false:=List.any_eq_false.2 fun x hx=>by rw[List.findIdx?_eq_none_iff.1 h x hx];simp
   simp[this]
 |some k=>
   obtain⟨hk,hp,_⟩:=List.findIdx?_eq_some_iff_getElem.1 h;have:R.any (fun r=>decide (wgt r.2.1>4000))=true:=List.any_eq_true.2 ⟨_,List.getElem_mem hk,hp⟩;rw[this];simp
theorem ref_bad(hN:9300000000000000000≤N)(hs:Short C Nm R):iterO N (fun s=>F_70 N C R s) 0=some (if R.any (badR C.length)then .inr ([],[],4)else .inl ()):=by
 have hl:=hs.r;refine loop_any R (badR C.length) ([],[],4) (by omega) (fun i r hx=>?_) (by unfold F_70;simp);have hi:=lt_len hx;have hm:=List.mem_of_getElem? hx;have hc:=hs.t r hm;unfold F_70 badR;rw[if_pos (by simpa using hi),idx_of hx];simp only[bind,Option.bind_some];rw[right_ref hN (by omega)];simp only[Option.bind_some]
 rw[loop_any r.1 (badC C.length) (τ:=Int ⊕ (Unit ⊕ (List Stt×List Int×Int))) (.inr (.inr ([],[],4))) (by omega) (fun j c hy=>by
  have hj:=lt_len hy;unfold F_79 badC;rw[if_pos (by simpa using hj),idx_of hy];simp only[bind,Option.bind_some];rw[w64_succ (by omega)];by_cases c1:c<0<;>simp[c1]) (by unfold F_79;simp)]
 rw[w64_succ (by omega)];cases rtT r.2.1<;>cases r.1.any (badC C.length)<;>rfl
theorem ref_heavy(hN:9300000000000000000≤N)(hs:Short C Nm R)(hr: ∀r∈R,rtT r.2.1=true):iterO N (fun s=>F_71 N R s) 0=some (if R.any (fun r=>decide (wgt r.2.1>4000))then .inr ([],[],9)else .inl ()):=by
 have hl:=hs.r;refine loop_any R (fun r=>decide (wgt r.2.1>4000)) ([],[],9) (by omega) (fun i r hx=>?_) (by unfold F_71;simp);have hi:=lt_len hx;have hm:=List.mem_of_getElem? hx;have hc:=hs.t r hm;unfold F_71;rw[if_pos (by simpa using hi),idx_of hx];simp only[bind,Option.bind_some];rw[weight_ref _ _ rfl 1 N (RT.of (hr r hm)) (by omega) (by omega),w64_succ (by omega)];rfl
def ent(n:Nat):List Int:=(List.range n).map fun i:Nat=>(i:Int)
theorem ent_succ(n:Nat):ent (n+1)=ent n++ [(n:Int)]:=by
 unfold ent;rw[List.range_succ,List.map_append];rfl
theorem ent_len(n:Nat):(ent n).length=n:=by simp[ent]
theorem mkS_rep{n:Nat}(h:n<4000)(b:Bool):mkS (List.replicate n nw) b=(List.replicate (n+1) nw,b,(n:Int)):=by
 unfold mkS;rw[if_neg (by simp;omega),List.replicate_succ'];simp
theorem entry_code(hN:9300000000000000000≤N)(h8:C.length≤8):iterO N (fun s=>F_55 N C s.1 s.2.1 s.2.2.1 s.2.2.2) (0,[],[],0)=some (List.replicate C.length nw,ent C.length,0):=by
 refine iterO_for0 (fun i=>((i:Int),List.replicate i nw,ent i,(0:Int))) C.length rfl (by omega) (fun i hi=>?_) ?_
 ·show F_55 N C (i:Int) (List.replicate i nw) (ent i) 0=_;unfold F_55;have e:=state_code N (List.replicate i nw) (ent i) false;rw[mkS_rep (by omega)]at e;have e:F_19 N (List.replicate i nw) (ent i) 0=some (List.replicate (i+1) nw,0,(i:Int)):=e;have hl:=ent_len i;rw[if_pos (by simpa using hi),e];simp only[bind,Option.bind_some];rw[app_eq (by simp;omega),←ent_succ,w64_succ (by omega)];rfl
 show F_55 N C (C.length:Int) (List.replicate C.length nw) (ent C.length) 0=_;unfold F_55;simp
theorem entry_ref(hN:9300000000000000000≤N)(h8:C.length≤8):iterO N (fun s=>F_52 N C s.1 s.2.1 s.2.2.1 s.2.2.2) ([],[],false,0)=some (List.replicate C.length nw,ent C.length,false):=by
 refine iterO_for0 (fun i=>(List.replicate i nw,ent i,false,(i:Int))) C.length rfl (by omega) (fun i hi=>?_) ?_
 ·show F_52 N C (List.replicate i nw) (ent i) false (i:Int)=_;unfold F_52;have e:=state_ref N (List.replicate i nw) (ent i) false;rw[mkS_rep (by omega)]at e;have hl:=ent_len i;rw[if_pos (by simpa using hi),e];simp only[bind,Option.bind_some];rw[app_eq (by simp;omega),←ent_succ,w64_succ (by omega)];rfl
 show F_52 N C (List.replicate C.length nw) (ent C.length) false (C.length:Int)=_;unfold F_52;simp
structure Mid(n i:Nat)(S:List Stt):Prop where
 n:n≤S.length
 m:S.length≤4000
 s: ∀s∈S,SO S.length s
 f:sumF S≤50*i+4*S.length
 p:0<i→1≤S.length
theorem Mid.mi{n i:Nat}{S:List Stt}(h:Mid n i S)(hi:i≤48):MI S:=⟨h.m,h.s,by have:=h.f;omega⟩
theorem sumF_rep: ∀n:Nat,sumF (List.replicate n nw)=0
 |0=>rfl
 |n+1=>by
   rw[List.replicate_succ];simp only[sumF];rw[sumF_rep n];rfl
theorem Mid.start(n:Nat)(h:n≤8):Mid n 0 (List.replicate n nw):=by
 refine⟨by simp,by simp;omega,fun s hs=>?_,by rw[sumF_rep];omega,by omega⟩;rw[List.eq_of_mem_replicate hs];exact .nw (by omega)
theorem rule_step(hN:9300000000000000000≤N)(_:C.length≤8){i:Nat}(h48:R.length≤48){S:List Stt}(hS:Mid C.length i S){r:Rl}(hx:R[i]? =some r)(hc:cnt r.2.1<700∧r.1.length≤50)(hr:badR C.length r=false):
 (∃S',F_24 N R (ent C.length) (i:Int) S 0=some (.inl (((i+1:Nat):Int),S',0))∧F_23 N R (ent C.length) S false (i:Int)=some (.inl (S',false,((i+1:Nat):Int)))∧Mid C.length (i+1) S')∨
 (F_24 N R (ent C.length) (i:Int) S 0=some (.inr (.inr ([],[],2)))∧F_23 N R (ent C.length) S false (i:Int)=some (.inr (.inr ([],[],9)))):=by
 have hi:=lt_len hx;have hMI:=hS.mi (show i≤48 by omega);unfold badR at hr;simp only[Bool.or_eq_false_iff,Bool.not_eq_false']at hr;obtain⟨hrt,hcd⟩:=hr
 have hcd: ∀c∈r.1,0≤c∧c.toNat<C.length:=fun c hc=>by
  have:=List.any_eq_false.1 hcd c hc;unfold badC at this;simp at this;omega
 obtain⟨S1,b1,k,c1,c2,P1⟩:=st_ex N (ent C.length) false hMI;have c1:F_19 N S (ent C.length) 0=some (S1,er b1,k):=c1;have hl1:=P1.len;have hg1:=P1.g;have hn:=hS.n;have hf:=hS.f;have hm1:=P1.mi.n
 have he:b1=false→ ∀e∈r.1.map (fun c=>((c.toNat:Nat):Int)),0≤e∧e<S1.length:=fun _ e he=>by
  obtain⟨c,hc,rfl⟩:=List.mem_map.1 he;have:=hcd c hc;omega
 have hgi: ∀(j:Nat) (e:Int),(r.1.map (fun c=>((c.toNat:Nat):Int)))[j]? =some e→ ∃c,r.1[j]? =some c∧idx (ent C.length) c=some e:=fun j e hj=>by
  rw[List.getElem?_map]at hj;obtain⟨c,h1,rfl⟩:=Option.map_eq_some_iff.1 hj;have h2:=hcd c (List.mem_of_getElem? h1);refine⟨c,h1,?_⟩;unfold idx ent;rw[if_pos h2.1,List.getElem?_map,List.getElem?_range h2.2];rfl
 have f1:iterO N (fun s=>F_46 N (ent C.length) r (er b1) k s.1 s.2) (S1,0)=some (frA S1 b1 k (r.1.map (fun c=>((c.toNat:Nat):Int)))):=
  free_loop (f:=fun s=>F_46 N (ent C.length) r (er b1) k s.1 s.2) (by simp;omega) (by simp;omega) (by omega) he (fun j e Z hx hz hs=>by
   have hj:j<r.1.length:=by simpa using lt_len hx
   obtain⟨c,g1,g2⟩:=hgi j e hx;show F_46 N (ent C.length) r (er b1) k Z (j:Int)=_;unfold F_46;rw[if_pos (by simpa using hj),idx_of g1];simp only[bind,Option.bind_some];rw[g2];simp only[Option.bind_some];rw[free_code hz hs (by simp),w64_succ (by omega)]
   rfl) (fun Z=>by
   show F_46 N (ent C.length) r (er b1) k Z (((r.1.map (fun c=>((c.toNat:Nat):Int))).length:Nat):Int)=_;unfold F_46;simp)
 have f2:iterO N (fun s=>F_43 N (ent C.length) r b1 k s.1 s.2) (S1,0)=some (frA S1 b1 k (r.1.map (fun c=>((c.toNat:Nat):Int)))):=
  free_loop (f:=fun s=>F_43 N (ent C.length) r b1 k s.1 s.2) (by simp;omega) (by simp;omega) (by omega) he (fun j e Z hx hz hs=>by
   have hj:j<r.1.length:=by simpa using lt_len hx
   obtain⟨c,g1,g2⟩:=hgi j e hx;show F_43 N (ent C.length) r b1 k Z (j:Int)=_;unfold F_43;rw[if_pos (by simpa using hj),idx_of g1];simp only[bind,Option.bind_some];rw[g2];simp only[Option.bind_some];rw[free_ref hz hs,w64_succ (by omega)]
   rfl) (fun Z=>by
   show F_43 N (ent C.length) r b1 k Z (((r.1.map (fun c=>((c.toNat:Nat):Int))).length:Nat):Int)=_;unfold F_43;simp)
 have hfs:=frA_sum (t:=k) (r.1.map (fun c=>((c.toNat:Nat):Int))) S1 he;have hfl:=frA_len b1 k (r.1.map (fun c=>((c.toNat:Nat):Int))) S1;have hfo:=frA_so (b:=b1) (n:=(S1.length:Int)) P1.val (r.1.map (fun c=>((c.toNat:Nat):Int))) S1 P1.mi.s
 have hfs2:sumF (frA S1 b1 k (r.1.map (fun c=>((c.toNat:Nat):Int))))≤sumF S1+50:=by
  rw[hfs]
  have:(if b1=true then 0 else(r.1.map (fun c=>((c.toNat:Nat):Int))).length)≤50:=by
   split
   ·omega
   simp;omega
  omega
 generalize frA S1 b1 k (r.1.map (fun c=>((c.toNat:Nat):Int)))=S2 at f1 f2 hfl hfo hfs2;have hMI2:MI S2:=⟨by omega,fun s hs=>by rw[hfl];exact hfo s hs,by omega⟩;obtain⟨S3,b3,e,q1,q2,P3⟩:=tree_spec _ r.2.1 rfl 1 N (E:=ent C.length) (RT.of hrt) (by omega) (by omega) S2 b1 k hMI2 (by rw[hfl];exact P1.val);have hl3:=P3.len;have hg3:=P3.g
 cases hb3:b3 with
 |true=>
   subst hb3;refine .inr ⟨?_,?_⟩
   ·unfold F_24;rw[if_pos (by simpa using hi),idx_of hx];simp only[bind,Option.bind_some];rw[c1];simp only[Option.bind_some];rw[f1];simp only[Option.bind_some];rw[q1];simp only[Option.bind_some];rw[eOk_er];rfl
   unfold F_23;rw[if_pos (by simpa using hi),idx_of hx];simp only[bind,Option.bind_some];rw[c2];simp only[Option.bind_some];rw[f2];simp only[Option.bind_some];rw[q2];rfl
 |false=>
   subst hb3;have hv:=P3.val rfl;obtain⟨x,hxe⟩:=get_of hv;have hle:=lt_len hxe;have i1:idx S3 e=some x:=by unfold idx;rw[if_pos hv.1,hxe]
   have hxo:=P3.mi.s x (List.mem_of_getElem? hxe);have hs:=sumF_set S3 e.toNat x (x.1,x.2.1,x.2.2.1,(i:Int)) hxe;simp only at hs;have hn3:(S3.set e.toNat (x.1,x.2.1,x.2.2.1,(i:Int))).length=S3.length:=by simp
   refine .inl ⟨S3.set e.toNat (x.1,x.2.1,x.2.2.1,(i:Int)),?_,?_,⟨by omega,by rw[hn3];exact P3.mi.n,fun s hs'=>?_,by omega,fun _=>by omega⟩⟩
   ·unfold F_24;rw[if_pos (by simpa using hi),idx_of hx];simp only[bind,Option.bind_some];rw[c1];simp only[Option.bind_some];rw[f1];simp only[Option.bind_some];rw[q1];simp only[Option.bind_some];rw[eOk_er,if_neg Bool.false_ne_true,i1];simp only[Option.bind_some];rw[setI_int hv.1 hle,w64_succ (by omega)];rfl
   ·unfold F_23;rw[if_pos (by simpa using hi),idx_of hx];simp only[bind,Option.bind_some];rw[c2];simp only[Option.bind_some];rw[f2];simp only[Option.bind_some];rw[q2];simp only[Option.bind_some];rw[if_neg Bool.false_ne_true,i1];simp only[Option.bind_some];rw[setI_int hv.1 hle,w64_succ (by omega)];rfl
   rw[hn3];rcases List.mem_or_eq_of_mem_set hs' with hs'|hs'
   ·exact P3.mi.s s hs'
   subst hs';exact⟨hxo.to,hxo.set0,⟨by simp only;omega,by simp only;omega⟩,hxo.free⟩
theorem rules_loop(hN:9300000000000000000≤N)(h8:C.length≤8)(h48:R.length≤48)(hc: ∀r∈R,cnt r.2.1<700∧r.1.length≤50)(hr: ∀r∈R,badR C.length r=false): ∀(j i K:Nat) (S:List Stt),i+j=R.length→j<K→Mid C.length i S→
 (∃S',iterO K (fun s=>F_24 N R (ent C.length) s.1 s.2.1 s.2.2) ((i:Int),S,0)=some (.inl (S',0))∧iterO K (fun s=>F_23 N R (ent C.length) s.1 s.2.1 s.2.2) (S,false,(i:Int))=some (.inl (S',false))∧Mid C.length R.length S')∨
 (iterO K (fun s=>F_24 N R (ent C.length) s.1 s.2.1 s.2.2) ((i:Int),S,0)=some (.inr ([],[],2))∧iterO K (fun s=>F_23 N R (ent C.length) s.1 s.2.1 s.2.2) (S,false,(i:Int))=some (.inr ([],[],9))):=by
 intro j
 induction j with
 |zero=>
   intro i K S hi hK hS;obtain⟨K,rfl⟩: ∃m,K=m+1:=⟨K-1,by omega⟩;obtain rfl:i=R.length:=by omega
   refine .inl ⟨S,?_,?_,hS⟩
   ·simp[iterO,F_24]
   simp[iterO,F_23]
 |succ j ih=>
   intro i K S hi hK hS;obtain⟨K,rfl⟩: ∃m,K=m+1:=⟨K-1,by omega⟩;have hlt:i<R.length:=by omega
   have hx:R[i]? =some R[i]:=List.getElem?_eq_getElem hlt;have hm:=List.mem_of_getElem? hx;rcases rule_step hN h8 h48 hS hx (hc _ hm) (hr _ hm)with⟨S',g1,g2,g3⟩|⟨g1,g2⟩
   ·have:=ih (i+1) K S' (by omega) (by omega) g3;simp only[iterO,g1,g2];exact this
   refine .inr ⟨?_,?_⟩
   ·simp only[iterO,g1]
   simp only[iterO,g2]
theorem build_spec(hN:9300000000000000000≤N)(hs:Short C Nm R)(hq: ∀r∈R,NdQ r.2.1):
 (∃S E,F_3 N C Nm R=some (S,E,0)∧F_2 N C Nm R=some (S,E,0)∧NSz S E∧NRt S E)∨
 (F_3 N C Nm R=some ([],[],1)∧F_2 N C Nm R=some ([],[],4))∨(F_3 N C Nm R=some ([],[],2)∧F_2 N C Nm R=some ([],[],9)):=by
 have hb:=ref_bad hN hs;unfold F_3 F_2;rw[buildable_code hN hs hq,lens_code];simp only[bind,Option.bind_some]
 cases hl:lens C R with
 |true=>exact .inr (.inl ⟨rfl,rfl⟩)
 |false=>
   unfold lens at hl;simp only[Bool.or_eq_false_iff,decide_eq_false_iff_not]at hl;rw[hb];simp only[Option.bind_some]
   cases hbad:R.any (badR C.length)with
   |true=>exact .inr (.inl ⟨rfl,rfl⟩)
   |false=>
     have hbr: ∀r∈R,badR C.length r=false:=fun r hr=>by simpa using List.any_eq_false.1 hbad r hr
     have hrt: ∀r∈R,rtT r.2.1=true:=fun r hr=>by
      have:=hbr r hr;unfold badR at this;simp only[Bool.or_eq_false_iff,Bool.not_eq_false']at this;exact this.1
     rw[heavy_any hN hs hq hrt,ref_heavy hN hs hrt];simp only[Option.bind_some,Bool.not_false,Bool.and_self,Bool.not_true,Bool.false_eq_true,if_false]
     cases hh:R.any (fun r=>decide (wgt r.2.1>4000))with
     |true=>exact .inr (.inr ⟨rfl,rfl⟩)
     |false=>
       simp only[Bool.false_eq_true,if_false];rw[entry_code hN (by omega),entry_ref hN (by omega)];simp only[Option.bind_some];rcases rules_loop hN (by omega) (by omega) hs.t hbr R.length 0 N (List.replicate C.length nw) (by omega) (by omega) (Mid.start _ (by omega))with⟨S',g1,g2,g3⟩|⟨g1,g2⟩
       ·have g1:iterO N (fun s=>F_24 N R (ent C.length) s.1 s.2.1 s.2.2) (0,List.replicate C.length nw,0)=_:=g1;have g2:iterO N (fun s=>F_23 N R (ent C.length) s.1 s.2.1 s.2.2) (List.replicate C.length nw,false,0)=_:=g2;have hn:=g3.n;have hm:=g3.m;have hf:=g3.f;have hel:=ent_len C.length;refine .inl ⟨S',ent C.length,?_,?_,⟨by omega,by omega,fun s hs'=>?_⟩,⟨g3.p (by omega),g3.m,by omega,by omega,fun x hx=>?_,fun s hs'=>(g3.s s hs').to,fun s hs'=>(g3.s s hs').set0,fun s hs'=>(g3.s s hs').rul,fun s hs'=>(g3.s s hs').free⟩⟩
        ·rw[g1];rfl
        ·rw[g2];rfl
        ·obtain⟨j,hj,rfl⟩:=List.getElem_of_mem hs';have:=sumF_get (List.getElem?_eq_getElem hj);omega
        unfold ent at hx;obtain⟨j,hj,rfl⟩:=List.mem_map.1 hx;have:=List.mem_range.1 hj;omega
       have g1:iterO N (fun s=>F_24 N R (ent C.length) s.1 s.2.1 s.2.2) (0,List.replicate C.length nw,0)=_:=g1;have g2:iterO N (fun s=>F_23 N R (ent C.length) s.1 s.2.1 s.2.2) (List.replicate C.length nw,false,0)=_:=g2;refine .inr (.inr ⟨?_,?_⟩)
       ·rw[g1];rfl
       rw[g2];rfl
theorem num0:F_33 N 0=some 0:=rfl
theorem num1(hN:20≤N):F_33 N 1=some 4:=by
 obtain⟨M,rfl⟩: ∃m,N=m+20:=⟨N-20,by omega⟩;rfl
theorem num2(hN:20≤N):F_33 N 2=some 9:=by
 obtain⟨M,rfl⟩: ∃m,N=m+20:=⟨N-20,by omega⟩;rfl
theorem nfaBuild_true(hq: ∀r∈R,NdQ r.2.1): ∃N,F_64 N C Nm R=some true:=by
 refine⟨9300000000000000000,?_⟩;generalize hN':(9300000000000000000:Nat)=N;have hN:9300000000000000000≤N:=by omega
 clear hN';unfold F_64;obtain⟨b,h1,h2⟩:=long_spec (N:=N) (C:=C) (Nm:=Nm) (R:=R) (by omega);rw[h1];simp only[bind,Option.bind_some]
 cases b with
 |true=>rfl
 |false=>
   have hs:=h2 rfl;rw[if_neg Bool.false_ne_true,of14_spec (by omega) hs];simp only[Option.bind_some];rcases build_spec hN hs hq with⟨S,E,g1,g2,g3,g4⟩|⟨g1,g2⟩|⟨g1,g2⟩
   ·rw[g1,g2];simp only[Option.bind_some];rw[num0];simp only[Option.bind_some,bne_self_eq_false,Bool.false_eq_true,if_false];obtain⟨p,hp,hq⟩:=of15_spec (N:=N) (S:=S) (E:=E) (m:=4000) (by omega) (by omega);rw[hp];simp only[Option.bind_some]
    cases h3:p.2 with
    |false=>simp
    |true=>
      obtain⟨e,_⟩:=hq h3;rw[e,nrefSame_spec (by omega) g3];simp only[Option.bind_some,and_self,decide_true,if_true,Bool.not_true,Bool.false_eq_true,if_false];rw[nfaRight_spec (by omega) g3,(rtB_iff S E).2 g4];rfl
   ·rw[g1,g2];simp only[Option.bind_some];rw[num1 (by omega)];rfl
   rw[g1,g2];simp only[Option.bind_some];rw[num2 (by omega)];rfl
end
end Go.Proofs.YtmolobogpjddjaaGreatDoor
