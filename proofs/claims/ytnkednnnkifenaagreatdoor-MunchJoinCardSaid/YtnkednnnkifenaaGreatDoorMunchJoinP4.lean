import Derived.Test.YtnkednnnkifenaaGreatDoorMunchJoinP3
namespace Go.Eng
open Go
theorem iterO_for{σ τ:Type}{f:σ→Option (σ ⊕ τ)}{r:τ}(st:Nat→σ): ∀(n:Nat) {N k:Nat},n<N→(∀i,k≤i→i<k+n→f (st i)=some (.inl (st (i+1))))→f (st (k+n))=some (.inr r)→iterO N f (st k)=some r
 |0,0,_,h,_,_=>absurd h (Nat.not_lt_zero _)
 |0,N+1,k,_,_,he=>by simp only[iterO];rw[show f (st k)=_ from he]
 |n+1,0,_,h,_,_=>absurd h (Nat.not_lt_zero _)
 |n+1,N+1,k,h,hs,he=>by
   simp only[iterO];rw[hs k (Nat.le_refl _) Om];exact iterO_for st n Om (fun i h1 h2=>hs i Om Om) (by rw[show k+1+n=k+(n+1) by omega];exact he)
theorem iterO_for0{σ τ:Type}{f:σ→Option (σ ⊕ τ)}{r:τ}{s:σ}(st:Nat→σ)(n:Nat){N:Nat}(h0:st 0=s)(hN:n<N)(hs: ∀i,i<n→f (st i)=some (.inl (st (i+1))))(he:f (st n)=some (.inr r)):iterO N f s=some r:=by
 subst h0;exact iterO_for st n hN (fun i _ h=>hs i Om) (by rw[Nat.zero_add];exact he)
theorem iterO_while{σ τ:Type}{f:σ→Option (σ ⊕ τ)}(I:σ→Prop)(μ:σ→Nat)(Q:τ→Prop)(step: ∀s,I s→(∃s',f s=some (.inl s')∧I s'∧μ s'<μ s)∨ ∃r,f s=some (.inr r)∧Q r):
 ∀{N:Nat} {s:σ},I s→μ s<N→ ∃r,iterO N f s=some r∧Q r
 |0,_,_,h=>absurd h (Nat.not_lt_zero _)
 |N+1,s,hI,h=>by
   rcases step s hI with⟨s',h1,h2,h3⟩|⟨r,h1,h2⟩
   ·obtain⟨r,h4,h5⟩:=iterO_while I μ Q step (N:=N) h2 Om;exact⟨r,by simp only[iterO,h1];exact h4,h5⟩
   exact⟨r,by simp only[iterO,h1],h2⟩
theorem wrap64{x:Int}(h1: -9223372036854775808≤x)(h2:x≤9223372036854775807):IntKind.wrap .i64 x=x:=by
 simp only[IntKind.wrap,IntKind.signed,IntKind.bits];simp;omega
theorem wrapU64{x:Int}(h1:0≤x)(h2:x≤18446744073709551615):IntKind.wrap .u64 x=x:=by
 simp only[IntKind.wrap,IntKind.signed,IntKind.bits];simp;omega
theorem w64_succ{n:Nat}(h:n<9223372036854775807):w64 ((n:Int)+1)=((n+1:Nat):Int):=by
 rw[w64,wrap64]<;>omega
theorem idx_nat{α:Type}{xs:List α}{i:Nat}(h:i<xs.length):idx xs (i:Int)=some xs[i]:=by simp[idx,h]
theorem idx_int{α:Type}{xs:List α}{i:Int}(h0:0≤i)(h:i.toNat<xs.length):idx xs i=some xs[i.toNat]:=by simp[idx,h,h0]
theorem idx_of{α:Type}{xs:List α}{i:Nat}{x:α}(h:xs[i]? =some x):idx xs (i:Int)=some x:=by simp[idx,h]
theorem setI_nat{α:Type}{xs:List α}{i:Nat}{x:α}(h:i<xs.length):setI xs (i:Int) x=some (xs.set i x):=by simp[setI,h]
theorem setI_int{α:Type}{xs:List α}{i:Int}{x:α}(h0:0≤i)(h:i.toNat<xs.length):setI xs i x=some (xs.set i.toNat x):=by simp[setI,h,h0]
theorem app_eq{α:Type}{xs ys:List α}(h:xs.length+ys.length≤4294967296):app xs ys=some (xs++ys):=by simp[app,h]
theorem mk_eq{α:Type}{z:α}{n:Nat}(h:n≤4294967296):mk z (n:Int)=some (List.replicate n z):=by
 simp[mk];omega
theorem loop_find{α τ:Type}{f:Int→Option (Int ⊕ (Unit ⊕ τ))}(xs:List α)(p:α→Bool)(g:Nat→τ){N:Nat}(hN:xs.length<N)
 (hb: ∀(i:Nat) (x:α),xs[i]? =some x→f (i:Int)=if p x then some (.inr (.inr (g i)))else some (.inl ((i+1:Nat):Int))) (he:f (xs.length:Int)=some (.inr (.inl ()))):
 iterO N f 0=some (match xs.findIdx? p with|some i=> .inr (g i)|none=> .inl ()):=by
 cases h:xs.findIdx? p with
 |none=>
   have h':=List.findIdx?_eq_none_iff.1 h;refine iterO_for0 (fun i=>(i:Int)) xs.length rfl hN (fun i hi=>?_) he;rw[hb i xs[i] (List.getElem?_eq_getElem hi),h' _ (List.getElem_mem hi)];simp
 |some k=>
   obtain⟨hk,hp,hlt⟩:=List.findIdx?_eq_some_iff_getElem.1 h;refine iterO_for0 (fun i=>(i:Int)) k rfl Om (fun i hi=>?_) ?_
   ·rw[hb i _ (List.getElem?_eq_getElem Om)];have:=hlt i hi;simp[this]
   rw[hb k _ (List.getElem?_eq_getElem hk)];simp[hp]
theorem loop_any{α τ:Type}{f:Int→Option (Int ⊕ (Unit ⊕ τ))}(xs:List α)(p:α→Bool)(b:τ){N:Nat}(hN:xs.length<N)
 (hb: ∀(i:Nat) (x:α),xs[i]? =some x→f (i:Int)=if p x then some (.inr (.inr b))else some (.inl ((i+1:Nat):Int))) (he:f (xs.length:Int)=some (.inr (.inl ()))):
 iterO N f 0=some (if xs.any p then .inr b else .inl ()):=by
 rw[loop_find xs p (fun _=>b) hN hb he]
 cases h:xs.findIdx? p with
 |none=>
   have h':=List.findIdx?_eq_none_iff.1 h;have:xs.any p=false:=by rw[List.any_eq_false];intro x hx;rw[h' x hx];simp
   simp[this]
 |some k=>
   obtain⟨hk,hp,hlt⟩:=List.findIdx?_eq_some_iff_getElem.1 h;have:xs.any p=true:=List.any_eq_true.2 ⟨_,List.getElem_mem hk,hp⟩;simp[this]
theorem loop_inv{α σ τ ι:Type}{f:ι→Option (ι ⊕ τ)}(st:Nat→σ→ι)(out:σ→τ)(xs:List α)(I:Nat→σ→Prop){N:Nat}{s:σ}(hN:xs.length<N)
 (hI:I 0 s) (hb: ∀(i:Nat) (x:α) (s:σ),xs[i]? =some x→I i s→ ∃s',f (st i s)=some (.inl (st (i+1) s'))∧I (i+1) s') (he: ∀s,I xs.length s→f (st xs.length s)=some (.inr (out s))):
 ∃s',iterO N f (st 0 s)=some (out s')∧I xs.length s':=by
 have key: ∀(k i:Nat) (s:σ) (M:Nat),i+k=xs.length→k<M→I i s→ ∃s',iterO M f (st i s)=some (out s')∧I xs.length s':=by
  intro k
  induction k with
  |zero=>
    intro i s M hi hM h;obtain⟨M,rfl⟩: ∃m,M=m+1:=⟨M-1,by omega⟩;obtain rfl:i=xs.length:=by omega
    exact⟨s,by simp only[iterO];rw[he s h],h⟩
  |succ k ih=>
    intro i s M hi hM h;obtain⟨M,rfl⟩: ∃m,M=m+1:=⟨M-1,by omega⟩;obtain⟨s',h1,h2⟩:=hb i _ s (List.getElem?_eq_getElem Om) h;obtain⟨s'',h3,h4⟩:=ih (i+1) s' M Om Om h2;exact⟨s'',by simp only[iterO];rw[h1];exact h3,h4⟩
 exact key xs.length 0 s N Om hN hI
end Go.Eng
namespace Go.Proofs.YtnkednnnkifenaaGreatDoor
open Go Go.Eng
variable {N:Nat}{rows:List Go.Eng.LI}{rule entry:Go.Eng.LI}
theorem lt_len{α:Type}{xs:List α}{i:Nat}{x:α}(h:xs[i]? =some x):i<xs.length:=(List.getElem?_eq_some_iff.1 h).1
theorem range_get{n i x:Nat}(h:(List.range n)[i]? =some x):i<n∧x=i:=by
 have hl:=lt_len h;simp at hl;rw[List.getElem?_range hl]at h;exact⟨hl,(oi h).symm⟩
set_option maxRecDepth 100000
theorem ba_ext{a b:BA}(h:a.data.toList=b.data.toList):a=b:=by
 obtain⟨⟨a⟩⟩:=a;obtain⟨⟨b⟩⟩:=b;simp at h;rw[h]
theorem ba_toList(b:BA):b.toList=b.data.toList:=by
 have go: ∀(k i:Nat) (r:List UInt8),i+k=b.size→ByteArray.toList.loop b i r=r.reverse++b.data.toList.drop i:=by
  intro k
  induction k with
  |zero=>
    intro i r h;unfold ByteArray.toList.loop;rw[if_neg Om,List.drop_of_length_le (by have:b.data.toList.length=b.size:=(by rw[Array.length_toList];rfl);omega),List.append_nil]
  |succ k ih=>
    intro i r h;unfold ByteArray.toList.loop;have hl:b.data.toList.length=b.size:=by rw[Array.length_toList];rfl
    have hi:i<b.data.toList.length:=by omega
    rw[if_pos Om,ih (i+1) _ Om,List.drop_eq_getElem_cons hi,List.reverse_cons,List.append_assoc]
    have:b.get! i=b.data.toList[i]:=by
     have hi':i<b.data.size:=by simpa using hi
     show b.data[i]! =_;rw[getElem!_pos b.data i hi'];simp
    rw[this];rfl
 have:=go b.size 0 [] Om;simpa[ByteArray.toList]using this
def lst(f:Nat→Bool)(n:Nat):LI:=((List.range n).filter f).map fun(j:Nat)=>(j:Int)
abbrev Stt:=LI×(Int×Int×Int×Int)×Int×Int
mutual
def cnt:Nd→Nat
 | .mk _ _ l _ _ _=>1+cntL l
def cntL:List Nd→Nat
 | []=>0
 |x::l=>cnt x+cntL l
end
abbrev kd(t:Nd):List Nd:=t.un.2.2.1
theorem cnt_un(t:Nd):cnt t=1+cntL (kd t):=by
 cases t;simp only[cnt];rfl
theorem cntL_mem{x:Nd}: ∀{l:List Nd},x∈l→cnt x≤cntL l
 |y::l,h=>by
   simp only[cntL];rcases List.mem_cons.1 h with rfl|h
   ·omega
   have:=cntL_mem h;omega
theorem cnt_kid{t x:Nd}(h:x∈kd t):cnt x<cnt t:=by
 have:=cntL_mem h;rw[cnt_un t];omega
theorem cntL_len: ∀(l:List Nd),l.length≤cntL l
 | []=>Nat.le_refl _
 |x::l=>by
   have:=cntL_len l;have:=cnt_un x;simp only[cntL,List.length_cons];omega
theorem Nd.of_eq(x:Nd):Nd.of (x.un.1,(x.un.2.1.1,x.un.2.1.2.1,x.un.2.1.2.2.1,x.un.2.1.2.2.2),x.un.2.2.1,x.un.2.2.2.1,x.un.2.2.2.2.1,x.un.2.2.2.2.2)=x:=by
 cases x;rfl
abbrev Rl:=LI×Nd×Int×Int
def sl(s:BA):LI:=s.data.toList.map fun u=>((u.toNat:Nat):Int)
theorem sl_len(s:BA):(sl s).length=s.size:=by
 unfold sl;rw[List.length_map,Array.length_toList];rfl
theorem sidx_sl(s:BA)(i:Int):sidx s i=idx (sl s) i:=by
 unfold sidx idx sl;rw[List.getElem?_map]
theorem emp_sl(s:BA):(s.toList==ByteArray.empty.toList)=decide (s.size=0):=by
 rw[ba_toList,ba_toList];have:s.size=s.data.toList.length:=by rw[Array.length_toList];rfl
 rw[this];show(s.data.toList== [])=_;cases s.data.toList<;>simp
def ltC(c:Int):Bool:=decide (97≤c)&&decide (c≤122)
def dgC(c:Int):Bool:=decide (48≤c)&&decide (c≤57)
def nmB(l:LI):Bool:=decide (1≤l.length)&&decide (l.length≤12)&&ltC (l.getD 0 0)&&l.all (fun c=>ltC c||dgC c)
theorem nm_code{s:BA}(hN:9300000000000000000≤N)(hs:s.size≤maxLen):F_18 N s=some (nmB (sl s)):=by
 have hm:s.size<9223372036854775808:=by unfold maxLen at hs;omega
 have hl:=sl_len s;unfold F_18
 rw[loop_any (List.range s.size) (fun i=> !ltC ((sl s).getD i 0)&&(i==0|| !dgC ((sl s).getD i 0))) false (by simp;omega) (fun i x hx=>by
  obtain⟨hi,rfl⟩:=range_get hx
  have hx:(sl s)[x]? =some ((sl s).getD x 0):=by
   rw[List.getD,List.getElem?_eq_getElem Om];rfl
  generalize(sl s).getD x 0=c at hx;unfold F_111;rw[if_pos (by simpa using hi)];simp only[sidx_sl,idx_of hx,bind,Option.bind_some];rw[w64_succ Om];unfold ltC dgC;by_cases c1:97≤c
  ·by_cases c2:c≤122
   ·simp[c1,c2]
   by_cases h0:x=0
   ·subst h0;simp[c1,c2]
   have: ¬(x:Int)=0:=by omega
   have c3: ¬c<48:=by omega
   have c4:c>57:=by omega
   simp[c1,c2,h0,c3,c4]
  by_cases h0:x=0
  ·subst h0;simp[c1]
  by_cases c3:c<48
  ·simp[c1,h0,c3]
  by_cases c4:c>57
  ·simp[c1,h0,c3,c4]
  simp[c1,h0,c3,c4,show 48≤c by omega,show c≤57 by omega]) (by unfold F_111;simp)]
 by_cases h0:s.size=0
 ·have e:sl s= []:=List.eq_nil_of_length_eq_zero Om
  have e2:(s.toList != ByteArray.empty.toList)=false:=by
   show(!(s.toList==ByteArray.empty.toList))=_;rw[emp_sl];simp[h0]
  rw[h0,e2,nmB,e];rfl
 have e2:(s.toList != ByteArray.empty.toList)=true:=by
  show(!(s.toList==ByteArray.empty.toList))=_;rw[emp_sl];simp[h0]
 simp only[e2,if_true,bind,Option.bind_some]
 cases hl:sl s with
 |nil=>
   have:=sl_len s;rw[hl]at this;simp at this;omega
 |cons c t=>
   have hsz:s.size=t.length+1:=by rw[←sl_len s,hl];rfl
   rw[hsz,List.range_succ_eq_map,List.any_cons,List.any_map]
   have e3:(fun i=> !ltC ((c::t).getD i 0)&&(i==0|| !dgC ((c::t).getD i 0)))∘Nat.succ=fun i=> !(ltC (t.getD i 0)||dgC (t.getD i 0)):=by
    funext i;simp[Bool.not_or]
   rw[e3]
   have e4:((List.range t.length).any fun i=> !(ltC (t.getD i 0)||dgC (t.getD i 0)))= !t.all (fun c=>ltC c||dgC c):=by
    rw[List.any_eq_not_all_not]
    congr 1
    simp only[Bool.not_not];rw[Bool.eq_iff_iff,List.all_eq_true,List.all_eq_true];constructor
    ·intro h x hx;obtain⟨i,hi,rfl⟩:=List.getElem_of_mem hx;have:=h i (by simpa using hi);rwa[List.getD,List.getElem?_eq_getElem hi]at this
    intro h i hi;have hi:i<t.length:=by simpa using hi
    have:=h _ (List.getElem_mem hi);rw[List.getD,List.getElem?_eq_getElem hi];exact this
   rw[e4];unfold nmB;simp only[List.length_cons,List.getD_cons_zero,List.all_cons];generalize t.all (fun c=>ltC c||dgC c)=q;by_cases c3:t.length+1≤12
   ·have c4:(t.length:Int)+1≤12:=by omega
    cases ltC c<;>cases q<;>simp[c3,c4]
   have c4: ¬(t.length:Int)+1≤12:=by omega
   cases ltC c<;>cases q<;>simp[c3,c4]
def bareB(k:Int)(z:Bool)(mn mx:Int)(e:Bool):Bool:=(k==1||z)&&(k==4||(mn==0&&mx==0))&&(k==5||e)
def kindB(k:Int)(n:Nat)(mn mx:Int)(q:Bool):Bool:=
 if(k==1)=true then n==0 else if(k==2)=true then true else if(k==3)=true then decide (2≤n)else
  if(k==4)=true then n==1&&decide (0≤mn)&&decide (mn≤40)&&(mx== -1||(decide (mn≤mx)&&decide (1≤mx)&&decide (mx≤40)))else k==5&&n==0&&q
def okB(k:Int)(z:Bool)(n:Nat)(mn mx:Int)(e q:Bool):Bool:=bareB k z mn mx e&&kindB k n mn mx q
theorem imax_le{a b c:Int}:a≥imax b c↔b≤a∧c≤a:=by
 unfold imax;split<;>omega
theorem bare_spec{k a b c d:Int}{l:List Nd}{mn mx:Int}{s:BA}:
 F_171 N k a b c d l mn mx s=some (bareB k (([a,b,c,d]:LI)== [0,0,0,0]) mn mx (s.toList==ByteArray.empty.toList)):=by
 unfold F_171 bareB;generalize(([a,b,c,d]:LI)== [0,0,0,0])=z;generalize(s.toList==ByteArray.empty.toList)=e;generalize(k==1)=k1;generalize(k==4)=k4;generalize(k==5)=k5;generalize(mn==0)=m1;generalize(mx==0)=m2;cases z<;>cases e<;>cases k1<;>cases k4<;>cases k5<;>cases m1<;>cases m2<;>rfl
theorem beq_nat(n m:Nat):((n:Int)==(m:Int))=(n==m):=by
 rw[Bool.eq_iff_iff,beq_iff_eq,beq_iff_eq];omega
theorem node_code{k a b c d:Int}{l:List Nd}{mn mx:Int}{s:BA}(hN:9300000000000000000≤N)(hs:s.size≤maxLen):
 F_172 N k a b c d l mn mx s=some (okB k (([a,b,c,d]:LI)== [0,0,0,0]) l.length mn mx (s.toList==ByteArray.empty.toList) (nmB (sl s))):=by
 unfold F_172 okB kindB;rw[bare_spec,nm_code hN hs,show((l.length:Int)==0)=(l.length==0)from beq_nat _ 0,show((l.length:Int)==1)=(l.length==1)from beq_nat _ 1]
 have e2:decide (mx≥imax mn 1)=(decide (mn≤mx)&&decide (1≤mx)):=by
  rw[Bool.eq_iff_iff];simp only[decide_eq_true_eq,Bool.and_eq_true];exact imax_le
 have e3:decide ((l.length:Int)≥2)=decide (2≤l.length):=by
  rw[Bool.eq_iff_iff,decide_eq_true_eq,decide_eq_true_eq];omega
 rw[e2,e3];simp only[ge_iff_le];generalize bareB k (([a,b,c,d]:LI)== [0,0,0,0]) mn mx (s.toList==ByteArray.empty.toList)=z;generalize nmB (sl s)=q;generalize(l.length==0)=n0;generalize(l.length==1)=n1;generalize decide (2≤l.length)=n2;generalize decide (0≤mn)=m1;generalize decide (mn≤40)=m2;generalize(mx== -1)=m3;generalize decide (mn≤mx)=m4;generalize decide (1≤mx)=m5;generalize decide (mx≤40)=m6;cases z
 ·rfl
 cases h1:k==1
 ·cases h2:k==2
  ·cases h3:k==3
   ·cases h4:k==4
    ·cases h5:k==5<;>cases n0<;>cases q<;>rfl
    cases n1<;>cases m1<;>cases m2<;>cases m3<;>cases m4<;>cases m5<;>cases m6<;>rfl
   rfl
  rfl
 rfl
mutual
def wk:Nat→Nd→List (Nd×Int)
 |lv,.mk k s l a b t=>(.mk k s l a b t,(lv:Int))::(if lv>24 then []else wkL (lv+1) l)
def wkL:Nat→List Nd→List (Nd×Int)
 |_,[]=>[]
 |lv,x::l=>wk lv x++wkL lv l
end
theorem wk_un(lv:Nat)(t:Nd):wk lv t=(t,(lv:Int))::(if lv>24 then []else wkL (lv+1) (kd t)):=by
 cases t;simp only[wk];rfl
theorem wkL_drop{lv:Nat}{l:List Nd}{i:Nat}{x:Nd}(h:l[i]? =some x):wkL lv (l.drop i)=wk lv x++wkL lv (l.drop (i+1)):=by
 rw[List.drop_eq_getElem_cons (lt_len h)];simp only[wkL];rw[(List.getElem?_eq_some_iff.1 h).2]
def run{σ α:Type}(Y:α→σ→Option (σ×Bool)):List α→Nat→σ→Option ((σ×Int) ⊕ ((σ×Int) ⊕ (σ×Int)))
 | [],n,s=>some (.inr (.inr (s,(n:Int))))
 |_::_,0,s=>some (.inl (s,0))
 |x::xs,n+1,s=>Y x s >>= fun q=>if(!q.2)=true then some (.inr (.inl (q.1,((n+1:Nat):Int))))else run Y xs n q.1
def nxt{σ α:Type}(Y:α→σ→Option (σ×Bool))(ys:List α):(σ×Int) ⊕ ((σ×Int) ⊕ (σ×Int))→Option ((σ×Int) ⊕ ((σ×Int) ⊕ (σ×Int)))
 | .inl p=>some (.inl p)
 | .inr (.inl p)=>some (.inr (.inl p))
 | .inr (.inr p)=>run Y ys p.2.toNat p.1
theorem run_app{σ α:Type}(Y:α→σ→Option (σ×Bool))(ys:List α): ∀(xs:List α) (n:Nat) (s:σ),run Y (xs++ys) n s=run Y xs n s >>= nxt Y ys
 | [],n,s=>by simp[run,nxt,bind]
 |x::xs,0,s=>by simp[run,nxt,bind]
 |x::xs,n+1,s=>by
   simp only[List.cons_append,run,bind]
   cases Y x s with
   |none=>rfl
   |some q=>
     simp only[Option.bind_some];by_cases h:(!q.2)=true
     ·rw[if_pos h,if_pos h];rfl
     rw[if_neg h,if_neg h];exact run_app Y ys xs n q.1
def cv{σ:Type}:(σ×Int) ⊕ ((σ×Int) ⊕ (σ×Int))→(σ×Int) ⊕ ((σ×Int) ⊕ ((σ×Int) ⊕ (σ×Int)))
 | .inl p=> .inr (.inl p)
 | .inr (.inl p)=> .inr (.inr (.inl p))
 | .inr (.inr p)=> .inl p
theorem run_nat{σ α:Type}{Y:α→σ→Option (σ×Bool)}: ∀{xs:List α} {n:Nat} {s:σ} {p:σ×Int},run Y xs n s=some (.inr (.inr p))→ ∃m:Nat,p.2=(m:Int)∧m≤n
 | [],n,s,p,h=>by
   simp only[run,Option.some.injEq,Sum.inr.injEq]at h;subst h;exact⟨n,rfl,Nat.le_refl _⟩
 |x::xs,0,s,p,h=>by simp[run]at h
 |x::xs,n+1,s,p,h=>by
   simp only[run,bind]at h
   cases hy:Y x s with
   |none=>rw[hy]at h;simp at h
   |some q=>
     rw[hy]at h;simp only[Option.bind_some]at h;split at h
     ·simp at h
     obtain⟨m,h1,h2⟩:=run_nat h;exact⟨m,h1,by omega⟩
theorem walk_run{σ:Type}(Y:Nd×Int→σ→Option (σ×Bool)): ∀(c:Nat) (t:Nd),cnt t=c→ ∀(lv n N:Nat) (s:σ),cnt t+5≤N→cnt t<100000→lv≤25→n≤100000→
 F_25 N (n:Int) Y s t.un.1 t.un.2.1.1 t.un.2.1.2.1 t.un.2.1.2.2.1 t.un.2.1.2.2.2 t.un.2.2.1 t.un.2.2.2.1 t.un.2.2.2.2.1 t.un.2.2.2.2.2 (lv:Int)=run Y (wk lv t) n s:=by
 intro c
 induction c using Nat.strongRecOn with
 |ind c IH=>
   intro t hc lv n N s hN hb hlv hn;obtain⟨M,rfl⟩: ∃m,N=m+1:=⟨N-1,by omega⟩;have hcu:=cnt_un t;have hll:=cntL_len (kd t);rw[F_25,wk_un]
   cases n with
   |zero=>simp[run]
   |succ n=>
     have e0:(((n+1:Nat):Int)==0)=false:=by simp;omega
     have e1:w64 (((n+1:Nat):Int)-1)=(n:Int):=by rw[w64,wrap64]<;>omega
     simp only[e0,e1,Bool.false_eq_true,if_false,Nd.of_eq,run,bind]
     cases hY:Y (t,(lv:Int)) s with
     |none=>rfl
     |some q=>
       simp only[Option.bind_some];by_cases hq:(!q.2)=true
       ·rw[if_pos hq,if_pos hq]
       rw[if_neg hq,if_neg hq];by_cases h24:lv>24
       ·have:(lv:Int)>24:=by omega
        simp[this,h24,run]
       have h24': ¬(lv:Int)>24:=by omega
       simp only[h24',decide_false,Bool.false_eq_true,if_false,h24]
       have key: ∀(r i n K:Nat) (s:σ),i+r=(kd t).length→r<K→n≤100000→
        iterO K (fun s=>F_90 M (F_25 M) Y (kd t) (lv:Int) s.1 s.2.1 s.2.2) (s,(n:Int),(i:Int))=(run Y (wkL (lv+1) ((kd t).drop i)) n s).map cv:=by
        intro r
        induction r with
        |zero=>
          intro i n K s hi hK hn;obtain⟨K,rfl⟩: ∃m,K=m+1:=⟨K-1,by omega⟩;rw[List.drop_eq_nil_of_le Om];simp only[iterO,F_90];rw[if_neg (by simp;omega)];simp[wkL,run,cv]
        |succ r ih=>
          intro i n K s hi hK hn;obtain⟨K,rfl⟩: ∃m,K=m+1:=⟨K-1,by omega⟩;have hlt:i<(kd t).length:=by omega
          have hx:(kd t)[i]? =some (kd t)[i]:=List.getElem?_eq_getElem hlt;generalize(kd t)[i]=x at hx;have hm:=cnt_kid (List.mem_of_getElem? hx);have hw:w64 ((lv:Int)+1)=((lv+1:Nat):Int):=w64_succ Om;have e:=IH (cnt x) Om x rfl (lv+1) n M s Om Om Om hn
          have hs:F_90 M (F_25 M) Y (kd t) (lv:Int) s (n:Int) (i:Int)=(run Y (wk (lv+1) x) n s).bind (fun z=>match z with
           | .inl p=>some (.inr (.inr (.inl p)))
           | .inr (.inl p)=>some (.inr (.inr (.inr (.inl p))))
           | .inr (.inr p)=>some (.inl (p.1,p.2,((i+1:Nat):Int)))):=by
           unfold F_90;rw[if_pos (by simpa using hlt),idx_of hx];simp only[bind,Option.bind_some];rw[hw,e,w64_succ Om]
           cases run Y (wk (lv+1) x) n s with
           |none=>rfl
           |some z=>
             match z with
             | .inl p=>rfl
             | .inr (.inl p)=>rfl
             | .inr (.inr p)=>rfl
          rw[wkL_drop hx,run_app];simp only[iterO,hs]
          cases hr:run Y (wk (lv+1) x) n s with
          |none=>rfl
          |some z=>
            match z,hr with
            | .inl p,_=>rfl
            | .inr (.inl p),_=>rfl
            | .inr (.inr p),hr=>
              obtain⟨m,h1,h2⟩:=run_nat hr;obtain⟨s',q'⟩:=p;simp only at h1;subst h1;simp only[bind,Option.bind_some,nxt,Int.toNat_natCast];exact ih (i+1) m K s' Om Om Om
       have:=key (kd t).length 0 n M q.1 Om Om Om;rw[List.drop_zero]at this;rw[show((0:Int))=((0:Nat):Int)from rfl,this]
       cases run Y (wkL (lv+1) (kd t)) n q.1 with
       |none=>rfl
       |some z=>
         match z with
         | .inl p=>rfl
         | .inr (.inl p)=>rfl
         | .inr (.inr p)=>rfl
def okT(t:Nd):Bool:=
 okB t.un.1 (([t.un.2.1.1,t.un.2.1.2.1,t.un.2.1.2.2.1,t.un.2.1.2.2.2]:LI)== [0,0,0,0]) (kd t).length t.un.2.2.2.1 t.un.2.2.2.2.1 (t.un.2.2.2.2.2.toList==ByteArray.empty.toList) (nmB (sl t.un.2.2.2.2.2))
def okX(x:Nd×Int):Bool:=decide (x.2≤24)&&okT x.1
def rtT(t:Nd):Bool:=decide ((wk 1 t).length≤600)&&(wk 1 t).all okX
mutual
theorem wk_Q: ∀(lv:Nat) (t:Nd),NdQ t→ ∀x∈wk lv t,NdQ x.1
 |lv,.mk k s l a b t,h,x,hx=>by
   have hl:NdQL l:=by simp only[NdQ]at h;exact h.2
   simp only[wk]at hx;rcases List.mem_cons.1 hx with rfl|hx
   ·exact h
   split at hx
   ·simp at hx
   exact wkL_Q (lv+1) l hl x hx
theorem wkL_Q: ∀(lv:Nat) (l:List Nd),NdQL l→ ∀x∈wkL lv l,NdQ x.1
 |_,[],_,x,hx=>by simp[wkL]at hx
 |lv,y::l,h,x,hx=>by
   simp only[NdQL]at h;simp only[wkL]at hx;rcases List.mem_append.1 hx with hx|hx
   ·exact wk_Q lv y h.1 x hx
   exact wkL_Q lv l h.2 x hx
end
def yR(N:Nat):Nd×Int→Int ⊕ Unit→Option ((Int ⊕ Unit)×Bool):=YS (σ1:=Int) (σ2:=Unit) (fun x s=>F_88 N x.1 x.2 s)
theorem right_run(hN:9300000000000000000≤N): ∀(l:List (Nd×Int)) (m:Nat),m≤600→(∀x∈l,NdQ x.1)→
 (if m+l.length≤600∧l.all okX=true then∃n,run (yR N) l (601-m) (.inl (m:Int))=some (.inr (.inr (.inl (((m+l.length:Nat)):Int),n)))
  else∃n,run (yR N) l (601-m) (.inl (m:Int))=some (.inr (.inl (.inr (),n))))
 | [],m,hm,_=>by
   rw[if_pos (by simpa using hm)];exact⟨_,rfl⟩
 |x::l,m,hm,hq=>by
   have hx:=hq x Sm
   have e:run (yR N) (x::l) (601-m) (.inl (m:Int))=
    (if m+1≤600∧okX x=true then run (yR N) l (601-(m+1)) (.inl ((m+1:Nat):Int))else some (.inr (.inl (.inr (),((601-m:Nat):Int))))):=by
    have r0:yR N x (.inl (m:Int))=some (if m+1≤600∧okX x=true then(.inl ((m+1:Nat):Int),true)else(.inr (),false)):=by
     show F_88 N x.1 x.2 (m:Int)=_;unfold F_88;rw[node_code hN hx.text,w64_succ Om];have:okT x.1=okB x.1.un.1 (([x.1.un.2.1.1,x.1.un.2.1.2.1,x.1.un.2.1.2.2.1,x.1.un.2.1.2.2.2]:LI)== [0,0,0,0]) x.1.un.2.2.1.length x.1.un.2.2.2.1 x.1.un.2.2.2.2.1 (x.1.un.2.2.2.2.2.toList==ByteArray.empty.toList) (nmB (sl x.1.un.2.2.2.2.2)):=rfl;rw[←this];unfold okX;by_cases h1:x.2>24
     ·have h1': ¬x.2≤24:=by omega
      simp[h1,h1']
     have h1':x.2≤24:=by omega
     by_cases h2:m+1≤600
     ·have h3: ¬600<(m:Int)+1:=by omega
      cases okT x.1<;>simp[h1,h1',h2,h3]
     have h3:600<(m:Int)+1:=by omega
     simp[h1,h2,h3]
    rw[show 601-m=(601-(m+1))+1 by omega];simp only[run];rw[r0];by_cases h:m+1≤600∧okX x=true
    ·rw[if_pos h,if_pos h];rfl
    rw[if_neg h,if_neg h];rfl
   rw[e];by_cases h1:m+1≤600∧okX x=true
   ·rw[if_pos h1];have ih:=right_run hN l (m+1) h1.1 (fun y hy=>hq y (by simp[hy]))
    have e2:(m+(x::l).length≤600∧(x::l).all okX=true)↔(m+1+l.length≤600∧l.all okX=true):=by
     simp only[List.length_cons,List.all_cons,h1.2,Bool.true_and];rw[show m+(l.length+1)=m+1+l.length by omega]
    by_cases h2:m+1+l.length≤600∧l.all okX=true
    ·rw[if_pos h2]at ih;rw[if_pos (e2.2 h2)];obtain⟨n,hn⟩:=ih;exact⟨n,by rw[hn,List.length_cons,show m+1+l.length=m+(l.length+1) by omega]⟩
    rw[if_neg h2]at ih;rw[if_neg (fun h=>h2 (e2.1 h))];exact ih
   rw[if_neg h1,if_neg]
   ·exact⟨_,rfl⟩
   rintro⟨h2,h3⟩;simp only[List.length_cons,List.all_cons,Bool.and_eq_true]at h2 h3;exact h1 ⟨by omega,h3.1⟩
theorem right_code{t:Nd}(hN:9300000000000000000≤N)(hc:cnt t<1000)(hq:NdQ t):
 F_24 N t.un.1 t.un.2.1.1 t.un.2.1.2.1 t.un.2.1.2.2.1 t.un.2.1.2.2.2 t.un.2.2.1 t.un.2.2.2.1 t.un.2.2.2.2.1 t.un.2.2.2.2.2=some (rtT t):=by
 unfold F_24 F_37 F_89;have e:=walk_run (yR N) _ t rfl 1 601 N (.inl 0) Om Om Om Om;have r:=right_run hN (wk 1 t) 0 Om (fun x hx=>wk_Q 1 t hq x hx);simp only[bind,Option.bind_some];rw[show(YS (σ1:=Int) (σ2:=Unit) fun x s=>F_88 N x.1 x.2 s)=yR N from rfl,show((601:Int))=((601:Nat):Int)from rfl,show((1:Int))=((1:Nat):Int)from rfl,e];unfold rtT;by_cases h:0+(wk 1 t).length≤600∧(wk 1 t).all okX=true
 ·rw[if_pos h]at r;obtain⟨n,hn⟩:=r;have hn:run (yR N) (wk 1 t) 601 (.inl 0)=_:=hn;rw[hn];have h1:(wk 1 t).length≤600:=by omega
  simp[h.2,h1]
 rw[if_neg h]at r;obtain⟨n,hn⟩:=r;have hn:run (yR N) (wk 1 t) 601 (.inl 0)=_:=hn;rw[hn];by_cases h1:(wk 1 t).length≤600
 ·have:(wk 1 t).all okX=false:=by
   cases hh:(wk 1 t).all okX with
   |false=>rfl
   |true=>exact absurd ⟨by omega,hh⟩ h
  simp[this]
 simp[h1]
def RT(lv:Nat)(t:Nd):Prop:= ∀x∈wk lv t,okX x=true
theorem RT.node{lv:Nat}{t:Nd}(h:RT lv t):lv≤24∧okT t=true:=by
 have:=h (t,(lv:Int)) (by rw[wk_un];simp);unfold okX at this;simp only[Bool.and_eq_true,decide_eq_true_eq]at this;exact⟨by omega,this.2⟩
theorem wkL_mem{lv:Nat}{x:Nd}: ∀{l:List Nd},x∈l→ ∀y∈wk lv x,y∈wkL lv l
 |z::l,h,y,hy=>by
   simp only[wkL];rcases List.mem_cons.1 h with rfl|h
   ·exact List.mem_append.2 (.inl hy)
   exact List.mem_append.2 (.inr (wkL_mem h y hy))
theorem RT.kid{lv:Nat}{t x:Nd}(h:RT lv t)(hx:x∈kd t):RT (lv+1) x:=fun y hy=>by
 have h24:=h.node.1;refine h y ?_;rw[wk_un,if_neg Om];exact List.mem_cons_of_mem _ (wkL_mem hx y hy)
theorem RT.of{t:Nd}(h:rtT t=true):RT 1 t:=by
 unfold rtT at h;simp only[Bool.and_eq_true,List.all_eq_true]at h;exact h.2
abbrev kn(t:Nd):Int:=t.un.1
abbrev lo(t:Nd):Int:=t.un.2.2.2.1
abbrev hi(t:Nd):Int:=t.un.2.2.2.2.1
theorem ok_kind{t:Nd}(h:okT t=true):(kn t=1∧kd t= [])∨kn t=2∨(kn t=3∧2≤(kd t).length)∨
 (kn t=4∧(kd t).length=1∧0≤lo t∧lo t≤40∧(hi t= -1∨(lo t≤hi t∧1≤hi t∧hi t≤40)))∨(kn t=5∧kd t= []):=by
 unfold okT okB kindB at h;rw[Bool.and_eq_true]at h;have h:=h.2;simp only[beq_iff_eq]at h;split at h
 ·rename_i h1;exact .inl ⟨h1,List.eq_nil_of_length_eq_zero (by simpa using h)⟩
 split at h
 ·rename_i h1;exact .inr (.inl h1)
 split at h
 ·rename_i h1;exact .inr (.inr (.inl ⟨h1,by simpa using h⟩))
 split at h
 ·rename_i h1;simp only[Bool.and_eq_true,Bool.or_eq_true,beq_iff_eq,decide_eq_true_eq]at h;have h2:hi t= -1∨((lo t≤hi t∧1≤hi t)∧hi t≤40):=h.2;exact .inr (.inr (.inr (.inl ⟨h1,h.1.1.1,h.1.1.2,h.1.2,h2.imp id fun h=>⟨h.1.1,h.1.2,h.2⟩⟩)))
 simp only[Bool.and_eq_true,beq_iff_eq]at h;exact .inr (.inr (.inr (.inr ⟨h.1.1,List.eq_nil_of_length_eq_zero h.1.2⟩)))
def adj(k mn mx x:Int):Int:=if k=4 then(if mx= -1 then min (x*(mn+1)) 1048576 else min (x*mx) 1048576)else x
mutual
def wgt:Nd→Int
 | .mk k _ l mn mx _=>wgtL k mn mx 1 l
def wgtL:Int→Int→Int→Int→List Nd→Int
 |_,_,_,w,[]=>w
 |k,mn,mx,w,x::l=>wgtL k mn mx (min (w+adj k mn mx (wgt x)) 1048576) l
end
theorem wgt_un(t:Nd):wgt t=wgtL (kn t) (lo t) (hi t) 1 (kd t):=by
 cases t;simp only[wgt];rfl
theorem wgtL_drop{k mn mx w:Int}{l:List Nd}{i:Nat}{x:Nd}(h:l[i]? =some x):wgtL k mn mx w (l.drop i)=wgtL k mn mx (min (w+adj k mn mx (wgt x)) 1048576) (l.drop (i+1)):=by
 rw[List.drop_eq_getElem_cons (lt_len h)];simp only[wgtL];rw[(List.getElem?_eq_some_iff.1 h).2]
theorem mul_bd{a b:Int}(h1:0≤a)(h2:a≤1048576)(h3:0≤b)(h4:b≤41):0≤a*b∧a*b≤42991616:=by
 refine⟨Int.mul_nonneg h1 h3,?_⟩;have:=Int.mul_le_mul h2 h4 h3 Om;omega
structure Bd(k mn mx:Int):Prop where
 b:k=4→0≤mn∧mn≤40∧(mx= -1∨(1≤mx∧mx≤40))
theorem ok_bd{t:Nd}(h:okT t=true):Bd (kn t) (lo t) (hi t):=⟨fun h4=>by
 rcases ok_kind h with⟨h1,_⟩|h1|⟨h1,_⟩|⟨_,_,a,b,c⟩|⟨h1,_⟩
 ·omega
 ·omega
 ·omega
 ·exact⟨a,b,by omega⟩
 omega⟩
theorem adj_bd{k mn mx x:Int}(h:Bd k mn mx)(h1:1≤x)(h2:x≤1048576):0≤adj k mn mx x∧adj k mn mx x≤1048576:=by
 unfold adj;split
 ·rename_i h4;obtain⟨a,b,c⟩:=h.b h4;split
  ·have:=(mul_bd (a:=x) (b:=mn+1) Om h2 Om Om).1;omega
  have:=(mul_bd (a:=x) (b:=mx) Om h2 Om Om).1;omega
 omega
theorem wgtL_bd{k mn mx:Int}(h:Bd k mn mx): ∀(l:List Nd) (w:Int),(∀x∈l,1≤wgt x∧wgt x≤1048576)→1≤w→w≤1048576→1≤wgtL k mn mx w l∧wgtL k mn mx w l≤1048576
 | [],w,_,h1,h2=>by simp only[wgtL];omega
 |x::l,w,hx,h1,h2=>by
   simp only[wgtL];have:=hx x Sm;have:=adj_bd h this.1 this.2;exact wgtL_bd h l _ (fun y hy=>hx y (by simp[hy])) Om Om
theorem wgt_bd: ∀(c:Nat) (t:Nd),cnt t=c→ ∀lv,RT lv t→1≤wgt t∧wgt t≤1048576:=by
 intro c
 induction c using Nat.strongRecOn with
 |ind c IH=>
   intro t hc lv h;rw[wgt_un];exact wgtL_bd (ok_bd h.node.2) _ _ (fun x hx=>IH (cnt x) (by have:=cnt_kid hx;omega) x rfl _ (h.kid hx)) Om Om
theorem or_tot(hN:5≤N)(x1 x2 x3 x4 x5 x6 x7 x8:Int): ∃r,F_20 N x1 x2 x3 x4 x5 x6 x7 x8=some r:=by
 obtain⟨M,rfl⟩: ∃m,N=m+5:=⟨N-5,by omega⟩;unfold F_20
 have s: ∀(j:Nat) (a b c d:Int),j<4→ ∃e f g h,F_164 (M+5) x5 x6 x7 x8 a b c d (j:Int)=some (.inl (e,f,g,h,((j+1:Nat):Int))):=fun j a b c d hj=>by
  unfold F_164;rw[if_pos (by simpa using(show(j:Int)<4 by omega))];have h1:j<([a,b,c,d]:LI).length:=hj;have h2:j<([x5,x6,x7,x8]:LI).length:=hj;simp only[idx_nat h1,idx_nat h2,bind,Option.bind_some,setI_nat h1];rw[w64_succ Om];exact⟨_,_,_,_,rfl⟩
 obtain⟨a1,b1,c1,d1,h1⟩:=s 0 x1 x2 x3 x4 Om;obtain⟨a2,b2,c2,d2,h2⟩:=s 1 a1 b1 c1 d1 Om;obtain⟨a3,b3,c3,d3,h3⟩:=s 2 a2 b2 c2 d2 Om;obtain⟨a4,b4,c4,d4,h4⟩:=s 3 a3 b3 c3 d3 Om;have h5:F_164 (M+5) x5 x6 x7 x8 a4 b4 c4 d4 ((4:Nat):Int)=some (.inr (a4,b4,c4,d4)):=rfl;rw[show((0:Int))=((0:Nat):Int)from rfl];simp only[iterO,h1,h2,h3,h4,h5];exact⟨_,rfl⟩
theorem times_tot(a b:Int): ∃r,F_87 N a b=some r:=by
 unfold F_87;by_cases h:a>0
 ·have:nz a=some ():=by unfold nz;rw[if_neg Om]
  rw[if_pos (by simpa using h),this];simp only[bind,Option.bind_some];split<;>exact⟨_,rfl⟩
 rw[if_neg (by simpa using h)];exact⟨_,rfl⟩
theorem behind_tot(hN:5≤N)(x1 x2 x18 x19:Bool)(x3 x4 x5 x6 x7 x8 x9 x10 x11 x12 x13 x14 x15 x16 x17:Int)(x20 x21 x22 x23 x24 x25 x26 x27 x28 x29 x30 x31 x32 x33 x34:Int): ∃r,F_220 N x1 x2 x3 x4 x5 x6 x7 x8 x9 x10 x11 x12 x13 x14 x15 x16 x17 x18 x19 x20 x21 x22 x23 x24 x25 x26 x27 x28 x29 x30 x31 x32 x33 x34=some r:=by
 have o:=or_tot hN;unfold F_220 F_76 F_63;simp only[bind,Option.bind_some];obtain⟨⟨p1,p2,p3,p4⟩,e1⟩:=o x14 x15 x16 x17 x31 x32 x33 x34;obtain⟨⟨q1,q2,q3,q4⟩,e2⟩:=o x6 x7 x8 x9 x23 x24 x25 x26;obtain⟨⟨r1,r2,r3,r4⟩,e3⟩:=o x27 x28 x29 x30 x10 x11 x12 x13;rw[e1,e2,e3];cases x1<;>cases x18<;>cases x2<;>cases x19<;>exact⟨_,rfl⟩
theorem orF_tot(hN:5≤N)(x1 x2 x18 x19:Bool)(x3 x4 x5 x6 x7 x8 x9 x10 x11 x12 x13 x14 x15 x16 x17:Int)(x20 x21 x22 x23 x24 x25 x26 x27 x28 x29 x30 x31 x32 x33 x34:Int): ∃r,F_221 N x1 x2 x3 x4 x5 x6 x7 x8 x9 x10 x11 x12 x13 x14 x15 x16 x17 x18 x19 x20 x21 x22 x23 x24 x25 x26 x27 x28 x29 x30 x31 x32 x33 x34=some r:=by
 have o:=or_tot hN;unfold F_221;simp only[bind];obtain⟨⟨p1,p2,p3,p4⟩,e1⟩:=o x14 x15 x16 x17 x31 x32 x33 x34;obtain⟨⟨q1,q2,q3,q4⟩,e2⟩:=o x6 x7 x8 x9 x23 x24 x25 x26;obtain⟨⟨r1,r2,r3,r4⟩,e3⟩:=o x10 x11 x12 x13 x27 x28 x29 x30;rw[e1,e2,e3];cases x1<;>cases x18<;>cases x2<;>exact⟨_,rfl⟩
theorem again_tot(x1 x2:Bool)(x3 x4 x5 x6 x7 x8 x9 x10 x11 x12 x13 x14 x15 x16 x17 x18 x19:Int): ∃r,F_219 N x1 x2 x3 x4 x5 x6 x7 x8 x9 x10 x11 x12 x13 x14 x15 x16 x17 x18 x19=some r:=by
 unfold F_219 F_166 F_76;obtain⟨a,e1⟩:=times_tot (N:=N) x3 x18;obtain⟨b,e2⟩:=times_tot (N:=N) x4 x19;rw[e1,e2];simp only[bind,Option.bind_some];cases x1
 ·cases x2<;>cases x19==(-1)<;>cases decide (x4>0)<;>exact⟨_,rfl⟩
 cases x18==0<;>exact⟨_,rfl⟩
theorem l1_tot{M:Nat}(hM:5≤M)(lst:List (Bool×Bool×Int×Int×Int×(Int×Int×Int×Int)×(Int×Int×Int×Int)×(Int×Int×Int×Int)))(hl:lst.length<M)(hl2:lst.length<4294967296)(s0:Bool×Bool×Int×Int×Int×Int×Int×Int×Int×Int×Int×Int×Int×Int×Int×Int): ∃r,iterO M (fun s:Int×Bool×Bool×Int×Int×Int×Int×Int×Int×Int×Int×Int×Int×Int×Int×Int×Int=>F_167 M lst s.1 s.2.1 s.2.2.1 s.2.2.2.1 s.2.2.2.2.1 s.2.2.2.2.2.1 s.2.2.2.2.2.2.1 s.2.2.2.2.2.2.2.1 s.2.2.2.2.2.2.2.2.1 s.2.2.2.2.2.2.2.2.2.1 s.2.2.2.2.2.2.2.2.2.2.1 s.2.2.2.2.2.2.2.2.2.2.2.1 s.2.2.2.2.2.2.2.2.2.2.2.2.1 s.2.2.2.2.2.2.2.2.2.2.2.2.2.1 s.2.2.2.2.2.2.2.2.2.2.2.2.2.2.1 s.2.2.2.2.2.2.2.2.2.2.2.2.2.2.2.1 s.2.2.2.2.2.2.2.2.2.2.2.2.2.2.2.2) (0,s0)=some r:=by
 obtain⟨r,h,_⟩:=loop_inv (f:=fun s:Int×Bool×Bool×Int×Int×Int×Int×Int×Int×Int×Int×Int×Int×Int×Int×Int×Int=>F_167 M lst s.1 s.2.1 s.2.2.1 s.2.2.2.1 s.2.2.2.2.1 s.2.2.2.2.2.1 s.2.2.2.2.2.2.1 s.2.2.2.2.2.2.2.1 s.2.2.2.2.2.2.2.2.1 s.2.2.2.2.2.2.2.2.2.1 s.2.2.2.2.2.2.2.2.2.2.1 s.2.2.2.2.2.2.2.2.2.2.2.1 s.2.2.2.2.2.2.2.2.2.2.2.2.1 s.2.2.2.2.2.2.2.2.2.2.2.2.2.1 s.2.2.2.2.2.2.2.2.2.2.2.2.2.2.1 s.2.2.2.2.2.2.2.2.2.2.2.2.2.2.2.1 s.2.2.2.2.2.2.2.2.2.2.2.2.2.2.2.2) (fun i (s:Bool×Bool×Int×Int×Int×Int×Int×Int×Int×Int×Int×Int×Int×Int×Int×Int)=>((i:Int),s)) id lst (fun _ _=>True) (N:=M) (s:=s0) hl trivial (fun i y s hx _=>by
  have hi:=lt_len hx;obtain⟨b1,b2,a3,a4,a5,a6,a7,a8,a9,a10,a11,a12,a13,a14,a15,a16⟩:=s;obtain⟨y1,y2,y3,y4,y5,⟨y6,y7,y8,y9⟩,⟨y10,y11,y12,y13⟩,⟨y14,y15,y16,y17⟩⟩:=y;obtain⟨r,e⟩:=behind_tot hM b1 b2 y1 y2 a3 a4 0 a5 a6 a7 a8 a9 a10 a11 a12 a13 a14 a15 a16 y3 y4 y5 y6 y7 y8 y9 y10 y11 y12 y13 y14 y15 y16 y17;unfold F_167;rw[if_pos (by simpa using hi),idx_of hx];simp only[bind,Option.bind_some];rw[e,w64_succ Om];exact⟨r,rfl,trivial⟩) (fun s _=>by unfold F_167;simp)
 exact⟨r,h⟩
theorem l2_tot{M:Nat}(hM:5≤M)(lst:List (Bool×Bool×Int×Int×Int×(Int×Int×Int×Int)×(Int×Int×Int×Int)×(Int×Int×Int×Int)))(hl:lst.length<M)(hl2:lst.length<4294967296)(s0:Bool×Bool×Int×Int×Int×Int×Int×Int×Int×Int×Int×Int×Int×Int×Int×Int×Int): ∃r,iterO M (fun s:Int×Bool×Bool×Int×Int×Int×Int×Int×Int×Int×Int×Int×Int×Int×Int×Int×Int×Int=>F_168 M lst s.1 s.2.1 s.2.2.1 s.2.2.2.1 s.2.2.2.2.1 s.2.2.2.2.2.1 s.2.2.2.2.2.2.1 s.2.2.2.2.2.2.2.1 s.2.2.2.2.2.2.2.2.1 s.2.2.2.2.2.2.2.2.2.1 s.2.2.2.2.2.2.2.2.2.2.1 s.2.2.2.2.2.2.2.2.2.2.2.1 s.2.2.2.2.2.2.2.2.2.2.2.2.1 s.2.2.2.2.2.2.2.2.2.2.2.2.2.1 s.2.2.2.2.2.2.2.2.2.2.2.2.2.2.1 s.2.2.2.2.2.2.2.2.2.2.2.2.2.2.2.1 s.2.2.2.2.2.2.2.2.2.2.2.2.2.2.2.2.1 s.2.2.2.2.2.2.2.2.2.2.2.2.2.2.2.2.2) (0,s0)=some r:=by
 obtain⟨r,h,_⟩:=loop_inv (f:=fun s:Int×Bool×Bool×Int×Int×Int×Int×Int×Int×Int×Int×Int×Int×Int×Int×Int×Int×Int=>F_168 M lst s.1 s.2.1 s.2.2.1 s.2.2.2.1 s.2.2.2.2.1 s.2.2.2.2.2.1 s.2.2.2.2.2.2.1 s.2.2.2.2.2.2.2.1 s.2.2.2.2.2.2.2.2.1 s.2.2.2.2.2.2.2.2.2.1 s.2.2.2.2.2.2.2.2.2.2.1 s.2.2.2.2.2.2.2.2.2.2.2.1 s.2.2.2.2.2.2.2.2.2.2.2.2.1 s.2.2.2.2.2.2.2.2.2.2.2.2.2.1 s.2.2.2.2.2.2.2.2.2.2.2.2.2.2.1 s.2.2.2.2.2.2.2.2.2.2.2.2.2.2.2.1 s.2.2.2.2.2.2.2.2.2.2.2.2.2.2.2.2.1 s.2.2.2.2.2.2.2.2.2.2.2.2.2.2.2.2.2) (fun i (s:Bool×Bool×Int×Int×Int×Int×Int×Int×Int×Int×Int×Int×Int×Int×Int×Int×Int)=>((i:Int),s)) id lst (fun _ _=>True) (N:=M) (s:=s0) hl trivial (fun i y s hx _=>by
  have hi:=lt_len hx;obtain⟨b1,b2,a3,a4,a5,a6,a7,a8,a9,a10,a11,a12,a13,a14,a15,a16,a17⟩:=s;obtain⟨y1,y2,y3,y4,y5,⟨y6,y7,y8,y9⟩,⟨y10,y11,y12,y13⟩,⟨y14,y15,y16,y17⟩⟩:=y;obtain⟨r,e⟩:=orF_tot hM b1 b2 y1 y2 a3 a4 a5 a6 a7 a8 a9 a10 a11 a12 a13 a14 a15 a16 a17 y3 y4 y5 y6 y7 y8 y9 y10 y11 y12 y13 y14 y15 y16 y17;unfold F_168;rw[if_pos (by simpa using hi),idx_of hx];simp only[bind,Option.bind_some];rw[e,w64_succ Om];exact⟨r,rfl,trivial⟩) (fun s _=>by unfold F_168;simp)
 exact⟨r,h⟩
theorem wgtL_ne{k mn mx:Int}(h:k≠4): ∀(l:List Nd) (w:Int),wgtL k mn mx w l=wgtL 0 0 0 w l
 | [],w=>by simp only[wgtL]
 |x::l,w=>by
   simp only[wgtL];have e1:adj k mn mx (wgt x)=wgt x:=by unfold adj;rw[if_neg h]
   have e2:adj 0 0 0 (wgt x)=wgt x:=rfl;rw[e1,e2];exact wgtL_ne h l _
theorem imin_min(a b:Int):imin a b=min a b:=by
 unfold imin;split<;>omega
theorem times_spec{a n:Int}(h1:1≤a)(h2:a≤1048576)(h3:0≤n)(h4:n≤41):F_87 N a n=some (min (a*n) 1048576):=by
 have mb:=mul_bd (a:=a) (b:=n) Om h2 h3 h4;have ew:w64 (a*n)=a*n:=by rw[w64,wrap64]<;>omega
 have hq:(1048576:Int).tdiv a=1048576/a:=Int.tdiv_eq_ediv_of_nonneg Om;have hq0:0≤(1048576:Int)/a:=Int.ediv_nonneg Om Om;have hq1:(1048576:Int)/a≤1048576:=Int.ediv_le_self _ Om
 have hq2:(1048576:Int)<a*(1048576/a+1):=by
  have:=Int.lt_mul_ediv_self_add (x:=1048576) (k:=a) Om;rw[Int.mul_add,Int.mul_one];omega
 unfold F_87;have hn:nz a=some ():=by unfold nz;rw[if_neg Om]
 rw[if_pos (by simpa using(show a>0 by omega)),hn];simp only[bind,Option.bind_some,hq];rw[show w64 ((1048576:Int)/a)=1048576/a by rw[w64,wrap64]<;>omega];by_cases c:n>1048576/a
 ·rw[if_pos (by simpa using c)];have:a*(1048576/a+1)≤a*n:=Int.mul_le_mul_of_nonneg_left Om Om
  congr 1
  omega
 rw[if_neg (by simpa using c),ew,imin_min]
set_option maxHeartbeats 1000000 in
theorem known_spec: ∀(c:Nat) (t:Nd),cnt t=c→ ∀(lv N:Nat),RT lv t→cnt t+10≤N→cnt t<100000→
 ∃r,F_13 N t.un.1 t.un.2.1.1 t.un.2.1.2.1 t.un.2.1.2.2.1 t.un.2.1.2.2.2 t.un.2.2.1 t.un.2.2.2.1 t.un.2.2.2.2.1 t.un.2.2.2.2.2=some r∧r.2.2.2.2.1=wgt t:=by
 intro c
 induction c using Nat.strongRecOn with
 |ind c IH=>
   intro t hc lv N h hN hb;obtain⟨M,rfl⟩: ∃m,N=m+1:=⟨N-1,by omega⟩;have hcu:=cnt_un t;have hll:=cntL_len (kd t);have hbd:=ok_bd h.node.2;have hkw: ∀x∈kd t,1≤wgt x∧wgt x≤1048576:=fun x hx=>wgt_bd _ x rfl _ (h.kid hx);rw[F_13]
   have key: ∀(r i K:Nat) (lst:List (Bool×Bool×Int×Int×Int×(Int×Int×Int×Int)×(Int×Int×Int×Int)×(Int×Int×Int×Int))) (w:Int),i+r=(kd t).length→r<K→lst.length=i→1≤w→w≤1048576→(∀(j:Nat) (x:Nd) (y:(Bool×Bool×Int×Int×Int×(Int×Int×Int×Int)×(Int×Int×Int×Int)×(Int×Int×Int×Int))),(kd t)[j]? =some x→lst[j]? =some y→y.2.2.2.2.1=wgt x)→
    ∃lst',iterO K (fun s=>F_130 M (F_13 M) (kd t) s.1 s.2.1 s.2.2) ((i:Int),lst,w)=some (lst',wgtL 0 0 0 w ((kd t).drop i))∧lst'.length=(kd t).length∧ ∀(j:Nat) (x:Nd) (y:(Bool×Bool×Int×Int×Int×(Int×Int×Int×Int)×(Int×Int×Int×Int)×(Int×Int×Int×Int))),(kd t)[j]? =some x→lst'[j]? =some y→y.2.2.2.2.1=wgt x:=by
    intro r
    induction r with
    |zero=>
      intro i K lst w hi_ hK hl h1 h2 hp;obtain⟨K,rfl⟩: ∃m,K=m+1:=⟨K-1,by omega⟩;rw[List.drop_eq_nil_of_le Om];refine⟨lst,?_,by omega,hp⟩;simp only[iterO,F_130];rw[if_neg (by simp;omega)];simp[wgtL]
    |succ r ih=>
      intro i K lst w hi_ hK hl h1 h2 hp;obtain⟨K,rfl⟩: ∃m,K=m+1:=⟨K-1,by omega⟩;have hlt:i<(kd t).length:=by omega
      have hx:(kd t)[i]? =some (kd t)[i]:=List.getElem?_eq_getElem hlt;generalize(kd t)[i]=x at hx;have hmem:=List.mem_of_getElem? hx;have hm:=cnt_kid hmem;obtain⟨⟨f1,f2,f3,f4,f5,f6,f7,f8,f9,f10,f11,f12,f13,f14,f15,f16,f17⟩,e,ew⟩:=IH (cnt x) Om x rfl (lv+1) M (h.kid hmem) Om Om;simp only at ew;have hw:=hkw x hmem
      have hs:F_130 M (F_13 M) (kd t) (i:Int) lst w=some (.inl (((i+1:Nat):Int),lst++ [(f1,f2,f3,f4,f5,(f6,f7,f8,f9),(f10,f11,f12,f13),(f14,f15,f16,f17))],min (w+wgt x) 1048576)):=by
       unfold F_130;rw[if_pos (by simpa using hlt),idx_of hx];simp only[bind,Option.bind_some];rw[e,w64_succ Om];simp only[Option.bind_some];rw[app_eq (by simp;omega)];simp only[Option.bind_some,F_63];rw[ew,imin_min,show w64 (w+wgt x)=w+wgt x by rw[w64,wrap64]<;>omega]
      obtain⟨lst',g1,g2,g3⟩:=ih (i+1) K (lst++ [(f1,f2,f3,f4,f5,(f6,f7,f8,f9),(f10,f11,f12,f13),(f14,f15,f16,f17))]) (min (w+wgt x) 1048576) Om Om (by simp[hl]) Om Om (fun j x' y hj hy=>by
       by_cases c:j<lst.length
       ·rw[List.getElem?_append_left c]at hy;exact hp j x' y hj hy
       have:=lt_len hy;simp at this;obtain rfl:j=i:=by omega
       rw[List.getElem?_append_right Om,hl,Nat.sub_self]at hy;simp only[List.getElem?_cons_zero,Option.some.injEq]at hy;rw[hx]at hj;obtain rfl:=oi hj;rw[←hy];exact ew)
      refine⟨lst',?_,g2,g3⟩;simp only[iterO,hs];rw[wgtL_drop hx];exact g1
   obtain⟨lst,g,hl,hp⟩:=key (kd t).length 0 M [] 1 Om Om rfl Om Om (fun j x y _ hy=>by simp at hy);rw[List.drop_zero]at g;have g:iterO M (fun s=>F_130 M (F_13 M) (kd t) s.1 s.2.1 s.2.2) (0,[],1)=some (lst,wgtL 0 0 0 1 (kd t)):=g;rw[g];simp only[bind,Option.bind_some];have hwne:kn t≠4→wgtL 0 0 0 1 (kd t)=wgt t:=fun hne=>by rw[wgt_un,wgtL_ne hne]
   generalize wgtL 0 0 0 1 (kd t)=W at hwne;rcases ok_kind h.node.2 with⟨k1,_⟩|k2|⟨k3,n3⟩|⟨k4,n4,a,b,c⟩|⟨k5,_⟩
   ·have e1:(t.un.1==1)=true:=by simpa using k1
    have hW:=hwne Om;rw[if_pos e1];unfold F_239 F_76;simp only[Option.bind_some];split<;>exact⟨_,rfl,hW⟩
   ·have e1: ¬(t.un.1==1)=true:=by show¬(kn t==1)=true;rw[k2];decide
    have e2:(t.un.1==2)=true:=by simpa using k2
    have hW:=hwne Om;rw[if_neg e1,if_pos e2];unfold F_166;simp only[Option.bind_some];obtain⟨⟨r1,r2,r3,r4,r5,r6,r7,r8,r9,r10,r11,r12,r13,r14,r15,r16⟩,er⟩:=l1_tot (M:=M) Om lst Om Om (false,true,0,0,0,0,0,0,0,0,0,0,0,0,0,0);rw[er];exact⟨_,rfl,hW⟩
   ·have e1: ¬(t.un.1==1)=true:=by show¬(kn t==1)=true;rw[k3];decide
    have e2: ¬(t.un.1==2)=true:=by show¬(kn t==2)=true;rw[k3];decide
    have e3:(t.un.1==3)=true:=by simpa using k3
    have hW:=hwne Om;rw[if_neg e1,if_neg e2,if_pos e3];have h0:0<lst.length:=by omega
    have i0:idx lst 0=some lst[0]:=idx_nat h0
    have s0:slc lst 1 (lst.length:Int)=some (lst.drop 1):=by
     unfold slc;rw[if_pos Om];simp
    rw[i0];simp only[Option.bind_some];rw[s0];simp only[Option.bind_some];obtain⟨⟨r1,r2,r3,r4,r5,r6,r7,r8,r9,r10,r11,r12,r13,r14,r15,r16,r17⟩,er⟩:=l2_tot (M:=M) Om (lst.drop 1) (by simp;omega) (by simp;omega) (lst[0].1,lst[0].2.1,lst[0].2.2.1,lst[0].2.2.2.1,lst[0].2.2.2.2.1,lst[0].2.2.2.2.2.1.1,lst[0].2.2.2.2.2.1.2.1,lst[0].2.2.2.2.2.1.2.2.1,lst[0].2.2.2.2.2.1.2.2.2,lst[0].2.2.2.2.2.2.1.1,lst[0].2.2.2.2.2.2.1.2.1,lst[0].2.2.2.2.2.2.1.2.2.1,lst[0].2.2.2.2.2.2.1.2.2.2,lst[0].2.2.2.2.2.2.2.1,lst[0].2.2.2.2.2.2.2.2.1,lst[0].2.2.2.2.2.2.2.2.2.1,lst[0].2.2.2.2.2.2.2.2.2.2);rw[er];exact⟨_,rfl,hW⟩
   ·have e1: ¬(t.un.1==1)=true:=by show¬(kn t==1)=true;rw[k4];decide
    have e2: ¬(t.un.1==2)=true:=by show¬(kn t==2)=true;rw[k4];decide
    have e3: ¬(t.un.1==3)=true:=by show¬(kn t==3)=true;rw[k4];decide
    have e4:(t.un.1==4)=true:=by simpa using k4
    rw[if_neg e1,if_neg e2,if_neg e3,if_pos e4];have h0:0<lst.length:=by omega
    have i0:idx lst 0=some lst[0]:=idx_nat h0
    obtain⟨x,hz⟩: ∃z,kd t= [z]:=by
     match hk:kd t,n4 with
     | [z],_=>exact⟨z,rfl⟩
    have hx:(kd t)[0]? =some x:=by rw[hz];rfl
    have hy:lst[0]? =some lst[0]:=List.getElem?_eq_getElem h0;have hwy:=hp 0 _ _ hx hy;have hkx:=hkw _ (List.mem_of_getElem? hx)
    have hwt:wgt t=min (1+adj (kn t) (lo t) (hi t) (wgt x)) 1048576:=by
     rw[wgt_un,hz];simp only[wgtL]
    rw[i0];simp only[Option.bind_some];obtain⟨⟨r1,r2,r3,r4,r5,r6,r7,r8,r9,r10,r11,r12,r13,r14,r15,r16,r17⟩,er⟩:=again_tot (N:=M) lst[0].1 lst[0].2.1 lst[0].2.2.1 lst[0].2.2.2.1 lst[0].2.2.2.2.1 lst[0].2.2.2.2.2.1.1 lst[0].2.2.2.2.2.1.2.1 lst[0].2.2.2.2.2.1.2.2.1 lst[0].2.2.2.2.2.1.2.2.2 lst[0].2.2.2.2.2.2.1.1 lst[0].2.2.2.2.2.2.1.2.1 lst[0].2.2.2.2.2.2.1.2.2.1 lst[0].2.2.2.2.2.2.1.2.2.2 lst[0].2.2.2.2.2.2.2.1 lst[0].2.2.2.2.2.2.2.2.1 lst[0].2.2.2.2.2.2.2.2.2.1 lst[0].2.2.2.2.2.2.2.2.2.2 t.un.2.2.2.1 t.un.2.2.2.2.1;rw[er];simp only[Option.bind_some];rw[hwy];unfold F_63
    have fin: ∀z:Int,0≤z→z≤1048576→imin (w64 (1+z)) 1048576=min (1+z) 1048576:=fun z h3 h4=>by
     rw[imin_min,show w64 (1+z)=1+z by rw[w64,wrap64]<;>omega]
    have ha:=adj_bd hbd hkx.1 hkx.2;by_cases h5:hi t= -1
    ·have e5:(t.un.2.2.2.2.1== -1)=true:=by simpa using h5
     have eq1:w64 (t.un.2.2.2.1+1)=lo t+1:=by
      show w64 (lo t+1)=_;rw[w64,wrap64]<;>omega
     rw[if_pos e5,eq1];simp only[Option.bind_some];rw[times_spec hkx.1 hkx.2 Om Om];have ea:adj (kn t) (lo t) (hi t) (wgt x)=min (wgt x*(lo t+1)) 1048576:=by unfold adj;rw[if_pos k4,if_pos h5]
     rw[ea]at ha hwt;refine⟨_,rfl,?_⟩;exact(fin _ ha.1 ha.2).trans hwt.symm
    have e5: ¬(t.un.2.2.2.2.1== -1)=true:=by simpa using h5
    rw[if_neg e5];simp only[Option.bind_some];rw[times_spec hkx.1 hkx.2 (show 0≤hi t by omega) (show hi t≤41 by omega)];have ea:adj (kn t) (lo t) (hi t) (wgt x)=min (wgt x*hi t) 1048576:=by unfold adj;rw[if_pos k4,if_neg h5]
    rw[ea]at ha hwt;refine⟨_,rfl,?_⟩;exact(fin _ ha.1 ha.2).trans hwt.symm
   have e1: ¬(t.un.1==1)=true:=by show¬(kn t==1)=true;rw[k5];decide
   have e2: ¬(t.un.1==2)=true:=by show¬(kn t==2)=true;rw[k5];decide
   have e3: ¬(t.un.1==3)=true:=by show¬(kn t==3)=true;rw[k5];decide
   have e4: ¬(t.un.1==4)=true:=by show¬(kn t==4)=true;rw[k5];decide
   have hW:=hwne Om;rw[if_neg e1,if_neg e2,if_neg e3,if_neg e4];exact⟨_,rfl,hW⟩
theorem weight_code{t:Nd}(hN:9300000000000000000≤N)(hc:cnt t<1000)(hq:NdQ t)(h:rtT t=true):
 F_105 N t.un.1 t.un.2.1.1 t.un.2.1.2.1 t.un.2.1.2.2.1 t.un.2.1.2.2.2 t.un.2.2.1 t.un.2.2.2.1 t.un.2.2.2.2.1 t.un.2.2.2.2.2=some (wgt t):=by
 unfold F_105 F_240;obtain⟨⟨r1,r2,r3,r4,r5,r6,r7,r8,r9,r10,r11,r12,r13,r14,r15,r16,r17⟩,e,ew⟩:=known_spec _ t rfl 1 N (RT.of h) Om Om;rw[right_code hN hc hq,h,e];simp only at ew;rw[←ew];rfl
def sumF:List Stt→Nat
 | []=>0
 |s::l=>s.1.length+sumF l
structure SO(n:Int)(s:Stt):Prop where
 to: -1≤s.2.2.1∧s.2.2.1<n
 set0:s.2.2.1= -1→s.2.1=(0,0,0,0)
 rul: -1≤s.2.2.2∧s.2.2.2≤47
 free: ∀x∈s.1,0≤x∧x<n
structure MI(S:List Stt):Prop where
 n:S.length≤4000
 s: ∀s∈S,SO S.length s
 f:sumF S≤1000000+4*S.length
def er(b:Bool):Int:=if b then 2 else 0
structure PS(c:Nat)(S:List Stt)(b:Bool)(S':List Stt)(b':Bool)(e:Int):Prop where
 s0:sumF S≤1000000+4*S.length
 mi:MI S'
 len:S.length≤S'.length
 g:sumF S'+4*S.length≤sumF S+4*S'.length
 ok:b'=false→b=false∧0≤e∧e<S'.length∧sumF S'+4*S.length+c≤sumF S+4*S'.length
theorem PS.trans{c d:Nat}{S S1 S2:List Stt}{b b1 b2:Bool}{e1 e2:Int}(h:PS c S b S1 b1 e1)(h2:PS d S1 b1 S2 b2 e2):PS (c+d) S b S2 b2 e2:=
 ⟨h.s0,h2.mi,by have:=h.len;have:=h2.len;omega,by have:=h.g;have:=h2.g;omega,fun hb=>by
  obtain⟨h3,h4,h5,h6⟩:=h2.ok hb;obtain⟨h7,_,_,h8⟩:=h.ok h3;exact⟨h7,h4,h5,by omega⟩⟩
theorem PS.at{c:Nat}{S S1:List Stt}{b b1:Bool}{e1 e2:Int}(h:PS c S b S1 b1 e1)(he:b1=false→0≤e2∧e2<S1.length):PS c S b S1 b1 e2:=
 ⟨h.s0,h.mi,h.len,h.g,fun hb=>by
  obtain⟨h3,h4,h5,h6⟩:=h.ok hb;exact⟨h3,(he hb).1,(he hb).2,h6⟩⟩
section
variable {N:Nat}{C Nm:List BA}{R:List Rl}
structure Mid(n i:Nat)(S:List Stt):Prop where
 n:n≤S.length
 m:S.length≤4000
 s: ∀s∈S,SO S.length s
 f:sumF S≤50*i+4*S.length
 p:0<i→1≤S.length
theorem Mid.mi{n i:Nat}{S:List Stt}(h:Mid n i S)(hi:i≤48):MI S:=⟨h.m,h.s,by have:=h.f;omega⟩
end
theorem ba_eq(a b:BA):(a.toList==b.toList)=decide (a=b):=by
 rw[ba_toList,ba_toList,Bool.eq_iff_iff,beq_iff_eq,decide_eq_true_eq];exact⟨ba_ext,fun h=>by rw[h]⟩
theorem ba_ne(a b:BA):(a.toList != b.toList)= !decide (a=b):=by
 show(!(a.toList==b.toList))=_;rw[ba_eq]
theorem ba_emp(a:BA):decide (a=ByteArray.empty)=decide (a.size=0):=by
 rw[←ba_eq,emp_sl]
def memB(l:List BA)(s:BA):Bool:=l.any fun x=>decide (x=s)
theorem memB_iff{l:List BA}{s:BA}:memB l s=true↔s∈l:=by
 unfold memB;rw[List.any_eq_true];constructor
 ·rintro⟨x,hx,he⟩;simp at he;exact he▸hx
 intro h;exact⟨s,h,by simp⟩
theorem memB_f{l:List BA}{s:BA}:memB l s=false↔s∉l:=by
 rw[←memB_iff];simp
def plc(l:List BA)(s:BA):Int:=
 match l.findIdx? (fun x=>decide (x=s))with
 |some i=>(i:Int)
 |none=> -1
theorem plc_some{l:List BA}{s:BA}(h:s∈l): ∃i:Nat,plc l s=(i:Int)∧l[i]? =some s∧ ∀j,j<i→l[j]? ≠some s:=by
 unfold plc
 cases hf:l.findIdx? (fun x=>decide (x=s))with
 |none=>
   have:=List.findIdx?_eq_none_iff.1 hf s h;simp at this
 |some i=>
   obtain⟨hi,hp,hl⟩:=List.findIdx?_eq_some_iff_getElem.1 hf;refine⟨i,rfl,?_,fun j hj he=>?_⟩
   ·rw[List.getElem?_eq_getElem hi];simp at hp;rw[hp]
   have:=hl j hj;rw[List.getElem?_eq_getElem Om]at he;simp at this;exact this (oi he)
theorem plc_none{l:List BA}{s:BA}(h:s∉l):plc l s= -1:=by
 unfold plc
 have:l.findIdx? (fun x=>decide (x=s))=none:=List.findIdx?_eq_none_iff.2 fun x hx=>by
  simp;intro e;exact h (e▸hx)
 rw[this]
theorem plc_ge(l:List BA)(s:BA):decide (plc l s≥0)=memB l s:=by
 by_cases h:s∈l
 ·obtain⟨i,e,_⟩:=plc_some h;rw[e,memB_iff.2 h];simp
 rw[plc_none h,memB_f.2 h];simp
theorem plc_lt(l:List BA)(s:BA):decide (plc l s<0)= !memB l s:=by
 by_cases h:s∈l
 ·obtain⟨i,e,_⟩:=plc_some h;rw[e,memB_iff.2 h];simp
 rw[plc_none h,memB_f.2 h];simp
section
variable {N:Nat}{l:List BA}
theorem index_spec(hN:9300000000000000000≤N)(hl:l.length≤1000000)(s:BA):F_23 N l s=some (plc l s):=by
 unfold F_23 plc
 rw[loop_find l (fun x=>decide (x=s)) (fun i=>(i:Int)) Om (fun i x hx=>by
  have hi:=lt_len hx;unfold F_77;rw[if_pos (by simpa using hi),idx_of hx];simp only[bind,Option.bind_some,ba_eq];rw[w64_succ Om];by_cases h:x=s
  ·simp[h]
  have: ¬s=x:=fun e=>h e.symm;simp[h,this]) (by unfold F_77;simp)]
 cases l.findIdx? (fun x=>decide (x=s))<;>rfl
theorem contains_spec(hN:9300000000000000000≤N)(hl:l.length≤1000000)(s:BA):F_45 N l s=some (memB l s):=by
 unfold F_45;rw[index_spec hN hl];simp only[bind,Option.bind_some];rw[plc_ge]
def badU(l:List BA)(i:Nat):Bool:=match l[i]? with
 |some x=> !nmB (sl x)||memB (l.take i) x
 |none=>false
def ulB(l:List BA):Bool:= !(List.range l.length).any (badU l)
theorem slc_take{α:Type}{l:List α}{i:Nat}(h:i≤l.length):slc l 0 (i:Int)=some (l.take i):=by
 unfold slc;rw[if_pos Om];simp
theorem unlike_code(hN:9300000000000000000≤N)(hl:l.length≤1000000)(hs: ∀s∈l,s.size≤maxLen):F_62 N l=some (ulB l):=by
 unfold F_62 ulB
 rw[loop_any (List.range l.length) (badU l) false (by simp;omega) (fun i x hx=>by
  obtain⟨hi,rfl⟩:=range_get hx;have hx:l[x]? =some l[x]:=List.getElem?_eq_getElem hi;unfold badU;rw[hx];generalize l[x]=s at hx;unfold F_237;rw[if_pos (by simpa using hi),idx_of hx];simp only[bind,Option.bind_some];rw[nm_code hN (hs s (List.mem_of_getElem? hx)),slc_take Om];simp only[Option.bind_some];rw[contains_spec hN (by simp;omega),w64_succ Om];by_cases h1:nmB (sl s)=true<;>by_cases h2:memB (l.take x) s=true<;>simp[h1,h2]) (by unfold F_237;simp)]
 cases(List.range l.length).any (badU l)<;>rfl
theorem ulB_mem(h:ulB l=true): ∀s∈l,nmB (sl s)=true:=fun s hs=>by
 obtain⟨i,hi,rfl⟩:=List.getElem_of_mem hs;unfold ulB at h;rw[Bool.not_eq_true',List.any_eq_false]at h;have:=h i (by simpa using hi);unfold badU at this;rw[List.getElem?_eq_getElem hi]at this;simp at this;exact this.1
theorem ulB_nd(h:ulB l=true):l.Nodup:=by
 rw[List.nodup_iff_pairwise_ne,List.pairwise_iff_getElem];intro i j hi hj hij he;unfold ulB at h;rw[Bool.not_eq_true',List.any_eq_false]at h;have:=h j (by simpa using hj);unfold badU at this;rw[List.getElem?_eq_getElem hj]at this;simp at this;have h3:=memB_f.1 this.2;refine h3 ?_;rw[←he];exact List.mem_of_getElem? (i:=i) (by rw[List.getElem?_take_of_lt hij];exact List.getElem?_eq_getElem hi)
end
abbrev Lt:=BA×Nd×Int
abbrev On:=List BA×Nd×(BA×BA)×Int
structure LOk(x:Lt):Prop where
 t:cnt x.2.1<700
 n:x.1.size≤50
structure OOk(x:On):Prop where
 t:cnt x.2.1<700
 c:x.1.length≤500
 s: ∀s∈x.1,s.size≤500
 e:x.2.2.1.1.size≤50
 b:x.2.2.1.2.size≤50
structure Fsz(C:List BA)(Ls:List Lt)(Os:List On):Prop where
 c:C.length≤20
 s: ∀s∈C,s.size≤500
 l:Ls.length≤40
 o:Os.length≤60
 lt: ∀x∈Ls,LOk x
 ot: ∀x∈Os,OOk x
mutual
def lone:Nd→Bool
 | .mk k _ l _ _ _=>(k==2&&l.length==1)||loneL l
def loneL:List Nd→Bool
 | []=>false
 |x::l=>lone x||loneL l
end
theorem lone_un(t:Nd):lone t=((t.un.1==2&&(kd t).length==1)||loneL (kd t)):=by
 cases t;simp only[lone];rfl
theorem loneL_any: ∀l:List Nd,loneL l=l.any lone
 | []=>by simp only[loneL,List.any_nil]
 |x::l=>by simp only[loneL,List.any_cons];rw[loneL_any l]
theorem lone_code: ∀(c:Nat) (t:Nd),cnt t=c→ ∀N,cnt t+5≤N→cnt t<100000→
 F_42 N t.un.1 t.un.2.1.1 t.un.2.1.2.1 t.un.2.1.2.2.1 t.un.2.1.2.2.2 t.un.2.2.1 t.un.2.2.2.1 t.un.2.2.2.2.1 t.un.2.2.2.2.2=some (lone t):=by
 intro c
 induction c using Nat.strongRecOn with
 |ind c IH=>
   intro t hc N hN hb;obtain⟨M,rfl⟩: ∃m,N=m+1:=⟨N-1,by omega⟩;have hcu:=cnt_un t;have hll:=cntL_len (kd t);rw[F_42,lone_un,show((t.un.2.2.1.length:Int)==1)=((kd t).length==1)from beq_nat _ 1]
   have e:=loop_any (f:=fun s=>F_187 M (F_42 M) (kd t) s) (kd t) lone true (N:=M) Om (fun i x hx=>by
    have hi:=lt_len hx;have hm:=cnt_kid (List.mem_of_getElem? hx);unfold F_187;rw[if_pos (by simpa using hi),idx_of hx];simp only[bind,Option.bind_some];rw[IH (cnt x) Om x rfl M Om Om,w64_succ Om];rfl) (by unfold F_187;simp)
   rw[e,loneL_any];generalize(kd t).any lone=q;generalize((kd t).length==1)=p;generalize(t.un.1==2)=k;cases k<;>cases p<;>cases q<;>rfl
theorem plain_code{t:Nd}(hN:9300000000000000000≤N)(hc:cnt t<1000)(hq:NdQ t):
 F_152 N t.un.1 t.un.2.1.1 t.un.2.1.2.1 t.un.2.1.2.2.1 t.un.2.1.2.2.2 t.un.2.2.1 t.un.2.2.2.1 t.un.2.2.2.2.1 t.un.2.2.2.2.2=some (rtT t&& !lone t):=by
 unfold F_152;rw[right_code hN hc hq,lone_code _ t rfl N Om Om];cases rtT t<;>cases lone t<;>rfl
mutual
theorem wk_cnt: ∀(lv:Nat) (t:Nd),RT lv t→(wk lv t).length=cnt t
 |lv,.mk k s l a b t,h=>by
   have h24:=h.node.1;have hk: ∀x∈l,RT (lv+1) x:=fun x hx=>h.kid (t:= .mk k s l a b t) hx;simp only[wk,cnt];rw[if_neg Om,List.length_cons,wkL_cnt (lv+1) l hk];omega
theorem wkL_cnt: ∀(lv:Nat) (l:List Nd),(∀x∈l,RT lv x)→(wkL lv l).length=cntL l
 |_,[],_=>by simp only[wkL,cntL,List.length_nil]
 |lv,x::l,h=>by
   simp only[wkL,cntL,List.length_append];rw[wk_cnt lv x (h x (List.mem_cons_self ..)),wkL_cnt lv l fun y hy=>h y (List.mem_cons_of_mem _ hy)]
end
theorem rtT_of{t:Nd}(h:RT 1 t)(hc:cnt t≤600):rtT t=true:=by
 unfold rtT;rw[wk_cnt 1 t h,List.all_eq_true.2 h];simpa using hc
section
variable {N:Nat}
def mayB(s:BA):Bool:=decide (s.size=0)||nmB (sl s)
theorem act_code(hN:9300000000000000000≤N){a b:BA}(ha:a.size≤maxLen)(hb:b.size≤maxLen):F_174 N a b=some (mayB a&&mayB b):=by
 have m: ∀{s:BA},s.size≤maxLen→F_135 N s=some (mayB s):=fun{s} hs=>by
  unfold F_135 mayB;rw[emp_sl,nm_code hN hs];by_cases h:s.size=0
  ·simp[h]
  simp[h]
 unfold F_174;rw[m ha,m hb];cases mayB a<;>cases mayB b<;>rfl
def badO(x:On):Bool:=decide (x.1.length=0)||(!ulB x.1||(!(rtT x.2.1&& !lone x.2.1)|| !(mayB x.2.2.1.1&&mayB x.2.2.1.2)))
def rfB(C:List BA)(Ls:List Lt)(Os:List On):Bool:=
 Ls.all (fun x=>rtT x.2.1&& !lone x.2.1)&&(Os.all (fun x=> !badO x)&&
  (decide (1≤C.length)&&(decide (C.length≤8)&&(decide (Ls.length≤32)&&(decide (Os.length≤48)&&
   (decide (C[0]? =some ⟨#[109,97,105,110]⟩)&&(ulB C&&ulB (Ls.map (·.1)))))))))
structure LQ(x:Lt):Prop where
 c:cnt x.2.1<700
 q:NdQ x.2.1
 n:x.1.size≤50
structure OQ(x:On):Prop where
 o:OOk x
 q:NdQ x.2.1
theorem cap_big:500≤maxLen:=by decide
theorem ons_code(hN:9300000000000000000≤N){Os:List On}(ho:Os.length≤60)(hq: ∀x∈Os,OQ x):
 iterO N (fun s=>F_215 N Os s) 0=some (if Os.any badO then .inr false else .inl ()):=by
 rw[loop_any Os badO false Om (fun i x hx=>by
  have hi:=lt_len hx;have h:=hq x (List.mem_of_getElem? hx);have hc:=cap_big;unfold F_215;rw[if_pos (by simpa using hi),idx_of hx];simp only[bind,Option.bind_some];rw[unlike_code hN (by have:=h.o.c;omega) (fun s hs=>by have:=h.o.s s hs;omega),plain_code hN (by have:=h.o.t;omega) h.q,act_code hN (by have:=h.o.e;omega) (by have:=h.o.b;omega),w64_succ Om];have e:((x.1.length:Int)==0)=decide (x.1.length=0):=decide_eq_decide.2 Om;rw[e];unfold badO;cases decide (x.1.length=0)<;>cases ulB x.1<;>cases(rtT x.2.1&& !lone x.2.1)<;>cases(mayB x.2.2.1.1&&mayB x.2.2.1.2)<;>rfl) (by unfold F_215;simp)]
theorem lets_code(hN:9300000000000000000≤N){Ls:List Lt}(hl:Ls.length≤40)(hq: ∀x∈Ls,LQ x): ∀(r i K:Nat) (acc:List BA),i+r=Ls.length→r<K→acc.length=i→
 iterO K (fun s=>F_123 N Ls s.1 s.2) ((i:Int),acc)=some (if(Ls.drop i).all (fun x=>rtT x.2.1&& !lone x.2.1)then .inl (acc++(Ls.drop i).map (·.1))else .inr false):=by
 intro r
 induction r with
 |zero=>
   intro i K acc hi hK ha;obtain⟨K,rfl⟩: ∃m,K=m+1:=⟨K-1,by omega⟩;rw[List.drop_eq_nil_of_le Om];simp only[iterO,F_123];rw[if_neg (by simp;omega)];simp
 |succ r ih=>
   intro i K acc hi hK ha;obtain⟨K,rfl⟩: ∃m,K=m+1:=⟨K-1,by omega⟩;have hlt:i<Ls.length:=by omega
   have hx:Ls[i]? =some Ls[i]:=List.getElem?_eq_getElem hlt;rw[List.drop_eq_getElem_cons hlt];generalize Ls[i]=x at hx;have h:=hq x (List.mem_of_getElem? hx)
   have hs:F_123 N Ls (i:Int) acc=some (if(rtT x.2.1&& !lone x.2.1)=true then .inl (((i+1:Nat):Int),acc++ [x.1])else .inr (.inr false)):=by
    unfold F_123;rw[if_pos (by simpa using hlt),idx_of hx];simp only[bind,Option.bind_some];rw[plain_code hN (by have:=h.c;omega) h.q,w64_succ Om,app_eq (by simp;omega)];cases(rtT x.2.1&& !lone x.2.1)<;>rfl
   simp only[iterO,hs,List.all_cons,List.map_cons]
   cases hc:(rtT x.2.1&& !lone x.2.1)with
   |false=>simp
   |true=>
     simp only[if_true,Bool.true_and];rw[ih (i+1) K (acc++ [x.1]) Om Om (by simp[ha])];simp
theorem not_any{α:Type}{p:α→Bool}: ∀l:List α,(l.all fun x=> !p x)= !l.any p
 | []=>rfl
 |x::l=>by simp only[List.all_cons,List.any_cons,not_any l,Bool.not_or]
theorem first_main{C:List BA}{x:BA}(h:C[0]? =some x):(x.toList==(⟨#[109,97,105,110]⟩:BA).toList)=decide (C[0]? =some ⟨#[109,97,105,110]⟩):=by
 rw[ba_eq,h];simp
theorem nat_ge(n:Nat):decide ((n:Int)≥1)=decide (1≤n):=decide_eq_decide.2 Om
theorem nat_8(n:Nat):decide ((n:Int)≤8)=decide (n≤8):=decide_eq_decide.2 Om
theorem nat_32(n:Nat):decide ((n:Int)≤32)=decide (n≤32):=decide_eq_decide.2 Om
theorem nat_48(n:Nat):decide ((n:Int)≤48)=decide (n≤48):=decide_eq_decide.2 Om
theorem rf_code{C:List BA}{Ls:List Lt}{Os:List On}(hN:9300000000000000000≤N)(hl:Ls.length≤40)(ho:Os.length≤60)(hC:C.length≤20)(hs: ∀s∈C,s.size≤500)
 (hq: ∀x∈Ls,LQ x) (hp: ∀x∈Os,OQ x):F_34 N C Ls Os=some (rfB C Ls Os):=by
 have hc:=cap_big;unfold F_34 rfB;have g:=lets_code hN hl hq Ls.length 0 N [] Om Om rfl;rw[List.drop_zero,List.nil_append]at g;rw[show iterO N (fun s=>F_123 N Ls s.1 s.2) (0,[])=_ from g,ons_code hN ho hp,not_any Os]
 cases Ls.all fun x=>rtT x.2.1&& !lone x.2.1 with
 |false=>rfl
 |true=>
   simp only[bind,Option.bind_some,if_true,Bool.true_and]
   cases Os.any badO with
   |true=>rfl
   |false=>
     simp only[Bool.false_eq_true,if_false,Bool.not_false,Bool.true_and,List.length_map];rw[nat_ge,nat_8,nat_32,nat_48];by_cases h1:1≤C.length
     case neg=>simp[h1]
     obtain⟨x,hx⟩: ∃x,C[0]? =some x:=⟨C[0],List.getElem?_eq_getElem Om⟩
     rw[show idx C 0=some x from idx_of (i:=0) hx,unlike_code hN Om (fun s h=>by have:=hs s h;omega),
      unlike_code hN (by simp;omega) (fun s h=>by obtain⟨y,hy,rfl⟩:=List.mem_map.1 h;have:=(hq y hy).n;omega)]
     simp only[Option.bind_some,first_main hx];cases decide (1≤C.length)<;>cases decide (C.length≤8)<;>cases decide (Ls.length≤32)<;>cases decide (Os.length≤48)<;>cases decide (C[0]? =some ⟨#[109,97,105,110]⟩)<;>cases ulB C<;>rfl
end
abbrev tx(t:Nd):BA:=t.un.2.2.2.2.2
def wkd(t:Nd)(l:List Nd):Nd:=Nd.of (t.un.1,(t.un.2.1.1,t.un.2.1.2.1,t.un.2.1.2.2.1,t.un.2.1.2.2.2),l,t.un.2.2.2.1,t.un.2.2.2.2.1,t.un.2.2.2.2.2)
mutual
def okA:Nd→Bool
 | .mk k s l a b t=>okT (.mk k s l a b t)&&okAL l
def okAL:List Nd→Bool
 | []=>true
 |x::l=>okA x&&okAL l
end
theorem okA_un(t:Nd):okA t=(okT t&&okAL (kd t)):=by
 cases t;simp only[okA];rfl
theorem okAL_mem{x:Nd}: ∀{l:List Nd},okAL l=true→x∈l→okA x=true
 |y::l,h,hx=>by
   simp only[okAL,Bool.and_eq_true]at h;rcases List.mem_cons.1 hx with rfl|hx
   ·exact h.1
   exact okAL_mem h.2 hx
mutual
theorem okA_of: ∀(lv:Nat) (t:Nd),RT lv t→okA t=true
 |lv,.mk k s l a b t,h=>by
   have hk: ∀x∈l,RT (lv+1) x:=fun x hx=>h.kid (t:= .mk k s l a b t) hx;simp only[okA,Bool.and_eq_true];exact⟨h.node.2,okAL_of (lv+1) l hk⟩
theorem okAL_of: ∀(lv:Nat) (l:List Nd),(∀x∈l,RT lv x)→okAL l=true
 |_,[],_=>by simp only[okAL]
 |lv,x::l,h=>by
   simp only[okAL,Bool.and_eq_true];exact⟨okA_of lv x (h x (List.mem_cons_self ..)),okAL_of lv l fun y hy=>h y (List.mem_cons_of_mem _ hy)⟩
end
theorem wkL_mem'{lv:Nat}{y:Nd×Int}: ∀{l:List Nd},y∈wkL lv l→ ∃x∈l,y∈wk lv x
 | [],h=>by simp[wkL]at h
 |z::l,h=>by
   simp only[wkL]at h;rcases List.mem_append.1 h with h|h
   ·exact⟨z,List.mem_cons_self ..,h⟩
   obtain⟨x,hx,h⟩:=wkL_mem' h;exact⟨x,List.mem_cons_of_mem _ hx,h⟩
theorem RT.mk{lv:Nat}{t:Nd}(h1:lv≤24)(h2:okT t=true)(h3: ∀x∈kd t,RT (lv+1) x):RT lv t:=fun y hy=>by
 rw[wk_un,if_neg Om]at hy;rcases List.mem_cons.1 hy with rfl|hy
 ·unfold okX;rw[h2];simp;omega
 obtain⟨x,hx,hy⟩:=wkL_mem' hy;exact h3 x hx y hy
inductive SE where
 |none
 |loop
 |deep
 |lim
def SE.code:SE→Int
 | .none=>15
 | .loop=>9
 | .deep=>8
 | .lim=>2
theorem SE.ok(e:SE):eOk errIds e.code=true:=by cases e<;>decide
abbrev Bk:=List (BA×Nd)
def fnd(B:Bk)(s:BA):Option Nd:=(B.find? fun e=>decide (e.1=s)).map (·.2)
theorem babeq(a b:BA):(a==b)=true↔a=b:=by
 obtain⟨a⟩:=a;obtain⟨b⟩:=b;show ByteArray.beq ⟨a⟩ ⟨b⟩=true↔_;unfold ByteArray.beq;simp
theorem mget_fnd(B:Bk)(s:BA):mget B s=fnd B s:=by
 unfold mget fnd
 congr 2
 funext e;rw[Bool.eq_iff_iff,babeq];simp
def sprL(f:Nd→Nat→SE ⊕ (Nd×Nat)):List Nd→Nat→SE ⊕ (List Nd×Nat)
 | [],m=> .inr ([],m)
 |x::l,m=>match f x m with
   | .inl e=> .inl e
   | .inr (y,m')=>match sprL f l m' with
     | .inl e=> .inl e
     | .inr (ys,m'')=> .inr (y::ys,m'')
def spr(B:Bk):Nat→Nd→Nat→Nat→List BA→SE ⊕ (Nd×Nat)
 |0,_,_,_,_=> .inl .deep
 |k+1,t,lv,m,p=>
   if(t.un.1==5)=true then
    match fnd B (tx t)with
    |none=> .inl .none
    |some u=>if memB p (tx t)=true then .inl .loop else spr B k u lv m (p++ [tx t])
   else if 24<lv then .inl .deep else if 600≤m then .inl .lim else
    match sprL (fun x m=>spr B k x (lv+1) m p) (kd t) (m+1)with
    | .inl e=> .inl e
    | .inr (ks,m')=> .inr (wkd t ks,m')
theorem fnd_mem{B:Bk}{s:BA}{u:Nd}(h:fnd B s=some u):(s,u)∈B:=by
 unfold fnd at h
 cases hf:B.find? fun e=>decide (e.1=s)with
 |none=>rw[hf]at h;cases h
 |some e=>
   rw[hf]at h;have h1:=List.find?_some hf;have h2:=List.mem_of_find?_eq_some hf;simp at h h1;subst h h1;exact h2
theorem ndQ_wkd{t:Nd}{l:List Nd}(h:NdQ t)(hl: ∀x∈l,NdQ x):NdQ (wkd t l):=NdQ.of h.text hl
theorem wkd_okT{t:Nd}{l:List Nd}(h:l.length=(kd t).length):okT (wkd t l)=okT t:=by
 cases t;unfold okT;show okB _ _ l.length _ _ _ _=_;rw[h];rfl
structure GT(t:Nd):Prop where
 o:okA t=true
 q:NdQ t
 c:cnt t<700
theorem GT.kid{t x:Nd}(h:GT t)(hx:x∈kd t):GT x:=⟨by
 have:=h.o;rw[okA_un,Bool.and_eq_true]at this;exact okAL_mem this.2 hx,h.q.kid hx,by have:=cnt_kid hx;have:=h.c;omega⟩
theorem GT.ok{t:Nd}(h:GT t):okT t=true:=by
 have:=h.o;rw[okA_un,Bool.and_eq_true]at this;exact this.1
structure Made(lv m:Nat)(u:Nd)(m':Nat):Prop where
 m:m'=m+cnt u
 le:m'≤600
 r:RT lv u
 q:NdQ u
 k:(u.un.1==5)=false
theorem sprL_spec{f:Nd→Nat→SE ⊕ (Nd×Nat)}{lv:Nat}: ∀(l:List Nd) (m:Nat) (us:List Nd) (m':Nat),(∀x∈l,∀m u m',f x m= .inr (u,m')→m≤600→Made lv m u m')→m≤600→
 sprL f l m= .inr (us,m')→m'=m+cntL us∧m'≤600∧us.length=l.length∧(∀u∈us,RT lv u)∧ ∀u∈us,NdQ u
 | [],m,us,m',_,hm,h=>by
   simp only[sprL,Sum.inr.injEq,Prod.mk.injEq]at h;obtain⟨rfl,rfl⟩:=h;simp only[cntL];exact⟨rfl,hm,trivial,by simp,by simp⟩
 |x::l,m,us,m',hf,hm,h=>by
   simp only[sprL]at h
   cases h1:f x m with
   |inl e=>rw[h1]at h;cases h
   |inr p=>
     obtain⟨y,m1⟩:=p;rw[h1]at h;simp only at h;have M:=hf x (List.mem_cons_self ..) m y m1 h1 hm
     cases h2:sprL f l m1 with
     |inl e=>rw[h2]at h;cases h
     |inr p=>
       obtain⟨ys,m2⟩:=p;rw[h2]at h;simp only[Sum.inr.injEq,Prod.mk.injEq]at h;obtain⟨rfl,rfl⟩:=h;obtain⟨a,b,c,d,e⟩:=sprL_spec l m1 ys m2 (fun z hz=>hf z (List.mem_cons_of_mem _ hz)) M.le h2;have:=M.m;simp only[cntL,List.length_cons];refine⟨by omega,b,by omega,fun u hu=>?_,fun u hu=>?_⟩
       ·rcases List.mem_cons.1 hu with rfl|hu
        ·exact M.r
        exact d u hu
       rcases List.mem_cons.1 hu with rfl|hu
       ·exact M.q
       exact e u hu
theorem spr_made{B:Bk}(hB: ∀e∈B,GT e.2): ∀(k:Nat) (t:Nd) (lv m:Nat) (p:List BA) (u:Nd) (m':Nat),GT t→m≤600→spr B k t lv m p= .inr (u,m')→Made lv m u m'
 |0,t,lv,m,p,u,m',_,_,h=>by simp[spr]at h
 |k+1,t,lv,m,p,u,m',ht,hm,h=>by
   simp only[spr]at h;split at h
   ·rename_i h5
    cases hf:fnd B (tx t)with
    |none=>rw[hf]at h;cases h
    |some v=>
      rw[hf]at h;simp only at h;split at h
      ·cases h
      exact spr_made hB k v lv m _ u m' (hB _ (fnd_mem hf)) hm h
   rename_i h5;split at h
   ·cases h
   rename_i h24;split at h
   ·cases h
   rename_i h600
   cases hl:sprL (fun x m=>spr B k x (lv+1) m p) (kd t) (m+1)with
   |inl e=>rw[hl]at h;cases h
   |inr q=>
     obtain⟨ks,m1⟩:=q;rw[hl]at h;simp only[Sum.inr.injEq,Prod.mk.injEq]at h;obtain⟨rfl,rfl⟩:=h;obtain⟨a,b,c,d,e⟩:=sprL_spec (lv:=lv+1) (kd t) (m+1) ks m1 (fun x hx m u m' h hm=>spr_made hB k x (lv+1) m p u m' (ht.kid hx) hm h) Om hl;have hc:cnt (wkd t ks)=1+cntL ks:=cnt_un (wkd t ks);exact⟨by omega,b,RT.mk Om (by rw[wkd_okT c];exact ht.ok) d,ndQ_wkd ht.q e,show(t.un.1==5)=false from Bool.eq_false_iff.2 h5⟩
theorem nodup_le: ∀{l m:List BA},l.Nodup→(∀x∈l,x∈m)→l.length≤m.length
 | [],_,_,_=>Nat.zero_le _
 |x::l,m,hn,hs=>by
   obtain⟨a,b,rfl⟩:=List.append_of_mem (hs x (List.mem_cons_self ..));rw[List.nodup_cons]at hn
   have:=nodup_le (l:=l) (m:=a++b) hn.2 fun y hy=>by
    have h1:=hs y (List.mem_cons_of_mem _ hy);rcases List.mem_append.1 h1 with h|h
    ·exact List.mem_append.2 (.inl h)
    rcases List.mem_cons.1 h with rfl|h
    ·exact absurd hy hn.1
    exact List.mem_append.2 (.inr h)
   simp only[List.length_append,List.length_cons]at this ⊢;omega
structure PI(B:Bk)(p:List BA):Prop where
 nd:p.Nodup
 mem: ∀x∈p,x∈B.map (·.1)
theorem PI.le{B:Bk}{p:List BA}(h:PI B p)(hB:B.length≤32):p.length≤32:=by
 have:=nodup_le h.nd h.mem;simp at this;omega
theorem PI.add{B:Bk}{p:List BA}(h:PI B p){s:BA}{u:Nd}(hs:fnd B s=some u)(hp:memB p s=false):PI B (p++ [s]):=by
 have hn:=memB_f.1 hp;refine⟨List.nodup_append.2 ⟨h.nd,by simp,fun a ha b hb=>?_⟩,fun x hx=>?_⟩
 ·obtain rfl:=List.mem_singleton.1 hb;exact fun e=>hn (e▸ha)
 rcases List.mem_append.1 hx with hx|hx
 ·exact h.mem x hx
 obtain rfl:=List.mem_singleton.1 hx;exact List.mem_map.2 ⟨_,fnd_mem hs,rfl⟩
structure BOk(B:Bk):Prop where
 l:B.length≤32
 g: ∀e∈B,GT e.2
section
variable {B:Bk}{nm:List BA}{N:Nat}
theorem contains_small(hl:nm.length≤1000000)(hN:nm.length<N)(s:BA):F_45 N nm s=some (memB nm s):=by
 unfold F_45 F_23
 rw[loop_find nm (fun x=>decide (x=s)) (fun i=>(i:Int)) hN (fun i x hx=>by
  have hi:=lt_len hx;unfold F_77;rw[if_pos (by simpa using hi),idx_of hx];simp only[bind,Option.bind_some,ba_eq];rw[w64_succ Om];by_cases h:x=s
  ·simp[h]
  have: ¬s=x:=fun e=>h e.symm;simp[h,this]) (by unfold F_77;simp)]
 rw[←plc_ge];unfold plc;cases nm.findIdx? (fun x=>decide (x=s))<;>rfl
def SpC(N:Nat)(B:Bk)(nm:List BA)(t:Nd)(lv m:Nat)(p:List BA):SE ⊕ (Nd×Nat)→Prop
 | .inr (u,m')=>F_7 N nm B m p 0 t.un.1 t.un.2.1.1 t.un.2.1.2.1 t.un.2.1.2.2.1 t.un.2.1.2.2.2 t.un.2.2.1 t.un.2.2.2.1 t.un.2.2.2.2.1 t.un.2.2.2.2.2 lv=
  some (nm,B,(m':Int),p,0,u.un.1,u.un.2.1.1,u.un.2.1.2.1,u.un.2.1.2.2.1,u.un.2.1.2.2.2,u.un.2.2.1,u.un.2.2.2.1,u.un.2.2.2.2.1,u.un.2.2.2.2.2)
 | .inl e=> ∃(m':Int) (u:Nd),F_7 N nm B m p 0 t.un.1 t.un.2.1.1 t.un.2.1.2.1 t.un.2.1.2.2.1 t.un.2.1.2.2.2 t.un.2.2.1 t.un.2.2.2.1 t.un.2.2.2.2.1 t.un.2.2.2.2.2 lv=
  some (nm,B,m',p,e.code,u.un.1,u.un.2.1.1,u.un.2.1.2.1,u.un.2.1.2.2.1,u.un.2.1.2.2.2,u.un.2.2.1,u.un.2.2.2.1,u.un.2.2.2.2.1,u.un.2.2.2.2.2)
theorem spread_err{M:Nat}{c:Int}(hc:eOk errIds c=true)(m:Int)(p:List BA)(t:Nd)(lv:Int):
 F_7 (M+1) nm B m p c t.un.1 t.un.2.1.1 t.un.2.1.2.1 t.un.2.1.2.2.1 t.un.2.1.2.2.2 t.un.2.2.1 t.un.2.2.2.1 t.un.2.2.2.2.1 t.un.2.2.2.2.2 lv=some (nm,B,m,p,c,0,0,0,0,0,[],0,0,ByteArray.empty):=by
 rw[F_7,if_pos hc]
theorem loop_err{M:Nat}{c:Int}(hc:eOk errIds c=true)(lv:Int)(p:List BA)(m:Int)(l:List Nd)(hl:l.length<1000000): ∀(r i K:Nat) (zs:List Nd),i+r=l.length→r<K→zs.length=l.length→
 ∃zs',iterO K (fun s=>F_41 (M+1) (F_7 (M+1)) lv l s.1 s.2.1 s.2.2.1 s.2.2.2.1 s.2.2.2.2.1 s.2.2.2.2.2.1 s.2.2.2.2.2.2) (nm,B,m,p,c,zs,(i:Int))=some (nm,B,m,p,c,zs'):=by
 intro r
 induction r with
 |zero=>
   intro i K zs hi hK hz;obtain⟨K,rfl⟩: ∃m,K=m+1:=⟨K-1,by omega⟩;simp only[iterO,F_41];rw[if_neg (by simp;omega)];exact⟨zs,rfl⟩
 |succ r ih=>
   intro i K zs hi hK hz;obtain⟨K,rfl⟩: ∃m,K=m+1:=⟨K-1,by omega⟩;have hlt:i<zs.length:=by omega
   have hx:zs[i]? =some zs[i]:=List.getElem?_eq_getElem hlt;generalize zs[i]=x at hx;obtain⟨zs',h⟩:=ih (i+1) K (zs.set i (Nd.of (0,(0,0,0,0),[],0,0,ByteArray.empty))) Om Om (by simpa using hz);refine⟨zs',?_⟩;rw[←h]
   have hs:F_41 (M+1) (F_7 (M+1)) lv l nm B m p c zs (i:Int)=some (.inl (nm,B,m,p,c,zs.set i (Nd.of (0,(0,0,0,0),[],0,0,ByteArray.empty)),((i+1:Nat):Int))):=by
    unfold F_41;rw[if_pos (by simp;omega),idx_of hx];simp only[bind,Option.bind_some];rw[spread_err hc];simp only[Option.bind_some];rw[show setI zs (i:Int) (Nd.of (0,(0,0,0,0),[],0,0,ByteArray.empty))=some (zs.set i (Nd.of (0,(0,0,0,0),[],0,0,ByteArray.empty))) by simp[setI,hlt]];simp only[Option.bind_some];rw[w64_succ Om]
   simp only[iterO,hs]
theorem spread_code(hB:BOk B): ∀(k:Nat) (t:Nd) (lv m M:Nat) (p:List BA),GT t→PI B p→m≤600→lv≤25→(26-lv)+(33-p.length)≤k→100000+k≤M→
 SpC M B nm t lv m p (spr B k t lv m p):=by
 intro k
 induction k with
 |zero=>intro t lv m M p _ hp _ hlv hk;have:=hp.le hB.l;omega
 |succ k IH=>
   intro t lv m M p ht hp hm hlv hk hM;obtain⟨M,rfl⟩: ∃n,M=n+1:=⟨M-1,by omega⟩;have hpl:=hp.le hB.l;have hcu:=cnt_un t;have hll:=cntL_len (kd t);have htc:=ht.c;rw[spr];by_cases h5:(t.un.1==5)=true
   ·rw[if_pos h5]
    cases hf:fnd B (tx t)with
    |none=>
      refine⟨m,Nd.of (0,(0,0,0,0),[],0,0,ByteArray.empty),?_⟩;rw[F_7,if_neg (by decide),if_pos h5];unfold F_151;rw[show mget B t.un.2.2.2.2.2=none from(mget_fnd ..).trans hf];rfl
    |some u=>
      simp only;have hu:=hB.g _ (fnd_mem hf)
      cases hmem:memB p (tx t)with
      |true=>
        rw[if_pos rfl];refine⟨m,Nd.of (0,(0,0,0,0),[],0,0,ByteArray.empty),?_⟩;rw[F_7,if_neg (by decide),if_pos h5];unfold F_151;rw[show mget B t.un.2.2.2.2.2=some u from(mget_fnd ..).trans hf,contains_small Om Om,show memB p t.un.2.2.2.2.2=true from hmem];rfl
      |false=>
        rw[if_neg Sm];have hlen:(p++ [tx t]).length=p.length+1:=by simp
        have h1:=IH u lv m M (p++ [tx t]) hu (hp.add hf hmem) hm hlv Om Om;have hpl2:=(hp.add hf hmem).le hB.l;rw[hlen]at hpl2
        have hsl:slc (p++ [tx t]) 0 (w64 (((p++ [tx t]).length:Int)-1))=some p:=by
         rw[show w64 (((p++ [tx t]).length:Int)-1)=(p.length:Int) by rw[hlen,w64,wrap64]<;>omega,slc_take Sm];simp
        have hgo: ∀q:List BA×Bk×Int×List BA×Int×Int×Int×Int×Int×Int×List Nd×Int×Int×BA,q.2.2.2.1=p++ [tx t]→
         F_7 M nm B m (p++ [tx t]) 0 u.un.1 u.un.2.1.1 u.un.2.1.2.1 u.un.2.1.2.2.1 u.un.2.1.2.2.2 u.un.2.2.1 u.un.2.2.2.1 u.un.2.2.2.2.1 u.un.2.2.2.2.2 lv=some q→
         F_7 (M+1) nm B m p 0 t.un.1 t.un.2.1.1 t.un.2.1.2.1 t.un.2.1.2.2.1 t.un.2.1.2.2.2 t.un.2.2.1 t.un.2.2.2.1 t.un.2.2.2.2.1 t.un.2.2.2.2.2 lv=some (q.1,q.2.1,q.2.2.1,p,q.2.2.2.2):=fun q hq e=>by
         rw[F_7,if_neg (by decide),if_pos h5];unfold F_151;rw[show mget B t.un.2.2.2.2.2=some u from(mget_fnd ..).trans hf,contains_small Om Om,show memB p t.un.2.2.2.2.2=false from hmem];simp only[Option.isSome_some,Bool.not_true,Bool.false_eq_true,if_false,bind,Option.bind_some,Option.getD_some];rw[app_eq (by simp;omega)];simp only[Option.bind_some];rw[e];obtain⟨z1,z2,q1,q2,q3,q4,q5,q6,q7,q8,q9,q10,q11,q12⟩:=q;have hq:q2=p++ [tx t]:=hq;subst hq;simp only[Option.bind_some];rw[hsl];rfl
        cases hr:spr B k u lv m (p++ [tx t])with
        |inl e=>
          rw[hr]at h1;obtain⟨m',v,h1⟩:=h1;exact⟨m',v,hgo _ rfl h1⟩
        |inr q=>
          rw[hr]at h1;exact hgo _ rfl h1
   rw[if_neg h5];by_cases h24:24<lv
   ·rw[if_pos h24];refine⟨m,Nd.of (0,(0,0,0,0),[],0,0,ByteArray.empty),?_⟩;rw[F_7,if_neg (by decide),if_neg h5,if_pos (by simp;omega)];rfl
   rw[if_neg h24];by_cases h6:600≤m
   ·rw[if_pos h6];refine⟨m,Nd.of (0,(0,0,0,0),[],0,0,ByteArray.empty),?_⟩;rw[F_7,if_neg (by decide),if_neg h5,if_neg (by simp;omega),if_pos (by simp;omega)];rfl
   rw[if_neg h6];obtain⟨M,rfl⟩: ∃n,M=n+1:=⟨M-1,by omega⟩
   have key: ∀(r i K m:Nat) (ys:List Nd),i+r=(kd t).length→r<K→ys.length=i→m≤600→
    match sprL (fun x m=>spr B k x (lv+1) m p) ((kd t).drop i) m with
    | .inr (us,m')=>iterO K (fun s=>F_41 (M+1) (F_7 (M+1)) lv (kd t) s.1 s.2.1 s.2.2.1 s.2.2.2.1 s.2.2.2.2.1 s.2.2.2.2.2.1 s.2.2.2.2.2.2) (nm,B,(m:Int),p,0,ys++(kd t).drop i,(i:Int))=some (nm,B,(m':Int),p,0,ys++us)
    | .inl e=> ∃m' zs,iterO K (fun s=>F_41 (M+1) (F_7 (M+1)) lv (kd t) s.1 s.2.1 s.2.2.1 s.2.2.2.1 s.2.2.2.2.1 s.2.2.2.2.2.1 s.2.2.2.2.2.2) (nm,B,(m:Int),p,0,ys++(kd t).drop i,(i:Int))=some (nm,B,m',p,e.code,zs):=by
    intro r
    induction r with
    |zero=>
      intro i K m ys hi hK hy hm;obtain⟨K,rfl⟩: ∃m,K=m+1:=⟨K-1,by omega⟩;rw[List.drop_eq_nil_of_le Om];simp only[sprL,iterO,F_41];rw[if_neg (by simp;omega)]
    |succ r ih=>
      intro i K m ys hi hK hy hm;obtain⟨K,rfl⟩: ∃m,K=m+1:=⟨K-1,by omega⟩;have hlt:i<(kd t).length:=by omega
      have hx:(kd t)[i]? =some (kd t)[i]:=List.getElem?_eq_getElem hlt;rw[List.drop_eq_getElem_cons hlt];generalize(kd t)[i]=x at hx;have hxm:=List.mem_of_getElem? hx;have h1:=IH x (lv+1) m (M+1) p (ht.kid hxm) hp hm Om Om Om;have hL:(ys++x::(kd t).drop (i+1))[i]? =some x:=by rw[List.getElem?_append_right Om,hy];simp
      have hset: ∀y,setI (ys++x::(kd t).drop (i+1)) (i:Int) y=some (ys++ [y]++(kd t).drop (i+1)):=fun y=>by
       unfold setI;rw[if_pos ⟨by omega,by simp;omega⟩];simp only[Int.toNat_natCast];rw[List.set_append_right _ _ Om,hy];simp
      have hgo: ∀(m1 c:Int) (u:Nd),F_7 (M+1) nm B m p 0 x.un.1 x.un.2.1.1 x.un.2.1.2.1 x.un.2.1.2.2.1 x.un.2.1.2.2.2 x.un.2.2.1 x.un.2.2.2.1 x.un.2.2.2.2.1 x.un.2.2.2.2.2 (((lv+1:Nat)):Int)=
       some (nm,B,m1,p,c,u.un.1,u.un.2.1.1,u.un.2.1.2.1,u.un.2.1.2.2.1,u.un.2.1.2.2.2,u.un.2.2.1,u.un.2.2.2.1,u.un.2.2.2.2.1,u.un.2.2.2.2.2)→
       F_41 (M+1) (F_7 (M+1)) lv (kd t) nm B m p 0 (ys++x::(kd t).drop (i+1)) (i:Int)=some (.inl (nm,B,m1,p,c,ys++ [u]++(kd t).drop (i+1),((i+1:Nat):Int))):=fun m1 c u e=>by
       unfold F_41;rw[if_pos (by simpa using hlt),idx_of hL];simp only[bind,Option.bind_some];rw[w64_succ Om,e];simp only[Option.bind_some];rw[Nd.of_eq,hset,w64_succ Om];rfl
      simp only[sprL]
      cases hr:spr B k x (lv+1) m p with
      |inl e=>
        rw[hr]at h1;obtain⟨m',v,h1⟩:=h1;obtain⟨zs',h2⟩:=loop_err (M:=M) (nm:=nm) (B:=B) (c:=e.code) e.ok lv p m' (kd t) Om r (i+1) K (ys++ [v]++(kd t).drop (i+1)) Om Om (by simp;omega);refine⟨m',zs',?_⟩;simp only[iterO,hgo _ _ _ h1];exact h2
      |inr q=>
        obtain⟨u,m1⟩:=q;have hmd:=spr_made hB.g k x (lv+1) m p u m1 (ht.kid hxm) hm hr;rw[hr]at h1;simp only;have h2:=ih (i+1) K m1 (ys++ [u]) Om Om (by simp[hy]) hmd.le
        cases hs:sprL (fun x m=>spr B k x (lv+1) m p) ((kd t).drop (i+1)) m1 with
        |inl e=>
          rw[hs]at h2;obtain⟨m',zs,h2⟩:=h2;refine⟨m',zs,?_⟩;simp only[iterO,hgo _ _ _ h1];exact h2
        |inr q=>
          obtain⟨us,m2⟩:=q;rw[hs]at h2;simp only[iterO,hgo _ _ _ h1];rw[h2];simp
   have h2:=key (kd t).length 0 (M+1) (m+1) [] Om Om rfl Om;rw[List.drop_zero]at h2;simp only[List.nil_append]at h2
   have e0:F_7 (M+1+1) nm B m p 0 t.un.1 t.un.2.1.1 t.un.2.1.2.1 t.un.2.1.2.2.1 t.un.2.1.2.2.2 t.un.2.2.1 t.un.2.2.2.1 t.un.2.2.2.2.1 t.un.2.2.2.2.2 lv=
    (iterO (M+1) (fun s=>F_41 (M+1) (F_7 (M+1)) lv (kd t) s.1 s.2.1 s.2.2.1 s.2.2.2.1 s.2.2.2.2.1 s.2.2.2.2.2.1 s.2.2.2.2.2.2) (nm,B,(((m+1:Nat)):Int),p,0,kd t,0)).bind fun q=>
     some (q.1,q.2.1,q.2.2.1,q.2.2.2.1,q.2.2.2.2.1,t.un.1,t.un.2.1.1,t.un.2.1.2.1,t.un.2.1.2.2.1,t.un.2.1.2.2.2,q.2.2.2.2.2,t.un.2.2.2.1,t.un.2.2.2.2.1,t.un.2.2.2.2.2):=by
    rw[F_7,if_neg (by decide),if_neg h5,if_neg (by simp;omega),if_neg (by simp;omega)];unfold F_139;rw[app_eq (by have:t.un.2.2.1.length≤cntL (kd t):=hll;simp;omega),w64_succ Om];rfl
   cases hs:sprL (fun x m=>spr B k x (lv+1) m p) (kd t) (m+1)with
   |inl e=>
     rw[hs]at h2;obtain⟨m',zs,h2⟩:=h2;refine⟨m',wkd t zs,?_⟩;rw[e0,show iterO (M+1) (fun s=>F_41 (M+1) (F_7 (M+1)) lv (kd t) s.1 s.2.1 s.2.2.1 s.2.2.2.1 s.2.2.2.2.1 s.2.2.2.2.2.1 s.2.2.2.2.2.2) (nm,B,(((m+1:Nat)):Int),p,0,kd t,0)=_ from h2];rfl
   |inr q=>
     obtain⟨us,m2⟩:=q;rw[hs]at h2;show F_7 _ _ _ _ _ _ _ _ _ _ _ _ _ _ _ _=_;rw[e0,show iterO (M+1) (fun s=>F_41 (M+1) (F_7 (M+1)) lv (kd t) s.1 s.2.1 s.2.2.1 s.2.2.2.1 s.2.2.2.2.1 s.2.2.2.2.2.1 s.2.2.2.2.2.2) (nm,B,(((m+1:Nat)):Int),p,0,kd t,0)=_ from h2];rfl
end
theorem set_same{α:Type}{l:List α}{i:Nat}{x:α}(h:l[i]? =some x):l.set i x=l:=by
 obtain⟨hi,rfl⟩:=List.getElem?_eq_some_iff.1 h;exact List.set_getElem_self hi
theorem setI_same{α:Type}{l:List α}{i:Nat}{x:α}(h:l[i]? =some x):setI l (i:Int) x=some l:=by
 have hi:=lt_len h;simp only[setI,Int.toNat_natCast];rw[if_pos ⟨by omega,hi⟩,set_same h]
theorem copied_spec: ∀(c:Nat) (t:Nd),cnt t=c→ ∀N,cnt t+5≤N→cnt t<100000→
 F_28 N t.un.1 t.un.2.1.1 t.un.2.1.2.1 t.un.2.1.2.2.1 t.un.2.1.2.2.2 t.un.2.2.1 t.un.2.2.2.1 t.un.2.2.2.2.1 t.un.2.2.2.2.2=some (kd t):=by
 intro c
 induction c using Nat.strongRecOn with
 |ind c IH=>
   intro t hc N hN hb;obtain⟨M,rfl⟩: ∃m,N=m+1:=⟨N-1,by omega⟩;have hcu:=cnt_un t;have hll:=cntL_len (kd t);rw[F_28];unfold F_139;rw[app_eq (by have:t.un.2.2.1.length≤cntL (kd t):=hll;simp;omega)];simp only[bind,Option.bind_some,List.nil_append]
   have h:=iterO_for0 (f:=fun s=>F_112 M (F_28 M) (kd t) s.1 s.2) (r:=kd t) (s:=(kd t,0)) (N:=M) (fun i=>(kd t,(i:Int))) (kd t).length rfl Om (fun i hi=>by
    have hx:(kd t)[i]? =some (kd t)[i]:=List.getElem?_eq_getElem hi;generalize(kd t)[i]=x at hx;have hm:=cnt_kid (List.mem_of_getElem? hx);show F_112 M (F_28 M) (kd t) (kd t) (i:Int)=_;unfold F_112;rw[if_pos (by simpa using hi),idx_of hx];simp only[bind,Option.bind_some];rw[IH (cnt x) Om x rfl M Om Om];simp only[Option.bind_some];rw[Nd.of_eq,setI_same hx,w64_succ Om]
    rfl) (by
    show F_112 M (F_28 M) (kd t) (kd t) ((kd t).length:Int)=_;unfold F_112;rw[if_neg Sm])
   rw[show iterO M (fun s=>F_112 M (F_28 M) t.un.2.2.1 s.1 s.2) (t.un.2.2.1,0)=_ from h];rfl
section
variable {N:Nat}
theorem copy_spec(hN:9300000000000000000≤N){t:Nd}(hc:cnt t<1000)(hq:NdQ t)(hr:rtT t=true):
 F_226 N t.un.1 t.un.2.1.1 t.un.2.1.2.1 t.un.2.1.2.2.1 t.un.2.1.2.2.2 t.un.2.2.1 t.un.2.2.2.1 t.un.2.2.2.2.1 t.un.2.2.2.2.2=
  some (t.un.1,t.un.2.1.1,t.un.2.1.2.1,t.un.2.1.2.2.1,t.un.2.1.2.2.2,t.un.2.2.1,t.un.2.2.2.1,t.un.2.2.2.2.1,t.un.2.2.2.2.2):=by
 unfold F_226;rw[right_code hN hc hq,hr,copied_spec _ t rfl N Om Om];rfl
def bk(Ls:List Lt):Bk:=Ls.map fun x=>(x.1,x.2.1)
theorem fnd_app{B:Bk}{s:BA}(h: ∀e∈B,e.1≠s):fnd B s=none:=by
 unfold fnd;rw[List.find?_eq_none.2 fun e he=>by simpa using h e he];rfl
theorem mset_new{B:Bk}{s:BA}{t:Nd}(h: ∀e∈B,e.1≠s):mset B s t=B++ [(s,t)]:=by
 unfold mset
 have:B.findIdx? (fun e=>e.1==s)=none:=List.findIdx?_eq_none_iff.2 fun e he=>by
  cases hb:e.1==s with
  |false=>rfl
  |true=>exact absurd ((babeq _ _).1 hb) (h e he)
 rw[this]
theorem add_code(hN:9300000000000000000≤N){B:Bk}{l:List BA}{s:BA}{t:Nd}(hs:s.size≤50)(hn:nmB (sl s)=true)(hc:cnt t<700)(hq:NdQ t)(hr:rtT t=true)(hf: ∀e∈B,e.1≠s)(hl:l.length<32):
 F_184 N l B s t.un.1 t.un.2.1.1 t.un.2.1.2.1 t.un.2.1.2.2.1 t.un.2.1.2.2.2 t.un.2.2.1 t.un.2.2.2.1 t.un.2.2.2.2.1 t.un.2.2.2.2.2=some (l++ [s],B++ [(s,t)],0):=by
 have hcb:=cap_big;unfold F_184;rw[nm_code hN Om,hn,right_code hN Om hq,hr,mget_fnd,fnd_app hf,copy_spec hN Om hq hr,app_eq (by simp;omega)];have h32: ¬(l.length:Int)≥32:=by omega
 simp only[bind,Option.bind_some,Bool.not_true,Bool.false_eq_true,if_false,Option.isSome_none,h32,decide_false];rw[Nd.of_eq,mset_new hf]
theorem bk_take{Ls:List Lt}{i:Nat}{x:Lt}(h:Ls[i]? =some x):bk (Ls.take (i+1))=bk (Ls.take i)++ [(x.1,x.2.1)]:=by
 unfold bk;rw[List.take_succ_eq_append_getElem (lt_len h),List.map_append,(List.getElem?_eq_some_iff.1 h).2];rfl
theorem map_take1{Ls:List Lt}{i:Nat}{x:Lt}(h:Ls[i]? =some x):(Ls.take (i+1)).map (·.1)=(Ls.take i).map (·.1)++ [x.1]:=by
 rw[List.take_succ_eq_append_getElem (lt_len h),List.map_append,(List.getElem?_eq_some_iff.1 h).2];rfl
structure LR(Ls:List Lt):Prop where
 q: ∀x∈Ls,LQ x
 r: ∀x∈Ls,rtT x.2.1=true
 n: ∀x∈Ls,nmB (sl x.1)=true
 nd:(Ls.map (·.1)).Nodup
 l:Ls.length≤32
theorem LR.apart{Ls:List Lt}(h:LR Ls){i:Nat}{x:Lt}(hx:Ls[i]? =some x): ∀e∈bk (Ls.take i),e.1≠x.1:=fun e he=>by
 unfold bk at he;obtain⟨y,hy,rfl⟩:=List.mem_map.1 he;obtain⟨j,hj⟩:=List.mem_iff_getElem?.1 hy;rw[List.getElem?_take]at hj;split at hj
 ·rename_i hlt;have h1:(Ls.map (·.1))[j]? =some y.1:=by rw[List.getElem?_map,hj];rfl
  have h2:(Ls.map (·.1))[i]? =some x.1:=by rw[List.getElem?_map,hx];rfl
  intro he;have he:y.1=x.1:=he;have:=(List.getElem?_inj (lt_len h1) h.nd).1 (h1.trans (he▸h2.symm));omega
 cases hj
theorem book_code(hN:9300000000000000000≤N){Ls:List Lt}(h:LR Ls):
 iterO N (fun s=>F_103 N Ls s.1 s.2.1 s.2.2) (0,[],([]:List (BA×Nd)))=some (.inl (Ls.map (·.1),bk Ls)):=by
 have hl:=h.l;refine iterO_for0 (f:=fun s=>F_103 N Ls s.1 s.2.1 s.2.2) (fun i=>((i:Int),(Ls.take i).map (·.1),bk (Ls.take i))) Ls.length (by simp[bk]) Om (fun i hi=>?_) ?_
 ·have hx:Ls[i]? =some Ls[i]:=List.getElem?_eq_getElem hi;generalize Ls[i]=x at hx;have hm:=List.mem_of_getElem? hx;show F_103 N Ls (i:Int) ((Ls.take i).map (·.1)) (bk (Ls.take i))=_;unfold F_103;rw[if_pos (by simpa using hi),idx_of hx];simp only[bind,Option.bind_some];rw[add_code hN (h.q x hm).n (h.n x hm) (h.q x hm).c (h.q x hm).q (h.r x hm) (h.apart hx) (by simp;omega),bk_take hx,map_take1 hx,w64_succ Om];rfl
 show F_103 N Ls (Ls.length:Int) _ _=_;unfold F_103;rw[if_neg Sm,List.take_length]
theorem LR.book{Ls:List Lt}(h:LR Ls):BOk (bk Ls):=⟨by simp[bk];exact h.l,fun e he=>by
 unfold bk at he;obtain⟨x,hx,rfl⟩:=List.mem_map.1 he;exact⟨okA_of 1 _ (RT.of (h.r x hx)),(h.q x hx).q,(h.q x hx).c⟩⟩
def condB(C cs:List BA)(i:Nat):Bool:=match C[i]? with|some c=>memB cs c|none=>false
def condI(C cs:List BA):LI:=((List.range C.length).filter (condB C cs)).map fun(i:Nat)=>(i:Int)
theorem condB_at{C cs:List BA}{i:Nat}{c:BA}(h:C[i]? =some c):condB C cs i=memB cs c:=by
 unfold condB;rw[h]
theorem plc_at{C:List BA}(hC:C.Nodup){i:Nat}{c:BA}(h:C[i]? =some c):plc C c=(i:Int):=by
 obtain⟨j,e,hj,_⟩:=plc_some (List.mem_of_getElem? h);rw[e];have:=(List.getElem?_inj (lt_len hj) hC).1 (hj.trans h.symm);omega
theorem plc_nodup{C:List BA}: ∀{cs:List BA},cs.Nodup→(∀c∈cs,c∈C)→(cs.map (plc C)).Nodup
 | [],_,_=>by simp
 |c::cs,hn,hm=>by
   rw[List.nodup_cons]at hn;rw[List.map_cons,List.nodup_cons];refine⟨fun h=>?_,plc_nodup hn.2 fun x hx=>hm x (List.mem_cons_of_mem _ hx)⟩;obtain⟨x,hx,he⟩:=List.mem_map.1 h;obtain⟨i,e1,h1,_⟩:=plc_some (hm c (List.mem_cons_self ..));obtain⟨j,e2,h2,_⟩:=plc_some (hm x (List.mem_cons_of_mem _ hx));rw[e1,e2]at he;have:i=j:=by omega
   subst this;rw[h1]at h2;exact hn.1 (oi h2▸hx)
theorem condI_lt(C cs:List BA):List.Pairwise (fun a b=>a<b) (condI C cs):=by
 unfold condI;rw[List.pairwise_map];exact(List.pairwise_lt_range.filter _).imp fun h=>by omega
theorem condI_mem{C cs:List BA}{x:Int}:x∈condI C cs↔ ∃(i:Nat) (c:BA),x=(i:Int)∧C[i]? =some c∧c∈cs:=by
 unfold condI;rw[List.mem_map];constructor
 ·rintro⟨i,hi,rfl⟩;rw[List.mem_filter]at hi;obtain⟨_,h2⟩:=hi;unfold condB at h2
  cases hc:C[i]? with
  |none=>rw[hc]at h2;cases h2
  |some c=>rw[hc]at h2;exact⟨i,c,rfl,hc,memB_iff.1 h2⟩
 rintro⟨i,c,rfl,hc,hm⟩;refine⟨i,?_,rfl⟩;rw[List.mem_filter];refine⟨by simpa using lt_len hc,?_⟩;rw[condB_at hc];exact memB_iff.2 hm
theorem sort_conds{C cs:List BA}(hC:C.Nodup)(hcs:cs.Nodup)(hm: ∀c∈cs,c∈C)(hl:cs.length≤1000):sortI (cs.map (plc C))=some (condI C cs):=by
 unfold sortI;rw[if_pos (by simp;omega)]
 congr 1
 have hp:=List.mergeSort_perm (cs.map (plc C)) (fun x y=>decide (x≤y));have hnd:(condI C cs).Nodup:=List.nodup_iff_pairwise_ne.2 ((condI_lt C cs).imp fun h=>by omega);refine List.Perm.eq_of_pairwise (le:=fun a b=>a≤b) (fun a b _ _ h1 h2=>by omega) ?_ ((condI_lt C cs).imp fun h=>by omega) (hp.trans ((List.perm_ext_iff_of_nodup (plc_nodup hcs hm) hnd).2 fun x=>?_))
 ·exact(List.pairwise_mergeSort (le:=fun x y:Int=>decide (x≤y)) (fun a b c h1 h2=>by simp at*;omega) (fun a b=>by simp;omega) _).imp fun h=>by simpa using h
 rw[condI_mem,List.mem_map];constructor
 ·rintro⟨c,hc,rfl⟩;obtain⟨i,e,hi,_⟩:=plc_some (hm c hc);exact⟨i,c,e,hi,hc⟩
 rintro⟨i,c,rfl,hi,hc⟩;exact⟨c,hc,plc_at hC hi⟩
theorem cond_code(hN:9300000000000000000≤N){C nm:List BA}{R:List Rl}(hC:C.length≤1000000)(s:BA):F_72 N C nm R s=some (plc C s):=by
 unfold F_72;rw[index_spec hN hC];rfl
theorem conds_code(hN:9300000000000000000≤N){C nm l cs:List BA}{R:List Rl}{B:Bk}(hC:C.Nodup)(hcs:cs.Nodup)(hl:cs.length≤1000)(hCl:C.length≤1000000):
 F_54 N C nm R l B cs=some (if cs.all (memB C)then(C,nm,R,l,B,condI C cs,0)else(C,nm,R,l,B,[],15)):=by
 unfold F_54
 have key: ∀(r i K:Nat) (acc:LI),i+r=cs.length→r<K→acc.length=i→
  iterO K (fun s=>F_128 N C nm R l B cs s.1 s.2) ((i:Int),acc)=some (if(cs.drop i).all (memB C)then .inl (acc++(cs.drop i).map (plc C))else .inr (C,nm,R,l,B,[],15)):=by
  intro r
  induction r with
  |zero=>
    intro i K acc hi hK ha;obtain⟨K,rfl⟩: ∃m,K=m+1:=⟨K-1,by omega⟩;rw[List.drop_eq_nil_of_le Om];simp only[iterO,F_128];rw[if_neg (by simp;omega)];simp
  |succ r ih=>
    intro i K acc hi hK ha;obtain⟨K,rfl⟩: ∃m,K=m+1:=⟨K-1,by omega⟩;have hlt:i<cs.length:=by omega
    have hx:cs[i]? =some cs[i]:=List.getElem?_eq_getElem hlt;rw[List.drop_eq_getElem_cons hlt];generalize cs[i]=x at hx
    have hs:F_128 N C nm R l B cs (i:Int) acc=some (if memB C x=true then .inl (((i+1:Nat):Int),acc++ [plc C x])else .inr (.inr (C,nm,R,l,B,[],15))):=by
     unfold F_128;rw[if_pos (by simpa using hlt),idx_of hx];simp only[bind,Option.bind_some];rw[cond_code hN hCl];simp only[Option.bind_some];rw[plc_lt,app_eq (by simp;omega),w64_succ Om];cases memB C x<;>rfl
    simp only[iterO,hs,List.all_cons,List.map_cons]
    cases hc:memB C x with
    |false=>simp
    |true=>
      simp only[if_true,Bool.true_and];rw[ih (i+1) K (acc++ [plc C x]) Om Om (by simp[ha])];simp
 have g:=key cs.length 0 N [] Om Om rfl;rw[List.drop_zero,List.nil_append]at g;rw[show iterO N (fun s=>F_128 N C nm R l B cs s.1 s.2) (0,[])=_ from g]
 cases h:cs.all (memB C)with
 |false=>rfl
 |true=>
   simp only[if_true,bind,Option.bind_some];rw[sort_conds hC hcs (fun c hc=>memB_iff.1 (List.all_eq_true.1 h c hc)) hl];rfl
end
def ruleP(C:List BA)(B:Bk)(x:On)(nms:List BA)(rs:List Rl):SE ⊕ (List BA×List Rl):=
 if x.1.all (memB C)=true then
  if decide (x.2.2.1.2.size=0)=true∨memB C x.2.2.1.2=true then
   match spr B 60 x.2.1 1 0 []with
   | .inl e=> .inl e
   | .inr (u,_)=>if 4000<wgt u then .inl .lim else
     .inr (if decide (x.2.2.1.1.size=0)=true∨memB nms x.2.2.1.1=true then nms else nms++ [x.2.2.1.1],
      rs++ [(condI C x.1,u,if decide (x.2.2.1.1.size=0)=true then-1 else if memB nms x.2.2.1.1=true then plc nms x.2.2.1.1 else(nms.length:Int),if decide (x.2.2.1.2.size=0)=true then-1 else plc C x.2.2.1.2)])
  else .inl .none
 else .inl .none
structure OR(x:On):Prop where
 q:OQ x
 r:rtT x.2.1=true
 nd:x.1.Nodup
theorem OR.gt{x:On}(h:OR x):GT x.2.1:=⟨okA_of 1 _ (RT.of h.r),h.q.q,h.q.o.t⟩
theorem PI.nil(B:Bk):PI B []:=⟨List.nodup_nil,fun _ h=>by cases h⟩
section
variable {N:Nat}{C:List BA}{B:Bk}
theorem made1(hB:BOk B){x:On}(h:OR x){u:Nd}{m':Nat}(hs:spr B 60 x.2.1 1 0 []= .inr (u,m')):Made 1 0 u m':=spr_made hB.g 60 x.2.1 1 0 [] u m' h.gt Om hs
theorem Made.rt{u:Nd}{m':Nat}(h:Made 1 0 u m'):rtT u=true∧cnt u≤600:=by
 have:=h.m;have:=h.le;exact⟨rtT_of h.r Om,by omega⟩
theorem Made.w{u:Nd}{m':Nat}(hN:9300000000000000000≤N)(h:Made 1 0 u m'):
 F_105 N u.un.1 u.un.2.1.1 u.un.2.1.2.1 u.un.2.1.2.2.1 u.un.2.1.2.2.2 u.un.2.2.1 u.un.2.2.2.1 u.un.2.2.2.2.1 u.un.2.2.2.2.2=some (wgt u):=by
 obtain⟨h1,h2⟩:=h.rt;exact weight_code hN Om h.q h1
theorem sp_code(hN:9400000000000000000≤N)(hB:BOk B){x:On}(h:OR x)(nm:List BA):
 match spr B 60 x.2.1 1 0 []with
 | .inl e=>F_150 N nm B x.2.1.un.1 x.2.1.un.2.1.1 x.2.1.un.2.1.2.1 x.2.1.un.2.1.2.2.1 x.2.1.un.2.1.2.2.2 x.2.1.un.2.2.1 x.2.1.un.2.2.2.1 x.2.1.un.2.2.2.2.1 x.2.1.un.2.2.2.2.2=some (nm,B,0,0,0,0,0,[],0,0,ByteArray.empty,e.code)
 | .inr (u,_)=>F_150 N nm B x.2.1.un.1 x.2.1.un.2.1.1 x.2.1.un.2.1.2.1 x.2.1.un.2.1.2.2.1 x.2.1.un.2.1.2.2.2 x.2.1.un.2.2.1 x.2.1.un.2.2.2.1 x.2.1.un.2.2.2.2.1 x.2.1.un.2.2.2.2.2=
  some (nm,B,u.un.1,u.un.2.1.1,u.un.2.1.2.1,u.un.2.1.2.2.1,u.un.2.1.2.2.2,u.un.2.2.1,u.un.2.2.2.1,u.un.2.2.2.2.1,u.un.2.2.2.2.2,0):=by
 have g:=spread_code (nm:=nm) hB 60 x.2.1 1 0 N [] h.gt (PI.nil B) Om Om Sm Om;unfold F_150;rw[right_code Om (by have:=h.q.o.t;omega) h.q.q,h.r];simp only[bind,Option.bind_some,Bool.not_true,Bool.false_eq_true,if_false]
 cases hs:spr B 60 x.2.1 1 0 []with
 |inl e=>
   rw[hs]at g;obtain⟨m',v,g⟩:=g;have g:F_7 N nm B 0 [] 0 x.2.1.un.1 x.2.1.un.2.1.1 x.2.1.un.2.1.2.1 x.2.1.un.2.1.2.2.1 x.2.1.un.2.1.2.2.2 x.2.1.un.2.2.1 x.2.1.un.2.2.2.1 x.2.1.un.2.2.2.2.1 x.2.1.un.2.2.2.2.2 1=_:=g;simp only;rw[g];simp only[Option.bind_some,e.ok,if_true]
 |inr q=>
   obtain⟨u,m'⟩:=q;rw[hs]at g;have g:F_7 N nm B 0 [] 0 x.2.1.un.1 x.2.1.un.2.1.1 x.2.1.un.2.1.2.1 x.2.1.un.2.1.2.2.1 x.2.1.un.2.1.2.2.2 x.2.1.un.2.2.1 x.2.1.un.2.2.2.1 x.2.1.un.2.2.2.2.1 x.2.1.un.2.2.2.2.2 1=_:=g;simp only;rw[g];rfl
theorem rule_code(hN:9400000000000000000≤N)(hB:BOk B){x:On}(h:OR x)(hC:C.Nodup)(hCl:C.length≤20){nms l:List BA}{rs:List Rl}(hn:nms.length≤1000)(hr:rs.length≤1000):
 F_218 N C nms rs l B x.1 x.2.1.un.1 x.2.1.un.2.1.1 x.2.1.un.2.1.2.1 x.2.1.un.2.1.2.2.1 x.2.1.un.2.1.2.2.2 x.2.1.un.2.2.1 x.2.1.un.2.2.2.1 x.2.1.un.2.2.2.2.1 x.2.1.un.2.2.2.2.2 x.2.2.1.1 x.2.2.1.2 x.2.2.2=
  some (match ruleP C B x nms rs with| .inl e=>(C,nms,rs,l,B,e.code)| .inr q=>(C,q.1,q.2,l,B,0)):=by
 have hc:=h.q.o.c;unfold F_218 ruleP;rw[conds_code Om hC h.nd Om Om];simp only[bind,Option.bind_some]
 cases h1:x.1.all (memB C)with
 |false=>rfl
 |true=>
   simp only[if_true];rw[if_neg (by decide),ba_ne,ba_emp,cond_code Om Om];simp only[Option.bind_some];rw[plc_lt]
   have hbeg:((if(!decide (x.2.2.1.2.size=0))=true then(if(!memB C x.2.2.1.2)=true then some (.inr (C,nms,rs,l,B,15))else some (.inl (plc C x.2.2.1.2)))else some (.inl (-1)):Option (Int ⊕ (List BA×List BA×List Rl×List BA×Bk×Int))))=
    if decide (x.2.2.1.2.size=0)=true∨memB C x.2.2.1.2=true then some (.inl (if decide (x.2.2.1.2.size=0)=true then-1 else plc C x.2.2.1.2))else some (.inr (C,nms,rs,l,B,15)):=by
    cases decide (x.2.2.1.2.size=0)<;>cases memB C x.2.2.1.2<;>rfl
   rw[hbeg];by_cases h2:decide (x.2.2.1.2.size=0)=true∨memB C x.2.2.1.2=true
   ·rw[if_pos h2,if_pos h2];simp only[Option.bind_some];have g:=sp_code hN hB h l
    cases hs:spr B 60 x.2.1 1 0 []with
    |inl e=>
      rw[hs]at g;simp only at g;rw[g];simp only[Option.bind_some,e.ok,if_true]
    |inr q=>
      obtain⟨u,m'⟩:=q;have hm:=made1 hB h hs;rw[hs]at g;simp only at g;rw[g];simp only[Option.bind_some];rw[if_neg (by decide),hm.w (N:=N) Om];simp only[Option.bind_some];by_cases hw:4000<wgt u
      ·rw[if_pos (by simpa using hw),if_pos hw];rfl
      rw[if_neg (by simpa using hw),if_neg hw];unfold F_238;rw[emp_sl,index_spec Om Om];simp only[bind,Option.bind_some];rw[plc_ge,Nd.of_eq]
      cases h3:decide (x.2.2.1.1.size=0)with
      |true=>
        simp only[if_true,Option.bind_some,true_or];rw[app_eq (by simp;omega)];rfl
      |false=>
        simp only[Bool.false_eq_true,if_false,false_or]
        cases h4:memB nms x.2.2.1.1 with
        |true=>
          simp only[if_true,Option.bind_some];rw[app_eq (by simp;omega)];rfl
        |false=>
          simp only[Bool.false_eq_true,if_false];rw[app_eq (by simp;omega)];simp only[Option.bind_some];rw[app_eq (by simp;omega),show w64 (((nms++ [x.2.2.1.1]).length:Int)-1)=(nms.length:Int) by rw[w64,wrap64]<;>simp<;>omega];rfl
   rw[if_neg h2,if_neg h2];rfl
end
def rulesP(C:List BA)(B:Bk):List On→List BA→List Rl→(Int×SE) ⊕ (List BA×List Rl)
 | [],n,r=> .inr (n,r)
 |x::l,n,r=>match ruleP C B x n r with
   | .inl e=> .inl (x.2.2.2,e)
   | .inr q=>rulesP C B l q.1 q.2
structure RlOk(r:Rl):Prop where
 t:rtT r.2.1=true
 c:cnt r.2.1≤600
 q:NdQ r.2.1
 l:r.1.length≤20
theorem condI_len(C cs:List BA):(condI C cs).length≤C.length:=by
 unfold condI;rw[List.length_map];have:=List.length_filter_le (condB C cs) (List.range C.length);simpa using this
theorem ruleP_ok{C:List BA}{B:Bk}(hB:BOk B){x:On}(h:OR x)(hC:C.length≤20){nms:List BA}{rs:List Rl}{q:List BA×List Rl}(hq:ruleP C B x nms rs= .inr q):
 q.1.length≤nms.length+1∧ ∃r,q.2=rs++ [r]∧RlOk r:=by
 unfold ruleP at hq;split at hq
 ·split at hq
  ·split at hq
   ·cases hq
   rename_i u m' hs;split at hq
   ·cases hq
   have hq:=Sum.inr.inj hq;subst hq;have hm:=made1 hB h hs;refine⟨?_,_,rfl,hm.rt.1,hm.rt.2,hm.q,?_⟩
   ·show(if _ then nms else nms++ [x.2.2.1.1]).length≤_;split<;>simp
   have:=condI_len C x.1;show(condI C x.1).length≤20;omega
  cases hq
 cases hq
section
variable {N:Nat}{C:List BA}{B:Bk}
theorem rules_code(hN:9400000000000000000≤N)(hB:BOk B)(hC:C.Nodup)(hCl:C.length≤20){Os:List On}(hO:Os.length≤60)(h: ∀x∈Os,OR x)(l:List BA): ∀(r i K:Nat) (nms:List BA) (rs:List Rl),i+r=Os.length→r<K→nms.length≤i→rs.length=i→
 iterO K (fun s=>F_126 N Os s.1 s.2.1 s.2.2.1 s.2.2.2.1 s.2.2.2.2.1 s.2.2.2.2.2) (C,nms,rs,l,B,(i:Int))=some (match rulesP C B (Os.drop i) nms rs with| .inl (a,e)=> .inr ([],[],[],a,e.code)| .inr q=> .inl (C,q.1,q.2,l,B)):=by
 intro r
 induction r with
 |zero=>
   intro i K nms rs hi hK hn hr;obtain⟨K,rfl⟩: ∃m,K=m+1:=⟨K-1,by omega⟩;rw[List.drop_eq_nil_of_le Om];simp only[iterO,F_126,rulesP];rw[if_neg (by simp;omega)]
 |succ r ih=>
   intro i K nms rs hi hK hn hr;obtain⟨K,rfl⟩: ∃m,K=m+1:=⟨K-1,by omega⟩;have hlt:i<Os.length:=by omega
   have hx:Os[i]? =some Os[i]:=List.getElem?_eq_getElem hlt;rw[List.drop_eq_getElem_cons hlt];generalize Os[i]=x at hx;have ho:=h x (List.mem_of_getElem? hx)
   have hs:F_126 N Os C nms rs l B (i:Int)=some (match ruleP C B x nms rs with| .inl e=> .inr (.inr ([],[],[],x.2.2.2,e.code))| .inr q=> .inl (C,q.1,q.2,l,B,((i+1:Nat):Int))):=by
    unfold F_126;rw[if_pos (by simpa using hlt),idx_of hx];simp only[bind,Option.bind_some];rw[rule_code hN hB ho hC hCl Om Om,w64_succ Om]
    cases hq:ruleP C B x nms rs with
    |inl e=>simp only[Option.bind_some,e.ok,if_true]
    |inr q=>rfl
   simp only[iterO,hs,rulesP]
   cases hq:ruleP C B x nms rs with
   |inl e=>rfl
   |inr q=>
     obtain⟨h1,rr,h2,_⟩:=ruleP_ok hB ho hCl hq;exact ih (i+1) K q.1 q.2 Om Om Om (by rw[h2];simp[hr])
theorem rulesP_ok(hB:BOk B)(hCl:C.length≤20): ∀{Os:List On} {nms:List BA} {rs:List Rl} {q:List BA×List Rl},(∀x∈Os,OR x)→rulesP C B Os nms rs= .inr q→(∀r∈rs,RlOk r)→
 q.1.length≤nms.length+Os.length∧q.2.length=rs.length+Os.length∧ ∀r∈q.2,RlOk r
 | [],nms,rs,q,_,h,hr=>by
   simp only[rulesP,Sum.inr.injEq]at h;subst h;exact⟨by simp,by simp,hr⟩
 |x::Os,nms,rs,q,hO,h,hr=>by
   simp only[rulesP]at h
   cases hq:ruleP C B x nms rs with
   |inl e=>rw[hq]at h;cases h
   |inr p=>
     rw[hq]at h;obtain⟨h1,rr,h2,h3⟩:=ruleP_ok hB (hO x (List.mem_cons_self ..)) hCl hq
     obtain⟨a,b,c⟩:=rulesP_ok hB hCl (fun y hy=>hO y (List.mem_cons_of_mem _ hy)) h (by
      rw[h2];intro r hr';rcases List.mem_append.1 hr' with hr'|hr'
      ·exact hr r hr'
      obtain rfl:=List.mem_singleton.1 hr';exact h3)
     rw[h2]at b;simp only[List.length_append,List.length_cons,List.length_nil]at b ⊢;exact⟨by omega,by omega,c⟩
end
section
variable {N:Nat}
theorem rfB_out{C:List BA}{Ls:List Lt}{Os:List On}(h:rfB C Ls Os=true)(hq: ∀x∈Ls,LQ x)(hp: ∀x∈Os,OQ x):LR Ls∧(∀x∈Os,OR x)∧C.Nodup:=by
 unfold rfB at h;simp only[Bool.and_eq_true,decide_eq_true_eq,List.all_eq_true]at h;obtain⟨h1,h2,h3,h4,h5,h6,h7,h8,h9⟩:=h;refine⟨⟨hq,fun x hx=>(h1 x hx).1,fun x hx=>ulB_mem h9 _ (List.mem_map.2 ⟨x,hx,rfl⟩),ulB_nd h9,h5⟩,fun x hx=>?_,ulB_nd h8⟩;have:=h2 x hx;unfold badO at this;simp only[Bool.not_eq_true',Bool.or_eq_false_iff,Bool.not_eq_false',Bool.and_eq_true]at this;exact⟨hp x hx,this.2.2.1.1,ulB_nd this.2.1⟩
theorem check_code(hN:9400000000000000000≤N){C:List BA}{Ls:List Lt}{Os:List On}(hz:Fsz C Ls Os)(hq: ∀x∈Ls,LQ x)(hp: ∀x∈Os,OQ x):
 F_27 N C Ls Os=some (if rfB C Ls Os=true then(if Os.length=0 then([],[],[],0,4)else match rulesP C (bk Ls) Os [] []with| .inl (a,e)=>([],[],[],a,e.code)| .inr q=>(C,q.1,q.2,0,0))else([],[],[],0,1)):=by
 have hc:=hz.c;have ho:=hz.o;unfold F_27;rw[rf_code Om hz.l hz.o hz.c hz.s hq hp];simp only[bind,Option.bind_some]
 cases hr:rfB C Ls Os with
 |false=>rfl
 |true=>
   obtain⟨hL,hO,hC⟩:=rfB_out hr hq hp;simp only[Bool.not_true,Bool.false_eq_true,if_false,if_true];by_cases h0:Os.length=0
   ·rw[if_pos (by rw[h0];rfl),if_pos h0]
   rw[if_neg (by simp;exact fun e=>h0 (by simp[e])),if_neg h0];unfold F_230 F_235;rw[app_eq (by simp;omega)];simp only[Option.bind_some,List.nil_append];rw[book_code Om hL];simp only[Option.bind_some];have g:=rules_code hN hL.book hC hc ho hO (Ls.map (·.1)) Os.length 0 N [] [] Om Om Sm rfl;rw[List.drop_zero]at g;rw[show iterO N (fun s=>F_126 N Os s.1 s.2.1 s.2.2.1 s.2.2.2.1 s.2.2.2.2.1 s.2.2.2.2.2) (C,[],[],Ls.map (·.1),bk Ls,0)=_ from g]
   cases rulesP C (bk Ls) Os [] []with
   |inl p=>rfl
   |inr q=>rfl
end
theorem iand_u64{a b:Nat}(ha:a<18446744073709551616)(hb:b<18446744073709551616):iand .u64 (a:Int) (b:Int)=((a&&&b:Nat):Int):=by
 have h:a&&&b<18446744073709551616:=Nat.and_lt_two_pow (n:=64) _ hb;show IntKind.wrap .u64 ((BitVec.ofInt 64 (a:Int)&&&BitVec.ofInt 64 (b:Int)).toNat:Int)=_;rw[BitVec.ofInt_natCast,BitVec.ofInt_natCast,BitVec.toNat_and,BitVec.toNat_ofNat,BitVec.toNat_ofNat,Nat.mod_eq_of_lt ha,Nat.mod_eq_of_lt hb,wrapU64]<;>omega
theorem ior_u64{a b:Nat}(ha:a<18446744073709551616)(hb:b<18446744073709551616):ior .u64 (a:Int) (b:Int)=((a|||b:Nat):Int):=by
 have h:a|||b<18446744073709551616:=Nat.or_lt_two_pow (n:=64) ha hb;show IntKind.wrap .u64 ((BitVec.ofInt 64 (a:Int)|||BitVec.ofInt 64 (b:Int)).toNat:Int)=_;rw[BitVec.ofInt_natCast,BitVec.ofInt_natCast,BitVec.toNat_or,BitVec.toNat_ofNat,BitVec.toNat_ofNat,Nat.mod_eq_of_lt ha,Nat.mod_eq_of_lt hb,wrapU64]<;>omega
theorem shl_one{k:Nat}(h:k<64):shlI .u64 1 (k:Int)=((2^k:Nat):Int):=by
 have h1:(2:Nat)^k≤2^63:=Nat.pow_le_pow_right Om Om;have h2:(2:Nat)^63=9223372036854775808:=by decide
 simp only[shlI,IntKind.bits,Int.toNat_natCast,Nat.min_eq_left (show k≤64 by omega),Int.one_mul];have e:((2:Int)^k)=((2^k:Nat):Int):=by simp
 rw[e];generalize 2^k=p at*;rw[wrapU64]<;>omega
def has(m:LI)(i:Nat):Bool:=(m.getD (i/64) 0).toNat.testBit (i %64)
structure MkR(n:Nat)(m:LI):Prop where
 len:m.length=(n+63)/64
 rng: ∀w∈m,0≤w∧w<18446744073709551616
theorem new_spec{N n:Nat}(h:n≤65536): ∃m,F_145 N (n:Int)=some (.inr m)∧MkR n m∧ ∀j,has m j=false:=by
 refine⟨List.replicate ((n+63)/64) 0,?_,⟨by simp,fun w hw=>by rw[List.eq_of_mem_replicate hw];omega⟩,fun j=>?_⟩
 ·unfold F_145;have a1: ¬((n:Int)<0):=by omega
  have a2: ¬((n:Int)>65536):=by omega
  have e1:w64 ((n:Int)+64)=((n+64:Nat):Int):=by rw[w64,wrap64]<;>omega
  have e2:w64 (((n+64:Nat):Int)-1)=((n+63:Nat):Int):=by rw[w64,wrap64]<;>omega
  have e3:w64 (((n+63:Nat):Int).tdiv 64)=(((n+63)/64:Nat):Int):=by
   have:((n+63:Nat):Int).tdiv 64=(((n+63)/64:Nat):Int):=by rw[Int.tdiv_eq_ediv_of_nonneg Om];omega
   rw[this,w64,wrap64]<;>omega
  simp only[decide_eq_false a1,decide_eq_false a2,bind,Option.bind_some,Bool.false_eq_true,if_false,e1,e2,e3];rw[mk_eq Om];rfl
 simp[has,List.getD,List.getElem?_replicate];split<;>simp
theorem at_spec{N n i:Nat}{m:LI}(hi:i<9223372036854775808):F_144 N m (n:Int) (i:Int)=some (m,((i/64:Nat):Int),((2^(i %64):Nat):Int),decide (i<n)):=by
 unfold F_144;have e0:IntKind.wrap .u64 (i:Int)=i:=by rw[wrapU64]<;>omega
 have e1:(i:Int).tmod 64=((i %64:Nat):Int):=by rw[Int.tmod_eq_emod_of_nonneg Om];omega
 have e2:w64 ((i:Int).tdiv 64)=((i/64:Nat):Int):=by
  have:(i:Int).tdiv 64=((i/64:Nat):Int):=by rw[Int.tdiv_eq_ediv_of_nonneg Om];omega
  rw[this,w64,wrap64]<;>omega
 have e3:nn ((i %64:Nat):Int)=some ():=by simp[nn];omega
 have e4:(i:Int)≥0:=by omega
 rw[e0,e1,e2,shl_one Om,e3];simp[e4,F_66]
theorem put_spec{N n i:Nat}{m:LI}(hm:MkR n m)(hi:i<n)(hn:n≤65536):
 ∃m',F_78 N m (n:Int) (i:Int)=some (m', !has m i)∧MkR n m'∧(∀j,has m' j=(has m j||j==i))∧m'=if has m i then m else m.set (i/64) (((m.getD (i/64) 0).toNat|||2^(i %64):Nat):Int):=by
 have hl:i/64<m.length:=by rw[hm.len];omega
 have hw:=hm.rng _ (List.getElem_mem hl)
 have hp:(2:Nat)^(i %64)<18446744073709551616:=by
  have h1:(2:Nat)^(i %64)≤2^63:=Nat.pow_le_pow_right Om Om;have h2:(2:Nat)^63=9223372036854775808:=by decide
  omega
 obtain⟨a,ha⟩: ∃a:Nat,m[i/64]=(a:Int):=⟨m[i/64].toNat,by omega⟩;have hx:m[i/64]? =some (a:Int):=by rw[List.getElem?_eq_getElem hl,ha]
 have ha':a<18446744073709551616:=by omega
 have hh:has m i=a.testBit (i %64):=by simp[has,List.getD,hx]
 unfold F_78;rw[at_spec Om];simp only[bind,Option.bind_some,decide_eq_true hi,Bool.not_true,Bool.false_eq_true,if_false,idx_of hx,iand_u64 ha' hp,ior_u64 ha' hp]
 have hand:(a&&&2^(i %64)=0)↔a.testBit (i %64)=false:=by
  constructor
  ·intro h;have:=congrArg (·.testBit (i %64)) h;simpa[Nat.testBit_and,Nat.testBit_two_pow_self]using this
  intro h;apply Nat.eq_of_testBit_eq;intro j;rw[Nat.testBit_and,Nat.testBit_two_pow];by_cases hj:i %64=j
  ·subst hj;simp[h]
  simp[hj]
 by_cases hb:a.testBit (i %64)=true
 ·have h1: ¬(a&&&2^(i %64)=0):=fun h=>by rw[hand.1 h]at hb;cases hb
  have h2:(((a&&&2^(i %64):Nat):Int) != 0)=true:=by simp;omega
  refine⟨m,by rw[h2,hh,hb];rfl,hm,fun j=>?_,by rw[hh,hb];rfl⟩;by_cases hj:j=i
  ·subst hj;simp[hh,hb]
  simp[hj]
 have hb:a.testBit (i %64)=false:=by simpa using hb
 have h2:(((a&&&2^(i %64):Nat):Int) != 0)=false:=by rw[hand.2 hb];rfl
 refine⟨m.set (i/64) ((a|||2^(i %64):Nat):Int),by rw[h2,hh,hb];simp only[Bool.false_eq_true,if_false];rw[setI_nat hl];rfl,⟨by simp[hm.len],fun w hw'=>?_⟩,fun j=>?_,?_⟩
 rotate_right
 ·rw[hh,hb,List.getD,hx];rfl
 ·rcases List.mem_or_eq_of_mem_set hw' with h|rfl
  ·exact hm.rng w h
  have:=Nat.or_lt_two_pow (n:=64) ha' hp;omega
 by_cases hq:j/64=i/64
 ·have e1:has m j=a.testBit (j %64):=by simp[has,hq,List.getD,hx]
  have e2:has (m.set (i/64) ((a|||2^(i %64):Nat):Int)) j=(a|||2^(i %64)).testBit (j %64):=by
   simp[has,hq,List.getD,List.getElem?_set_self hl]
  rw[e1,e2,Nat.testBit_or,Nat.testBit_two_pow]
  congr 1
  by_cases hj:j=i
  ·simp[hj]
  have: ¬(i %64=j %64):=by omega
  simp[hj,this]
 have hj: ¬j=i:=fun h=>hq (by rw[h]);have hq': ¬(i/64=j/64):=fun h=>hq h.symm;simp[has,List.getD,hq',hj]
theorem shr_u64{a:Nat}{k:Nat}(hk:k<64):shrI .u64 (a:Int) (k:Int)=((a/2^k:Nat):Int):=by
 simp only[shrI,IntKind.bits,Int.toNat_natCast,Nat.min_eq_left (show k≤64 by omega)];rw[Int.fdiv_eq_ediv_of_nonneg _ (Int.le_of_lt (Int.pow_pos (by decide)))]
 push_cast
 rfl
theorem wrapN{a:Nat}(h:a<18446744073709551616):IntKind.wrap .u64 (a:Int)=(a:Int):=by rw[wrapU64]<;>omega
theorem low_bit: ∀{x:Nat},x≠0→ ∃k,x.testBit k=true∧ ∀j,j<k→x.testBit j=false:=by
 intro x hx;obtain⟨i,hi⟩:=Nat.exists_testBit_of_ne_zero hx
 induction i using Nat.strongRecOn with
 |ind i ih=>
   by_cases h: ∃j,j<i∧x.testBit j=true
   ·obtain⟨j,hj,hb⟩:=h;exact ih j hj hb
   refine⟨i,hi,fun j hj=>?_⟩
   cases hb:x.testBit j with
   |false=>rfl
   |true=>exact absurd ⟨j,hj,hb⟩ h
theorem low_shape{x k:Nat}(h1:x.testBit k=true)(h2: ∀j,j<k→x.testBit j=false): ∃q,x=2^k*(2*q+1):=by
 have hm:x %2^k=0:=by
  apply Nat.eq_of_testBit_eq;intro j;rw[Nat.testBit_mod_two_pow,Nat.zero_testBit];by_cases hj:j<k
  ·simp[h2 j hj]
  simp[hj]
 have ho:x/2^k %2=1:=by
  rw[Nat.testBit_eq_decide_div_mod_eq]at h1;simpa using h1
 refine⟨x/2^k/2,?_⟩;have e1:2*(x/2^k/2)+1=x/2^k:=by omega
 rw[e1];have:=Nat.div_add_mod x (2^k);omega
theorem and_neg{x k:Nat}(hx:x<18446744073709551616)(h1:x.testBit k=true)(h2: ∀j,j<k→x.testBit j=false):x&&&(18446744073709551616-x)=2^k:=by
 obtain⟨q,hq⟩:=low_shape h1 h2;have hp:0<2^k:=Nat.pow_pos Om;have hpos:0<x:=by rw[hq];exact Nat.mul_pos hp Om
 have hk:k<64:=by
  apply Nat.lt_of_not_le;intro h
  have:=Nat.testBit_lt_two_pow (x:=x) (i:=k) (Nat.lt_of_lt_of_le hx (by
   have:=Nat.pow_le_pow_right (n:=2) Om h;have e:(2:Nat)^64=18446744073709551616:=by decide
   omega))
  rw[this]at h1;cases h1
 have hy:x-1=2^k*(2*q)+(2^k-1):=by
  rw[hq,Nat.mul_add,Nat.mul_one];omega
 have hx':x=2^k*(2*q+1)+0:=by rw[hq];rfl
 have e64:(18446744073709551616:Nat)-x=2^64-((x-1)+1):=by
  have e:(2:Nat)^64=18446744073709551616:=by decide
  omega
 rw[e64];apply Nat.eq_of_testBit_eq;intro i
 rw[Nat.testBit_and,Nat.testBit_two_pow_sub_succ (by
                                                       have e:(2:Nat)^64=18446744073709551616:=by decide
                                                       omega),Nat.testBit_two_pow]
 by_cases hi:i<k
 ·rw[h2 i hi];have: ¬k=i:=by omega
  simp[this]
 have ey:(x-1).testBit i=(2*q).testBit (i-k):=by
  rw[hy,Nat.testBit_two_pow_mul_add _ Om,if_neg hi]
 have ex:x.testBit i=(2*q+1).testBit (i-k):=by
  rw[hx',Nat.testBit_two_pow_mul_add _ hp,if_neg hi]
 rw[ex,ey];by_cases hik:i=k
 ·subst hik;have:i<64:=hk;simp[this,Nat.testBit_zero]
 obtain⟨j,hj⟩: ∃j,i-k=j+1:=⟨i-k-1,by omega⟩;have hne: ¬k=i:=by omega
 rw[hj,Nat.testBit_succ,Nat.testBit_succ];have e1:(2*q+1)/2=q:=by omega
 have e2:2*q/2=q:=by omega
 rw[e1,e2]
 have h64:q.testBit j=true→i<64:=fun h=>by
  apply Nat.lt_of_not_le;intro hge;have e:(2:Nat)^64=18446744073709551616:=by decide
  have hxi:=Nat.testBit_lt_two_pow (x:=x) (i:=i) (Nat.lt_of_lt_of_le hx (by
   have:=Nat.pow_le_pow_right (n:=2) Om hge;omega))
  rw[ex,hj,Nat.testBit_succ,e1,h]at hxi;cases hxi
 cases hq:q.testBit j with
 |false=>simp[hne]
 |true=>simp[hne,h64 hq]
theorem tab_all: ∀k:Fin 64,tab_math_bits_deBruijn64tab[(2^k.val*285870213051353865 %18446744073709551616)/288230376151711744]? =some (k.val:Int):=by decide+kernel
theorem tz_spec{N x k:Nat}(hx:x<18446744073709551616)(h1:x.testBit k=true)(h2: ∀j,j<k→x.testBit j=false)(hk:k<64):F_147 N (x:Int)=some (k:Int):=by
 have h0:x≠0:=fun h=>by rw[h]at h1;simp at h1
 have hn:(((x:Int))==0)=false:=by simp;exact h0
 have e1:IntKind.wrap .u64 (0-(x:Int))=((18446744073709551616-x:Nat):Int):=by
  simp only[IntKind.wrap,IntKind.signed,IntKind.bits];simp;omega
 have hp:(2:Nat)^k≤2^63:=Nat.pow_le_pow_right Om Om
 have e2:IntKind.wrap .u64 (((2^k:Nat):Int)*285870213051353865)=((2^k*285870213051353865 %18446744073709551616:Nat):Int):=by
  simp only[IntKind.wrap,IntKind.signed,IntKind.bits];simp
 unfold F_147;rw[hn];simp only[Bool.false_eq_true,if_false,e1];rw[iand_u64 hx Om,and_neg hx h1 h2,e2];have e3:=shr_u64 (a:=2^k*285870213051353865 %18446744073709551616) (k:=58) Om;rw[show((58:Nat):Int)=58 from rfl]at e3;simp only[Nat.reducePow]at e3;rw[e3];have e4:=tab_all ⟨k,hk⟩;simp only at e4;simp only[idx_of e4,bind,Option.bind_some];rw[wrap64 Om Om]
theorem has_big{j:Nat}{m:LI}(h:m.length≤j/64):has m j=false:=by
 unfold has;rw[List.getD,List.getElem?_eq_none h];simp
theorem after_spec{N n:Nat}{i:Int}{m:LI}(hN:4294967296≤N)(hm:MkR n m)(hn:n≤65536)(h1: -1≤i)(h2:i<n):
 ∃r,F_26 N (m,(n:Int)) i=some r∧((r= -1∧ ∀j:Nat,i<(j:Int)→has m j=false)∨ ∃j:Nat,r=(j:Int)∧i<(j:Int)∧has m j=true∧ ∀j':Nat,i<(j':Int)→j'<j→has m j'=false):=by
 obtain⟨p,hp⟩: ∃p:Nat,i+1=(p:Int):=⟨(i+1).toNat,by omega⟩
 have e1:w64 (imax i (-1)+1)=(p:Int):=by
  have:imax i (-1)=i:=by
   unfold imax;by_cases h: -1>i
   ·omega
   rw[if_neg h]
  rw[this,hp,w64,wrap64]<;>omega
 have e2:w64 ((p:Int).tdiv 64)=((p/64:Nat):Int):=by
  have:(p:Int).tdiv 64=((p/64:Nat):Int):=by rw[Int.tdiv_eq_ediv_of_nonneg Om];omega
  rw[this,w64,wrap64]<;>omega
 have e3:w64 ((p:Int).tmod 64)=((p %64:Nat):Int)∧(p:Int).tmod 64=((p %64:Nat):Int):=by
  have:(p:Int).tmod 64=((p %64:Nat):Int):=by rw[Int.tmod_eq_emod_of_nonneg Om];omega
  refine⟨?_,this⟩;rw[this,w64,wrap64]<;>omega
 have hml:m.length≤1024:=by rw[hm.len];omega
 unfold F_26;have hlt: ¬i≥(n:Int):=by omega
 simp only[F_182,bind,Option.bind_some,decide_eq_false hlt,Bool.false_eq_true,if_false,e1,e2]
 obtain⟨r,hr,hq⟩:=iterO_while (f:=fun s=>F_116 N (m,(n:Int)) i s) (fun s=> ∃k:Nat,s=(k:Int)∧p/64≤k∧k≤m.length+p/64∧ ∀j':Nat,p≤j'→j'<64*k→has m j'=false)
  (fun s=>m.length+p/64-s.toNat) (fun(r:Unit ⊕ Int)=>match r with
   | .inl _=> ∀j:Nat,i<(j:Int)→has m j=false
   | .inr z=> ∃j:Nat,z=(j:Int)∧i<(j:Int)∧has m j=true∧ ∀j':Nat,i<(j':Int)→j'<j→has m j'=false) (fun s hI=>by
   obtain⟨k,rfl,hk1,hk2,hk3⟩:=hI;unfold F_116;simp only[F_183,bind,Option.bind_some,e1,e2];by_cases hkl:k<m.length
   ·have hw:=hm.rng _ (List.getElem_mem hkl);obtain⟨a,ha⟩: ∃a:Nat,m[k]=(a:Int):=⟨m[k].toNat,by omega⟩;have hx:m[k]? =some (a:Int):=by rw[List.getElem?_eq_getElem hkl,ha]
    have ha':a<18446744073709551616:=by omega
    have hhas: ∀c,c<64→has m (64*k+c)=a.testBit c:=fun c hc=>by
     have q1:(64*k+c)/64=k:=by omega
     have q2:(64*k+c) %64=c:=by omega
     simp[has,q1,q2,List.getD,hx]
    obtain⟨b,hb,hb2,hbt⟩: ∃b:Nat,(if((k:Int)==((p/64:Nat):Int))=true then(nn ((p:Int).tmod 64) >>= fun _=>nn ((p:Int).tmod 64) >>= fun _=>some (shlI .u64 (shrI .u64 (a:Int) ((p:Int).tmod 64)) ((p:Int).tmod 64)))else some (a:Int))=some (b:Int)∧b<18446744073709551616∧
     ∀c,c<64→b.testBit c=(decide (p≤64*k+c)&&a.testBit c):=by
     by_cases hk0:k=p/64
     ·have q:((k:Int)==((p/64:Nat):Int))=true:=by simp[hk0]
      have hnn:nn ((p %64:Nat):Int)=some ():=by unfold nn;rw[if_pos Om]
      have hle:a/2^(p %64)*2^(p %64)≤a:=Nat.div_mul_le_self _ _;refine⟨a/2^(p %64)*2^(p %64),?_,by omega,fun c hc=>?_⟩
      ·rw[if_pos q,e3.2,hnn,shr_u64 Om];simp only[bind,Option.bind_some,shlI,IntKind.bits,Int.toNat_natCast,Nat.min_eq_left (show p %64≤64 by omega)];have e4:(((a/2^(p %64):Nat):Int)*2^(p %64))=((a/2^(p %64)*2^(p %64):Nat):Int):=by push_cast;rfl
       rw[e4,wrapN Om]
      rw[Nat.testBit_mul_two_pow,Nat.testBit_div_two_pow];by_cases hc2:p %64≤c
      ·have q3:p %64+(c-p %64)=c:=by omega
       have q4:p≤64*k+c:=by omega
       rw[show c-p %64+p %64=c by omega];simp[hc2,q4]
      have q4: ¬p≤64*k+c:=by omega
      simp[hc2,q4]
     have q:((k:Int)==((p/64:Nat):Int))=false:=by simp;omega
     refine⟨a,by rw[q];rfl,ha',fun c hc=>?_⟩;have q4:p≤64*k+c:=by omega
     simp[q4]
    simp only[show((k:Int)<(m.length:Int)) by omega,decide_true,if_true,idx_of hx,Option.bind_some];simp only[bind]at hb;rw[hb];simp only[Option.bind_some];by_cases hb0:b=0
    ·left;subst hb0;refine⟨((k+1:Nat):Int),?_,⟨k+1,rfl,by omega,by omega,fun j' h3 h4=>?_⟩,by simp;omega⟩
     ·simp only[show((((0:Nat):Int)) != 0)=false from rfl,Bool.false_eq_true,if_false,Option.bind_some];rw[w64_succ Om]
     by_cases hj:j'<64*k
     ·exact hk3 j' h3 hj
     obtain⟨c,rfl⟩: ∃c,j'=64*k+c:=⟨j'-64*k,by omega⟩;have:=hbt c Om;rw[Nat.zero_testBit]at this;rw[hhas c Om];have q4:decide (p≤64*k+c)=true:=by simp;omega
     rw[q4]at this;simpa using this.symm
    right;obtain⟨c,hc1,hc2⟩:=low_bit hb0
    have hc:c<64:=by
     apply Nat.lt_of_not_le;intro h
     have:=Nat.testBit_lt_two_pow (x:=b) (i:=c) (Nat.lt_of_lt_of_le hb2 (by
      have:=Nat.pow_le_pow_right (n:=2) Om h;have e:(2:Nat)^64=18446744073709551616:=by decide
      omega))
     rw[this]at hc1;cases hc1
    have hbc:=hbt c hc;rw[hc1]at hbc;have hbc':=(Bool.and_eq_true _ _).mp hbc.symm;have hpc:p≤64*k+c:=by simpa using hbc'.1
    refine⟨.inr (((64*k+c:Nat)):Int),?_,64*k+c,rfl,by omega,by rw[hhas c hc];exact hbc'.2,fun j' h3 h4=>?_⟩
    ·have q5:(((b:Nat):Int) != 0)=true:=by simp;omega
     have e5:w64 (64*(k:Int))=((64*k:Nat):Int):=by rw[w64,wrap64]<;>omega
     have e6:w64 (((64*k:Nat):Int)+(c:Int))=((64*k+c:Nat):Int):=by rw[w64,wrap64]<;>omega
     simp only[q5,if_true,tz_spec (N:=N) hb2 hc1 hc2 hc,Option.bind_some,e5,e6]
    by_cases hj:j'<64*k
    ·exact hk3 j' Om hj
    obtain⟨c',rfl⟩: ∃c',j'=64*k+c':=⟨j'-64*k,by omega⟩;have:=hbt c' Om;rw[hc2 c' Om]at this;rw[hhas c' Om];have q4:decide (p≤64*k+c')=true:=by simp;omega
    rw[q4]at this;simpa using this.symm
   right;refine⟨.inl (),by simp[show¬((k:Int)<(m.length:Int)) by omega],fun j hj=>?_⟩;by_cases hj2:j<64*k
   ·exact hk3 j Om hj2
   exact has_big Om)
  (N:=N) (s:=((p/64:Nat):Int)) ⟨p/64,rfl,by omega,by omega,fun j' h3 h4=>by omega⟩ (by simp;omega)
 rw[hr]
 cases r with
 |inl u=>exact⟨-1,rfl,.inl ⟨rfl,hq⟩⟩
 |inr z=>exact⟨z,rfl,.inr hq⟩
theorem lst_succ(f:Nat→Bool)(n:Nat):lst f (n+1)=if f n then lst f n++ [(n:Int)]else lst f n:=by
 unfold lst;rw[List.range_succ,List.filter_append,List.map_append];cases hf:f n<;>simp[hf]
theorem lst_len(f:Nat→Bool)(n:Nat):(lst f n).length≤n:=by
 unfold lst;rw[List.length_map];have:=List.length_filter_le f (List.range n);simpa using this
theorem lst_gap{f:Nat→Bool}{a:Nat}(ha:f a=true): ∀{b:Nat},a<b→(∀c,a<c→c<b→f c=false)→lst f b=lst f a++ [(a:Int)]
 |0,h,_=>by omega
 |b+1,h,hg=>by
   rw[lst_succ];by_cases hb:b=a
   ·subst hb;simp[ha]
   rw[hg b Om Om];simp only[Bool.false_eq_true,if_false];exact lst_gap ha Om fun c h1 h2=>hg c h1 Om
theorem lst_none{f:Nat→Bool}: ∀{n:Nat},(∀c,c<n→f c=false)→lst f n= []
 |0,_=>rfl
 |n+1,h=>by rw[lst_succ,h n Om];simpa using lst_none fun c hc=>h c Om
theorem lst_first{f:Nat→Bool}{a:Nat}(h: ∀c,c<a→f c=false):lst f a= []:=lst_none h
theorem list_spec{N n:Nat}{m:LI}(hN:4294967296≤N)(hm:MkR n m)(hn:n≤65536)(h0:0<n)(hb: ∀j,n≤j→has m j=false):F_40 N (m,(n:Int))=some (lst (has m) n):=by
 unfold F_40;obtain⟨r0,e0,q0⟩:=after_spec (i:= -1) hN hm hn Om Om;simp only[e0,bind,Option.bind_some]
 obtain⟨r,hr,hq⟩:=iterO_while (f:=fun s=>F_93 N (m,(n:Int)) s.1 s.2) (fun s=>(s.2= -1∧s.1=lst (has m) n)∨ ∃j:Nat,s.2=(j:Int)∧j<n∧has m j=true∧s.1=lst (has m) j)
  (fun s=>if s.2<0 then 0 else n-s.2.toNat) (fun r=>r=lst (has m) n) (fun s hI=>by
   obtain⟨out,cur⟩:=s;simp only at hI ⊢;unfold F_93;rcases hI with⟨rfl,rfl⟩|⟨j,rfl,hj,hhj,rfl⟩
   ·right;exact⟨_,by simp,rfl⟩
   left;have hlen:=lst_len (has m) j;obtain⟨r,e1,q1⟩:=after_spec (i:=(j:Int)) hN hm hn Om Om;refine⟨(lst (has m) j++ [(j:Int)],r),?_,?_,?_⟩
   ·simp only[show((j:Int)≥0) by omega,decide_true,if_true,bind];rw[app_eq (by simp;omega)];simp only[Option.bind_some,e1]
   ·rcases q1 with⟨rfl,h2⟩|⟨j',rfl,h2,h3,h4⟩
    ·exact .inl ⟨rfl,(lst_gap hhj hj fun c h5 h6=>h2 c Om).symm⟩
    have hjn:j'<n:=by
     apply Nat.lt_of_not_le;intro h;rw[hb j' h]at h3;cases h3
    exact .inr ⟨j',rfl,hjn,h3,(lst_gap hhj Om fun c h5 h6=>h4 c Om h6).symm⟩
   rcases q1 with⟨rfl,h2⟩|⟨j',rfl,h2,h3,h4⟩
   ·simp only[show((-1:Int)<0) by decide,if_true,show¬((j:Int)<0) by omega,if_false];omega
   simp only[show¬((j:Int)<0) by omega,show¬((j':Int)<0) by omega,if_false];omega)
  (N:=N) (s:=([],r0)) (by
   rcases q0 with⟨rfl,h2⟩|⟨j',rfl,h2,h3,h4⟩
   ·exact .inl ⟨rfl,(lst_none fun c hc=>h2 c Om).symm⟩
   have hjn:j'<n:=by
    apply Nat.lt_of_not_le;intro h;rw[hb j' h]at h3;cases h3
   exact .inr ⟨j',rfl,hjn,h3,(lst_first fun c hc=>h4 c Om hc).symm⟩) (by simp only;split<;>omega)
 rw[show iterO N (fun s=>F_93 N (m,(n:Int)) s.1 s.2) ([],r0)=_ from hr,hq];rfl
def hasB(s:Int×Int×Int×Int)(c:Int):Bool:=(F_75 0 s.1 s.2.1 s.2.2.1 s.2.2.2 c).getD false
theorem hasB_spec{a b c d x:Int}(h0:0≤x)(h1:x<256):F_75 N a b c d x=some (hasB (a,b,c,d) x):=by
 have e:F_75 N a b c d x=F_75 0 a b c d x:=rfl;rw[e];show _=some ((F_75 0 a b c d x).getD false);obtain⟨k,rfl⟩: ∃k:Nat,x=(k:Int):=⟨x.toNat,by omega⟩;have e1:((k:Int)).tdiv 64=((k/64:Nat):Int):=by rw[Int.tdiv_eq_ediv_of_nonneg Om];omega
 have e2:((k:Int)).tmod 64=((k %64:Nat):Int):=by rw[Int.tmod_eq_emod_of_nonneg Om];omega
 have e3:nn ((k %64:Nat):Int)=some ():=by unfold nn;rw[if_pos Om]
 unfold F_75;rw[e1,e2,e3];have hk:k/64<4:=by omega
 generalize k/64=q at hk ⊢
 match q,hk with
 |0,_=>rfl
 |1,_=>rfl
 |2,_=>rfl
 |3,_=>rfl
section
variable {N b:Nat}
theorem after_has{σ τ:Type}{f:σ→Option (σ ⊕ τ)}{m:LI}(hN:4294967296≤N)(hm:MkR b m)(hb:b≤65536)(h0:0<b)(hh: ∀j,b≤j→has m j=false)(cur:σ→Int)(I:Nat→σ→Prop)(Q:τ→Prop)
 (hst: ∀(s:σ) (j:Nat) (r:Int),cur s=(j:Int)→j<b→has m j=true→I j s→F_26 N (m,(b:Int)) (j:Int)=some r→ ∃s',f s=some (.inl s')∧cur s'=r∧I (j+1) s')
 (hup: ∀(s:σ) (j k:Nat),I j s→j≤k→(∀i,j≤i→i<k→has m i=false)→I k s)
 (hex: ∀s:σ,cur s= -1→I b s→ ∃r,f s=some (.inr r)∧Q r):
 ∃r0,F_26 N (m,(b:Int)) (-1)=some r0∧ ∀s,cur s=r0→I 0 s→ ∃r,iterO N f s=some r∧Q r:=by
 obtain⟨r0,e0,q0⟩:=after_spec (i:= -1) hN hm hb Om Om;refine⟨r0,e0,fun s hc hI0=>?_⟩
 have lt: ∀{j},has m j=true→j<b:=fun{j} h=>by
  apply Nat.lt_of_not_le;intro hle;rw[hh j hle]at h;cases h
 refine iterO_while (f:=f) (fun s=>(∃j:Nat,cur s=(j:Int)∧j<b∧has m j=true∧I j s)∨(cur s= -1∧I b s)) (fun s=>if cur s<0 then 0 else b-(cur s).toNat) Q (fun s hI=>?_) ?_ ?_
 ·rcases hI with⟨j,hj,hjb,hhj,hIj⟩|⟨h1,h2⟩
  ·left;obtain⟨r,e1,q1⟩:=after_spec (i:=(j:Int)) hN hm hb Om Om;obtain⟨s',g1,g2,g3⟩:=hst s j r hj hjb hhj hIj e1;refine⟨s',g1,?_,?_⟩
   ·rcases q1 with⟨rfl,h2⟩|⟨k,rfl,h2,h3,h4⟩
    ·exact .inr ⟨g2,hup _ _ _ g3 Om fun i h5 h6=>h2 i Om⟩
    exact .inl ⟨k,g2,lt h3,h3,hup _ _ _ g3 Om fun i h5 h6=>h4 i Om h6⟩
   rw[g2,hj];rcases q1 with⟨rfl,h2⟩|⟨k,rfl,h2,h3,h4⟩
   ·simp only[show((-1:Int)<0) by decide,if_true,show¬((j:Int)<0) by omega,if_false];omega
   have:=lt h3;simp only[show¬((j:Int)<0) by omega,show¬((k:Int)<0) by omega,if_false];omega
  exact .inr (hex s h1 h2)
 ·rcases q0 with⟨rfl,h2⟩|⟨k,rfl,h2,h3,h4⟩
  ·exact .inr ⟨hc,hup _ _ _ hI0 Om fun i _ _=>h2 i Om⟩
  exact .inl ⟨k,hc,lt h3,h3,hup _ _ _ hI0 Om fun i _ h6=>h4 i Om h6⟩
 split<;>omega
structure MS(b:Nat)(p:LI×Int)(S:Nat→Prop):Prop where
 e:p.2=(b:Int)
 r:MkR b p.1
 h: ∀j,has p.1 j=true↔S j
 lt: ∀j,S j→j<b
theorem MS.congr{p:LI×Int}{S T:Nat→Prop}(h:MS b p S)(hT: ∀j,S j↔T j):MS b p T:=
 ⟨h.e,h.r,fun j=>(h.h j).trans (hT j),fun j hj=>h.lt j ((hT j).2 hj)⟩
theorem MS.big{p:LI×Int}{S:Nat→Prop}(h:MS b p S): ∀j,b≤j→has p.1 j=false:=fun j hj=>by
 cases hh:has p.1 j with
 |false=>rfl
 |true=>
   have:=h.lt j ((h.h j).1 hh);omega
theorem none_spec{t:LI}(ht:t.length≤5000): ∃m,F_80 N t=some (m,((t.length+1:Nat):Int))∧MS (t.length+1) (m,((t.length+1:Nat):Int)) (fun _=>False):=by
 obtain⟨m,h1,h2,h3⟩:=new_spec (N:=N) (n:=t.length+1) Om;refine⟨m,?_,rfl,h2,fun j=>by simp[h3],fun j h=>h.elim⟩;unfold F_80;rw[w64_succ Om,h1];rfl
theorem MS.put{m:LI}{i:Nat}{S:Nat→Prop}(h:MS b (m,(b:Int)) S)(hi:i<b)(hb:b≤65536):
 ∃m',F_78 N m (b:Int) (i:Int)=some (m', !has m i)∧MS b (m',(b:Int)) (fun j=>S j∨j=i):=by
 obtain⟨m',h1,h2,h3,_⟩:=put_spec (N:=N) h.r hi hb;refine⟨m',h1,rfl,h2,fun j=>?_,fun j hj=>?_⟩
 ·show has m' j=true↔_;rw[h3];have:=h.h j;simp only at this;simp[this]
 rcases hj with hj|rfl
 ·exact h.lt j hj
 exact hi
theorem or_spec{m:LI}{o:LI×Int}{A B:Nat→Prop}(hN:4294967296≤N)(hb:b≤65536)(h0:0<b)(hA:MS b (m,(b:Int)) A)(hB:MS b o B):
 ∃m' fr,F_30 N m (b:Int) o=some (m',fr)∧MS b (m',(b:Int)) (fun j=>A j∨B j)∧(fr=true↔ ∃j,B j∧ ¬A j):=by
 obtain⟨o,ob⟩:=o;obtain rfl:ob=(b:Int):=hB.e;have hBr:MkR b o:=hB.r;have hBh: ∀j,has o j=true↔B j:=hB.h
 obtain⟨r0,e0,q⟩:=after_has (N:=N) (b:=b) (m:=o) (f:=fun s=>F_58 N (b:Int) (o,(b:Int)) s.1 s.2.1 s.2.2) hN hBr hb h0 hB.big (fun s=>s.2.2)
  (fun k s=>MS b (s.1,(b:Int)) (fun j=>A j∨(j<k∧B j))∧(s.2.1=true↔ ∃j,j<k∧B j∧ ¬A j))
  (fun r=>MS b (r.1,(b:Int)) (fun j=>A j∨B j)∧(r.2=true↔ ∃j,B j∧ ¬A j))
  (fun s j r hc hj hhj hI e1=>by
   obtain⟨a,fr,c⟩:=s;obtain⟨h1,h2⟩:=hI;try simp only at hc h1 h2
   subst hc;obtain⟨m',p1,p2⟩:=h1.put (N:=N) hj hb;have hBj:=(hBh j).1 hhj
   have haj:has a j=true↔A j:=by
    have:=h1.h j;simp only at this;rw[this];constructor
    ·rintro(h|⟨h,_⟩)
     ·exact h
     omega
    exact .inl
   show∃s',F_58 N (b:Int) (o,(b:Int)) a fr (j:Int)=some (.inl s')∧_;refine⟨(m',(if(!has a j)=true then true else fr),r),?_,rfl,p2.congr fun i=>?_,?_⟩
   ·unfold F_58;rw[if_pos Sm];simp only[bind,p1,e1,Option.bind_some];cases has a j<;>rfl
   ·try simp only
    constructor
    ·rintro((h|⟨h,h3⟩)|rfl)
     ·exact .inl h
     ·exact .inr ⟨by omega,h3⟩
     exact .inr ⟨by omega,hBj⟩
    rintro(h|⟨h,h3⟩)
    ·exact .inl (.inl h)
    by_cases hij:i=j
    ·exact .inr hij
    exact .inl (.inr ⟨by omega,h3⟩)
   show(if(!has a j)=true then true else fr)=true↔_
   cases hx:has a j with
   |true=>
     rw[hx]at haj;have hAj:=haj.1 rfl;simp only[Bool.not_true,Bool.false_eq_true,if_false];rw[h2];constructor
     ·rintro⟨i,h3,h4,h5⟩;exact⟨i,by omega,h4,h5⟩
     rintro⟨i,h3,h4,h5⟩;refine⟨i,?_,h4,h5⟩;by_cases hij:i=j
     ·subst hij;exact(h5 hAj).elim
     omega
   |false=>
     rw[hx]at haj;simp only[Bool.not_false,if_true,true_iff];exact⟨j,by omega,hBj,fun h=>by have:=haj.2 h;cases this⟩)
  (fun s j k hI hjk hg=>⟨hI.1.congr fun i=>by
   try simp only
   constructor
   ·rintro(h|⟨h,h3⟩)
    ·exact .inl h
    exact .inr ⟨by omega,h3⟩
   ·rintro(h|⟨h,h3⟩)
    ·exact .inl h
    by_cases hij:i<j
    ·exact .inr ⟨hij,h3⟩
    have:=hg i Om h;rw[(hBh i).2 h3]at this
    exact Bool.noConfusion this,by
   rw[hI.2];constructor
   ·rintro⟨i,h3,h4⟩;exact⟨i,by omega,h4⟩
   rintro⟨i,h3,h4,h5⟩;by_cases hij:i<j
   ·exact⟨i,hij,h4,h5⟩
   have:=hg i Om h3;rw[(hBh i).2 h4]at this;cases this⟩)
  (fun s hc hI=>by
   obtain⟨a,fr,c⟩:=s;try simp only at hc hI
   subst hc;refine⟨(a,fr),?_,hI.1.congr fun i=>?_,?_⟩
   ·show F_58 N (b:Int) (o,(b:Int)) a fr (-1)=_;unfold F_58;simp
   ·try simp only
    constructor
    ·rintro(h|⟨h,h3⟩)
     ·exact .inl h
     exact .inr h3
    rintro(h|h)
    ·exact .inl h
    exact .inr ⟨hB.lt i h,h⟩
   show fr=true↔_;rw[hI.2];constructor
   ·rintro⟨i,h3,h4⟩;exact⟨i,h4⟩
   rintro⟨i,h4,h5⟩;exact⟨i,hB.lt i h4,h4,h5⟩)
 obtain⟨⟨m',fr⟩,e1,e2,e3⟩:=q (m,false,r0) rfl ⟨hA.congr fun j=>by simp,by simp⟩;refine⟨m',fr,?_,e2,e3⟩;unfold F_30;rw[e0];simp only[bind,Option.bind_some];rw[show iterO N (fun s=>F_58 N (b:Int) (o,(b:Int)) s.1 s.2.1 s.2.2) (m,false,r0)=_ from e1];rfl
theorem mcopy_spec{p:LI×Int}{S:Nat→Prop}(hb:b≤65536)(h:MS b p S):F_143 N p=some p:=by
 unfold F_143 F_178;have:=h.r.len;rw[app_eq (by simp;omega)];rfl
theorem bytes_spec{t:LI}(hN:4294967296≤N)(ht:t.length≤5000)(htb: ∀x∈t,0≤x∧x<256){p:LI×Int}{S:Nat→Prop}(h:MS (t.length+1) p S)(k a1 a2 a3 a4:Int)(ks:List Nd)(mn mx:Int)(tx:BA):
 ∃q,F_33 N t k a1 a2 a3 a4 ks mn mx tx p=some q∧MS (t.length+1) q (fun j=> ∃i,S i∧j=i+1∧ ∃c,t[i]? =some c∧hasB (a1,a2,a3,a4) c=true):=by
 obtain⟨p,pb⟩:=p;obtain rfl:pb=((t.length+1:Nat):Int):=h.e;have hr:MkR (t.length+1) p:=h.r;have hh: ∀j,has p j=true↔S j:=h.h;obtain⟨m0,n1,n2⟩:=none_spec (N:=N) ht
 obtain⟨r0,e0,q⟩:=after_has (N:=N) (b:=t.length+1) (m:=p) (f:=fun s=>F_61 N t a1 a2 a3 a4 (p,((t.length+1:Nat):Int)) ((t.length+1:Nat):Int) s.1 s.2) hN hr Om Om h.big (fun s=>s.2)
  (fun k s=>MS (t.length+1) (s.1,((t.length+1:Nat):Int)) (fun j=> ∃i,i<k∧S i∧j=i+1∧ ∃c,t[i]? =some c∧hasB (a1,a2,a3,a4) c=true))
  (fun r=>MS (t.length+1) (r,((t.length+1:Nat):Int)) (fun j=> ∃i,S i∧j=i+1∧ ∃c,t[i]? =some c∧hasB (a1,a2,a3,a4) c=true))
  (fun s j r hc hj hhj hI e1=>by
   obtain⟨a,c⟩:=s;try simp only at hc hI
   subst hc;have hSj:=(hh j).1 hhj;show∃s',F_61 N t a1 a2 a3 a4 (p,((t.length+1:Nat):Int)) ((t.length+1:Nat):Int) a (j:Int)=some (.inl s')∧_;unfold F_61;rw[if_pos Sm];by_cases hjl:j<t.length
   ·have hx:t[j]? =some t[j]:=List.getElem?_eq_getElem hjl;have hxb:=htb t[j] (List.getElem_mem hjl);generalize t[j]=x at hx hxb;rw[if_pos (by simpa using hjl),idx_of hx];simp only[bind,Option.bind_some];rw[hasB_spec hxb.1 hxb.2];simp only[Option.bind_some]
    cases hB:hasB (a1,a2,a3,a4) x with
    |true=>
      obtain⟨m',p1,p2⟩:=hI.put (N:=N) (i:=j+1) Om Om;rw[if_pos rfl,w64_succ Om,p1];simp only[Option.bind_some];rw[e1];refine⟨(m',r),rfl,rfl,p2.congr fun i=>?_⟩;try simp only
      constructor
      ·rintro(⟨y,h1,h2⟩|rfl)
       ·exact⟨y,by omega,h2⟩
       exact⟨j,by omega,hSj,rfl,x,hx,hB⟩
      rintro⟨y,h1,h2,h3,h4⟩;by_cases hyj:y=j
      ·exact .inr (by rw[h3,hyj])
      exact .inl ⟨y,by omega,h2,h3,h4⟩
    |false=>
      rw[if_neg Bool.false_ne_true];simp only[Option.bind_some];rw[e1];refine⟨(a,r),rfl,rfl,hI.congr fun i=>?_⟩;try simp only
      constructor
      ·rintro⟨y,h1,h2⟩;exact⟨y,by omega,h2⟩
      rintro⟨y,h1,h2,h3,z,h4,h5⟩;refine⟨y,?_,h2,h3,z,h4,h5⟩;by_cases hyj:y=j
      ·subst hyj;rw[hx]at h4;have h4:=oi h4;subst h4;rw[hB]at h5;cases h5
      omega
   rw[if_neg (by simp;omega)];simp only[bind,Option.bind_some,Bool.false_eq_true,if_false];rw[e1];refine⟨(a,r),rfl,rfl,hI.congr fun i=>?_⟩;try simp only
   constructor
   ·rintro⟨y,h1,h2⟩;exact⟨y,by omega,h2⟩
   rintro⟨y,h1,h2,h3,z,h4,h5⟩;have:=lt_len h4;exact⟨y,by omega,h2,h3,z,h4,h5⟩)
  (fun s j k hI hjk hg=>hI.congr fun i=>by
   try simp only
   constructor
   ·rintro⟨y,h1,h2⟩;exact⟨y,by omega,h2⟩
   rintro⟨y,h1,h2,h3⟩;refine⟨y,?_,h2,h3⟩;by_cases hyj:y<j
   ·exact hyj
   have:=hg y Om h1;rw[(hh y).2 h2]at this;cases this)
  (fun s hc hI=>by
   obtain⟨a,c⟩:=s;try simp only at hc hI
   subst hc;refine⟨a,?_,hI.congr fun i=>?_⟩
   ·show F_61 N t a1 a2 a3 a4 (p,((t.length+1:Nat):Int)) ((t.length+1:Nat):Int) a (-1)=_;unfold F_61;simp
   try simp only
   constructor
   ·rintro⟨y,h1,h2⟩;exact⟨y,h2⟩
   rintro⟨y,h2⟩;exact⟨y,h.lt y h2.1,h2⟩)
 obtain⟨m',e1,e2⟩:=q (m0,r0) rfl (n2.congr fun j=>by simp);refine⟨(m',((t.length+1:Nat):Int)),?_,e2⟩;unfold F_33;rw[n1];simp only[bind,Option.bind_some];rw[e0];simp only[Option.bind_some];rw[show iterO N (fun s=>F_61 N t a1 a2 a3 a4 (p,((t.length+1:Nat):Int)) ((t.length+1:Nat):Int) s.1 s.2) (m0,r0)=_ from e1];rfl
end
theorem Mt_iff{B:(Int×Int×Int×Int)→Int→Bool}{t:LI}(n:Nd)(i j:Nat):Mt B t n i j↔(kn n=1∧j=i+1∧ ∃c,t[i]? =some c∧B n.un.2.1 c=true)∨(kn n=2∧MtC B t (kd n) i j)∨(kn n=3∧MtA B t (kd n) i j)∨(kn n=4∧ ∃r:Nat,lo n≤r∧(hi n= -1∨(r:Int)≤hi n)∧Pw (MtO B t (kd n)) r i j):=by
 cases n;rw[Mt];rfl
theorem MtO_one{B:(Int×Int×Int×Int)→Int→Bool}{t:LI}(x:Nd):MtO B t [x]=Mt B t x:=by
 funext i j;rw[MtO]
def ES(N:Nat)(t:LI)(n:Nd):Prop:= ∀(p:LI×Int) (S:Nat→Prop),MS (t.length+1) p S→ ∃q,
 F_8 N t n.un.1 n.un.2.1.1 n.un.2.1.2.1 n.un.2.1.2.2.1 n.un.2.1.2.2.2 n.un.2.2.1 n.un.2.2.2.1 n.un.2.2.2.2.1 n.un.2.2.2.2.2 p=some q∧MS (t.length+1) q (fun j=> ∃i,S i∧Mt hasB t n i j)
section
variable {M:Nat}{t:LI}
theorem ends_cat{ks:List Nd}(hk: ∀x∈ks,ES M t x)(hl:ks.length<100000): ∀(r i K:Nat) (p:LI×Int) (S:Nat→Prop),i+r=ks.length→r<K→MS (t.length+1) p S→ ∃q,
 iterO K (fun s=>F_69 M (F_8 M) t ks s.1 s.2) (p,(i:Int))=some q∧MS (t.length+1) q (fun j=> ∃s,S s∧MtC hasB t (ks.drop i) s j):=by
 intro r
 induction r with
 |zero=>
   intro i K p S hi hK hS;obtain⟨K,rfl⟩: ∃m,K=m+1:=⟨K-1,by omega⟩;refine⟨p,?_,hS.congr fun j=>?_⟩
   ·simp only[iterO,F_69];rw[if_neg (by simp;omega)]
   rw[List.drop_eq_nil_of_le Om];simp only[MtC];exact⟨fun h=>⟨j,h,rfl⟩,fun⟨s,h,e⟩=>e▸h⟩
 |succ r ih=>
   intro i K p S hi hK hS;obtain⟨K,rfl⟩: ∃m,K=m+1:=⟨K-1,by omega⟩;have hlt:i<ks.length:=by omega
   have hx:ks[i]? =some ks[i]:=List.getElem?_eq_getElem hlt;rw[List.drop_eq_getElem_cons hlt];generalize ks[i]=x at hx;obtain⟨q1,e1,h1⟩:=hk x (List.mem_of_getElem? hx) p S hS;obtain⟨q2,e2,h2⟩:=ih (i+1) K q1 _ Om Om h1
   have s1:F_69 M (F_8 M) t ks p (i:Int)=some (.inl (q1,((i+1:Nat):Int))):=by
    unfold F_69;rw[if_pos (by simpa using hlt),idx_of hx];simp only[bind,Option.bind_some];rw[e1,w64_succ Om];rfl
   refine⟨q2,by simp only[iterO,s1];exact e2,h2.congr fun j=>?_⟩;constructor
   ·rintro⟨m,⟨s,g1,g2⟩,g3⟩;exact⟨s,g1,by rw[MtC];exact⟨m,g2,g3⟩⟩
   rintro⟨s,g1,g2⟩;rw[MtC]at g2;obtain⟨m,g3,g4⟩:=g2;exact⟨m,⟨s,g1,g3⟩,g4⟩
theorem ends_alt{ks:List Nd}(hk: ∀x∈ks,ES M t x)(hl:ks.length<100000)(hM:4294967296≤M)(ht:t.length≤5000){p:LI×Int}{S:Nat→Prop}(hS:MS (t.length+1) p S): ∀(r i K:Nat) (m:LI) (A:Nat→Prop),i+r=ks.length→r<K→MS (t.length+1) (m,((t.length+1:Nat):Int)) A→ ∃m',
 iterO K (fun s=>F_70 M (F_8 M) t ks p ((t.length+1:Nat):Int) s.1 s.2) ((i:Int),m)=some m'∧MS (t.length+1) (m',((t.length+1:Nat):Int)) (fun j=>A j∨ ∃s,S s∧MtA hasB t (ks.drop i) s j):=by
 intro r
 induction r with
 |zero=>
   intro i K m A hi hK hA;obtain⟨K,rfl⟩: ∃m,K=m+1:=⟨K-1,by omega⟩;refine⟨m,?_,hA.congr fun j=>?_⟩
   ·simp only[iterO,F_70];rw[if_neg (by simp;omega)]
   rw[List.drop_eq_nil_of_le Om];simp only[MtA];simp
 |succ r ih=>
   intro i K m A hi hK hA;obtain⟨K,rfl⟩: ∃m,K=m+1:=⟨K-1,by omega⟩;have hlt:i<ks.length:=by omega
   have hx:ks[i]? =some ks[i]:=List.getElem?_eq_getElem hlt;rw[List.drop_eq_getElem_cons hlt];generalize ks[i]=x at hx;obtain⟨q1,e1,h1⟩:=hk x (List.mem_of_getElem? hx) p S hS;obtain⟨m1,fr,e3,h3,_⟩:=or_spec hM Om Om hA h1;obtain⟨m2,e2,h2⟩:=ih (i+1) K m1 _ Om Om h3
   have s1:F_70 M (F_8 M) t ks p ((t.length+1:Nat):Int) (i:Int) m=some (.inl (((i+1:Nat):Int),m1)):=by
    unfold F_70;rw[if_pos (by simpa using hlt),idx_of hx];simp only[bind,Option.bind_some];rw[e1];simp only[Option.bind_some];rw[e3,w64_succ Om];rfl
   refine⟨m2,by simp only[iterO,s1];exact e2,h2.congr fun j=>?_⟩;constructor
   ·rintro((g|⟨s,g1,g2⟩)|⟨s,g1,g2⟩)
    ·exact .inl g
    ·exact .inr ⟨s,g1,by rw[MtA];exact .inl g2⟩
    exact .inr ⟨s,g1,by rw[MtA];exact .inr g2⟩
   rintro(g|⟨s,g1,g2⟩)
   ·exact .inl (.inl g)
   rw[MtA]at g2;rcases g2 with g2|g2
   ·exact .inl (.inr ⟨s,g1,g2⟩)
   exact .inr ⟨s,g1,g2⟩
def starB(n:Nd):Bool:=kn n==4&&(lo n==0&&hi n== -1)
theorem star_code(N:Nat)(n:Nd):F_117 N n.un.1 n.un.2.1.1 n.un.2.1.2.1 n.un.2.1.2.2.1 n.un.2.1.2.2.2 n.un.2.2.1 n.un.2.2.2.1 n.un.2.2.2.2.1 n.un.2.2.2.2.2=some (starB n):=by
 unfold F_117 starB;show((if(kn n==4)=true then(if(lo n==0)=true then some (hi n== -1)else some false)else some false) >>= fun x=>some x)=_;cases kn n==4<;>cases lo n==0<;>rfl
abbrev unT(n:Nd):Int×Int×Int×Int×Int×List Nd×Int×Int×BA:=(n.un.1,n.un.2.1.1,n.un.2.1.2.1,n.un.2.1.2.2.1,n.un.2.1.2.2.2,n.un.2.2.1,n.un.2.2.2.1,n.un.2.2.2.2.1,n.un.2.2.2.2.2)
theorem starB_iff{n:Nd}:starB n=true↔kn n=4∧lo n=0∧hi n= -1:=by
 unfold starB;simp
theorem Mt_star{n x:Nd}(h:starB n=true)(hx:kd n= [x]){i j:Nat}:Mt hasB t n i j↔ ∃r,Pw (Mt hasB t x) r i j:=by
 obtain⟨h1,h2,h3⟩:=starB_iff.1 h;rw[Mt_iff,h1,h2,h3,hx,MtO_one];constructor
 ·rintro(⟨h,_⟩|⟨h,_⟩|⟨h,_⟩|⟨_,r,_,_,h⟩)
  ·exact absurd h (by decide)
  ·exact absurd h (by decide)
  ·exact absurd h (by decide)
  exact⟨r,h⟩
 rintro⟨r,h⟩;exact .inr (.inr (.inr ⟨rfl,r,by omega,.inl rfl,h⟩))
theorem rep_kid{lv:Nat}{n:Nd}(h:RT lv n)(h4:kn n=4): ∃x,kd n= [x]∧0≤lo n∧lo n≤40∧(hi n= -1∨(lo n≤hi n∧hi n≤40)):=by
 rcases ok_kind h.node.2 with⟨k,_⟩|k|⟨k,_⟩|⟨_,n4,a,b,c⟩|⟨k,_⟩
 ·omega
 ·omega
 ·omega
 ·match hk:kd n,n4 with
  | [z],_=>exact⟨z,rfl,a,b,by rcases c with c|c;exact .inl c;exact .inr ⟨c.1,c.2.2⟩⟩
 omega
theorem again_strip(N:Nat): ∀(c:Nat) (n:Nd),cnt n=c→ ∀(K lv:Nat),c<K→RT lv n→kn n=4→ ∃n' lv',iterO K (fun s=>F_79 N s.1 s.2.1 s.2.2.1 s.2.2.2.1 s.2.2.2.2.1 s.2.2.2.2.2.1 s.2.2.2.2.2.2.1 s.2.2.2.2.2.2.2.1 s.2.2.2.2.2.2.2.2) (unT n)=some (unT n')∧
 RT lv' n'∧kn n'=4∧cnt n'≤c∧ ∀i j,Mt hasB t n i j↔Mt hasB t n' i j:=by
 intro c
 induction c using Nat.strongRecOn with
 |ind c IH=>
   intro n hc K lv hK hR h4;obtain⟨K,rfl⟩: ∃m,K=m+1:=⟨K-1,by omega⟩;obtain⟨x,hx,_⟩:=rep_kid hR h4;have i0:idx n.un.2.2.1 0=some x:=idx_of (i:=0) (by show(kd n)[0]? =some x;rw[hx];rfl);have hxm:x∈kd n:=by rw[hx];simp
   have hcx:=cnt_kid hxm;have hRx:=hR.kid hxm
   have st:F_79 N n.un.1 n.un.2.1.1 n.un.2.1.2.1 n.un.2.1.2.2.1 n.un.2.1.2.2.2 n.un.2.2.1 n.un.2.2.2.1 n.un.2.2.2.2.1 n.un.2.2.2.2.2=some (if(starB n&&starB x)=true then .inl (unT x)else .inr (unT n)):=by
    unfold F_79;rw[star_code];simp only[bind,Option.bind_some]
    cases hs:starB n with
    |false=>rfl
    |true=>
      rw[if_pos rfl,i0];simp only[Option.bind_some];rw[star_code];simp only[Option.bind_some];cases starB x<;>rfl
   cases hb:starB n&&starB x with
   |false=>
     refine⟨n,lv,?_,hR,h4,by omega,fun _ _=>Iff.rfl⟩;rw[hb,if_neg Bool.false_ne_true]at st;simp only[iterO];rw[st]
   |true=>
     rw[hb,if_pos rfl]at st;obtain⟨hn,hsx⟩:=(Bool.and_eq_true _ _).mp hb;have hx4:=(starB_iff.1 hsx).1;obtain⟨n',lv',g1,g2,g3,g4,g5⟩:=IH (cnt x) Om x rfl K (lv+1) Om hRx hx4;obtain⟨y,hy,_⟩:=rep_kid hRx hx4;refine⟨n',lv',?_,g2,g3,by omega,fun i j=>?_⟩
     ·simp only[iterO];rw[st];exact g1
     rw[←g5,Mt_star hn hx,Mt_star hsx hy]
     have e:Mt hasB t x=fun i j=> ∃r,Pw (Mt hasB t y) r i j:=by
      funext i j;exact propext (Mt_star hsx hy)
     rw[e];constructor
     ·rintro⟨r,h⟩;exact Pw.star h
     intro h;exact⟨1,j,h,rfl⟩
theorem again_min{ks:List Nd}{x:Nd}(hx:ks= [x])(hk:ES M t x){mn:Nat}(hm:mn≤40){p:LI×Int}{S:Nat→Prop}: ∀(r i K:Nat) (q:LI×Int),i+r=mn→r<K→MS (t.length+1) q (Tk (Mt hasB t x) S i)→ ∃q',
 iterO K (fun s=>F_67 M (F_8 M) t ks (mn:Int) s.1 s.2) ((i:Int),q)=some q'∧MS (t.length+1) q' (Tk (Mt hasB t x) S mn):=by
 have i0:idx ks 0=some x:=idx_of (i:=0) (by rw[hx];rfl);intro r
 induction r with
 |zero=>
   intro i K q hi hK hq;obtain⟨K,rfl⟩: ∃m,K=m+1:=⟨K-1,by omega⟩;obtain rfl:i=mn:=by omega
   refine⟨q,?_,hq⟩;simp only[iterO,F_67];rw[if_neg Sm]
 |succ r ih=>
   intro i K q hi hK hq;obtain⟨K,rfl⟩: ∃m,K=m+1:=⟨K-1,by omega⟩;obtain⟨q1,e1,h1⟩:=hk q _ hq;obtain⟨q2,e2,h2⟩:=ih (i+1) K q1 Om Om (h1.congr fun j=>Tk.succ.symm)
   have s1:F_67 M (F_8 M) t ks (mn:Int) (i:Int) q=some (.inl (((i+1:Nat):Int),q1)):=by
    unfold F_67;rw[if_pos (by simp;omega),i0];simp only[bind,Option.bind_some];rw[e1,w64_succ Om];rfl
   exact⟨q2,by simp only[iterO,s1];exact e2,h2⟩
theorem lst_mono{f g:Nat→Bool}(h: ∀j,f j=true→g j=true): ∀n,(lst f n).length≤(lst g n).length
 |0=>Nat.le_refl _
 |n+1=>by
   have:=lst_mono h n;rw[lst_succ,lst_succ]
   cases hf:f n with
   |false=>
     simp only[Bool.false_eq_true,if_false];split<;>simp<;>omega
   |true=>
     rw[h n hf];simp only[if_true,List.length_append,List.length_cons,List.length_nil];omega
theorem lst_more{f g:Nat→Bool}(h: ∀j,f j=true→g j=true){i:Nat}(h1:f i=false)(h2:g i=true): ∀n,i<n→(lst f n).length<(lst g n).length
 |0,hn=>by omega
 |n+1,hn=>by
   rw[lst_succ,lst_succ];by_cases e:i=n
   ·subst e;have:=lst_mono h i;rw[h1,h2];simp only[Bool.false_eq_true,if_false,if_true,List.length_append,List.length_cons,List.length_nil];omega
   have:=lst_more h h1 h2 n Om
   cases hf:f n with
   |false=>
     simp only[Bool.false_eq_true,if_false];split<;>simp<;>omega
   |true=>
     rw[h n hf];simp only[if_true,List.length_append,List.length_cons,List.length_nil];omega
theorem again_max{ks:List Nd}{x:Nd}(hx:ks= [x])(hk:ES M t x)(hM:4294967296≤M)(ht:t.length≤5000){mn:Nat}{mx:Int}(hm:mn≤40)(hmx:mx= -1∨((mn:Int)≤mx∧mx≤40)){S:Nat→Prop}{q0:LI×Int}{m0:LI}
 (hq:MS (t.length+1) q0 (Tk (Mt hasB t x) S mn)) (hm0:MS (t.length+1) (m0,((t.length+1:Nat):Int)) (Tk (Mt hasB t x) S mn)): ∃m',
 iterO M (fun s=>F_68 M (F_8 M) t ks mx ((t.length+1:Nat):Int) s.1 s.2.1 s.2.2) (q0,m0,(mn:Int))=some m'∧MS (t.length+1) (m',((t.length+1:Nat):Int)) (fun j=> ∃r:Nat,mn≤r∧(mx= -1∨(r:Int)≤mx)∧Tk (Mt hasB t x) S r j):=by
 have i0:idx ks 0=some x:=idx_of (i:=0) (by rw[hx];rfl)
 refine iterO_while (f:=fun s=>F_68 M (F_8 M) t ks mx ((t.length+1:Nat):Int) s.1 s.2.1 s.2.2)
  (fun s=> ∃k:Nat,s.2.2=(k:Int)∧mn≤k∧(mx= -1∨(k:Int)≤mx)∧k-mn≤(lst (has s.2.1) (t.length+1)).length∧MS (t.length+1) s.1 (Tk (Mt hasB t x) S k)∧MS (t.length+1) (s.2.1,((t.length+1:Nat):Int)) (fun j=> ∃m,mn≤m∧m≤k∧Tk (Mt hasB t x) S m j))
  (fun s=>t.length+1-(lst (has s.2.1) (t.length+1)).length) _ (fun s hI=>?_) ⟨mn,rfl,Nat.le_refl _,by rcases hmx with h|h;exact .inl h;exact .inr h.1,by omega,hq,hm0.congr fun j=>⟨fun h=>⟨mn,Nat.le_refl _,Nat.le_refl _,h⟩,fun⟨m,h1,h2,h⟩=>by
   obtain rfl:m=mn:=by omega
   exact h⟩⟩ (by simp only;omega)
 obtain⟨q,m,k'⟩:=s;obtain⟨k,hk',hkm,hkx,hkl,hq1,hm1⟩:=hI;try simp only at hk' hkl hq1 hm1 ⊢
 subst hk';have hll:=lst_len (has m) (t.length+1);by_cases hgo:mx= -1∨(k:Int)<mx
 ·have e0:((if(mx== -1)=true then some true else some (decide ((k:Int)<mx))):Option Bool)=some true:=by
   by_cases h:mx= -1
   ·rw[if_pos (by simpa using h)]
   rw[if_neg (by simpa using h),decide_eq_true (hgo.resolve_left h)]
  obtain⟨q1,e1,h1⟩:=hk q _ hq1;have h1:=h1.congr (T:=Tk (Mt hasB t x) S (k+1)) fun j=>Tk.succ.symm;obtain⟨m1,fr,e3,h3,hfr⟩:=or_spec hM Om Om hm1 h1
  cases hf:fr with
  |false=>
    subst hf;right
    have hall: ∀j,Tk (Mt hasB t x) S (k+1) j→ ∃m,mn≤m∧m≤k∧Tk (Mt hasB t x) S m j:=fun j hj=>by
     apply Classical.byContradiction;intro hn;have:=hfr.2 ⟨j,hj,hn⟩;cases this
    refine⟨m1,?_,h3.congr fun j=>?_⟩
    ·unfold F_68;rw[e0];simp only[bind,Option.bind_some,if_true];rw[i0];simp only[Option.bind_some];rw[e1];simp only[Option.bind_some];rw[e3];rfl
    try simp only
    constructor
    ·rintro(⟨m,g1,g2,g3⟩|g)
     ·exact⟨m,g1,by omega,g3⟩
     obtain⟨m,g1,g2,g3⟩:=hall j g;exact⟨m,g1,by omega,g3⟩
    rintro⟨r,g1,g2,g3⟩;obtain⟨z,rfl⟩: ∃z,r=mn+z:=⟨r-mn,by omega⟩;exact .inl (Tk.all hkm hall z j g3)
  |true=>
    subst hf;left;obtain⟨j0,w1,w2⟩:=hfr.1 rfl
    have hmore:(lst (has m) (t.length+1)).length<(lst (has m1) (t.length+1)).length:=by
     refine lst_more (i:=j0) (fun j hj=>(h3.h j).2 (.inl ((hm1.h j).1 hj))) ?_ ((h3.h j0).2 (.inr w1)) _ (h1.lt j0 w1)
     cases hh:has m j0 with
     |false=>rfl
     |true=>exact(w2 ((hm1.h j0).1 hh)).elim
    have hll1:=lst_len (has m1) (t.length+1);refine⟨(q1,m1,((k+1:Nat):Int)),?_,⟨k+1,rfl,by omega,by omega,by simp only;omega,h1,h3.congr fun j=>?_⟩,by simp only;omega⟩
    ·unfold F_68;rw[e0];simp only[bind,Option.bind_some,if_true];rw[i0];simp only[Option.bind_some];rw[e1];simp only[Option.bind_some];rw[e3,w64_succ Om];rfl
    try simp only
    constructor
    ·rintro(⟨m,g1,g2,g3⟩|g)
     ·exact⟨m,g1,by omega,g3⟩
     exact⟨k+1,by omega,by omega,g⟩
    rintro⟨m,g1,g2,g3⟩;by_cases hmk:m≤k
    ·exact .inl ⟨m,g1,hmk,g3⟩
    obtain rfl:m=k+1:=by omega
    exact .inr g3
 right;have h1: ¬mx= -1:=fun h=>hgo (.inl h);have h2: ¬(k:Int)<mx:=fun h=>hgo (.inr h);refine⟨m,?_,hm1.congr fun j=>?_⟩
 ·unfold F_68;rw[if_neg (by simpa using h1),decide_eq_false h2];rfl
 try simp only
 constructor
 ·rintro⟨m,g1,g2,g3⟩;exact⟨m,g1,by omega,g3⟩
 rintro⟨r,g1,g2,g3⟩;exact⟨r,g1,by omega,g3⟩
end
theorem ends_spec{t:LI}(ht:t.length≤5000)(htb: ∀x∈t,0≤x∧x<256): ∀(c:Nat) (n:Nd),cnt n=c→ ∀(lv N:Nat),RT lv n→cnt n+4294968000≤N→cnt n<50000→ES N t n:=by
 intro c
 induction c using Nat.strongRecOn with
 |ind c IH=>
   intro n hc lv N h hN hb p S hS;obtain⟨M,rfl⟩: ∃m,N=m+1:=⟨N-1,by omega⟩;have hcu:=cnt_un n;have hll:=cntL_len (kd n)
   have hk: ∀{z:Nd} {lv':Nat},RT lv' z→cnt z≤cnt n→ ∀x∈kd z,ES M t x:=fun{z lv'} hz hzc x hx=>by
    have hm:=cnt_kid hx;exact IH (cnt x) Om x rfl (lv'+1) M (hz.kid hx) Om Om
   rw[F_8];rcases ok_kind h.node.2 with⟨k1,_⟩|k2|⟨k3,n3⟩|⟨k4,n4,a,b,c⟩|⟨k5,_⟩
   ·have e1:(n.un.1==1)=true:=by simpa using k1
    rw[if_pos e1];obtain⟨q,g1,g2⟩:=bytes_spec (N:=M) Om ht htb hS n.un.1 n.un.2.1.1 n.un.2.1.2.1 n.un.2.1.2.2.1 n.un.2.1.2.2.2 n.un.2.2.1 n.un.2.2.2.1 n.un.2.2.2.2.1 n.un.2.2.2.2.2;refine⟨q,by rw[g1];rfl,g2.congr fun j=>?_⟩;constructor
    ·rintro⟨i,h1,h2,x,h3,h4⟩;exact⟨i,h1,(Mt_iff n i j).2 (.inl ⟨k1,h2,x,h3,h4⟩)⟩
    rintro⟨i,h1,h2⟩;rcases(Mt_iff n i j).1 h2 with⟨_,h3,x,h4,h5⟩|⟨h,_⟩|⟨h,_⟩|⟨h,_⟩
    ·exact⟨i,h1,h3,x,h4,h5⟩
    all_goals omega
   ·have e1: ¬(n.un.1==1)=true:=by show¬(kn n==1)=true;rw[k2];decide
    have e2:(n.un.1==2)=true:=by simpa using k2
    rw[if_neg e1,if_pos e2];obtain⟨q,g1,g2⟩:=ends_cat (hk h (Nat.le_refl _)) Om (kd n).length 0 M p S Om Om hS;have g1:iterO M (fun s=>F_69 M (F_8 M) t (kd n) s.1 s.2) (p,0)=some q:=g1;rw[List.drop_zero]at g2;refine⟨q,by rw[g1];rfl,g2.congr fun j=>?_⟩;constructor
    ·rintro⟨i,h1,h2⟩;exact⟨i,h1,(Mt_iff n i j).2 (.inr (.inl ⟨k2,h2⟩))⟩
    rintro⟨i,h1,h2⟩;rcases(Mt_iff n i j).1 h2 with⟨h,_⟩|⟨_,h3⟩|⟨h,_⟩|⟨h,_⟩
    ·omega
    ·exact⟨i,h1,h3⟩
    all_goals omega
   ·have e1: ¬(n.un.1==1)=true:=by show¬(kn n==1)=true;rw[k3];decide
    have e2: ¬(n.un.1==2)=true:=by show¬(kn n==2)=true;rw[k3];decide
    have e3:(n.un.1==3)=true:=by simpa using k3
    rw[if_neg e1,if_neg e2,if_pos e3];obtain⟨m,n1,n2⟩:=none_spec (N:=M) ht;obtain⟨m',g1,g2⟩:=ends_alt (hk h (Nat.le_refl _)) Om Om ht hS (kd n).length 0 M m _ Om Om n2;have g1:iterO M (fun s=>F_70 M (F_8 M) t (kd n) p ((t.length+1:Nat):Int) s.1 s.2) (0,m)=some m':=g1;rw[List.drop_zero]at g2;refine⟨(m',((t.length+1:Nat):Int)),?_,g2.congr fun j=>?_⟩
    ·rw[n1];simp only[bind,Option.bind_some];rw[g1];rfl
    constructor
    ·rintro(h|⟨i,h1,h2⟩)
     ·exact h.elim
     exact⟨i,h1,(Mt_iff n i j).2 (.inr (.inr (.inl ⟨k3,h2⟩)))⟩
    rintro⟨i,h1,h2⟩;rcases(Mt_iff n i j).1 h2 with⟨h,_⟩|⟨h,_⟩|⟨_,h3⟩|⟨h,_⟩
    ·omega
    ·omega
    ·exact .inr ⟨i,h1,h3⟩
    omega
   ·have e1: ¬(n.un.1==1)=true:=by show¬(kn n==1)=true;rw[k4];decide
    have e2: ¬(n.un.1==2)=true:=by show¬(kn n==2)=true;rw[k4];decide
    have e3: ¬(n.un.1==3)=true:=by show¬(kn n==3)=true;rw[k4];decide
    have e4:(n.un.1==4)=true:=by simpa using k4
    rw[if_neg e1,if_neg e2,if_neg e3,if_pos e4];obtain⟨n',lv',s1,s2,s3,s4,s5⟩:=again_strip (t:=t) M (cnt n) n rfl M lv Om h k4;obtain⟨x,hx,l0,l40,hmx⟩:=rep_kid s2 s3;have hES:=hk s2 s4 x (by rw[hx];simp);have hmn:((lo n').toNat:Int)=lo n':=Int.toNat_of_nonneg l0;obtain⟨q1,m1,m2⟩:=again_min (p:=p) hx hES (mn:=(lo n').toNat) Om (lo n').toNat 0 M p Om Om (hS.congr fun j=>Tk.zero.symm);rw[hmn]at m1;have m1:iterO M (fun s=>F_67 M (F_8 M) t (kd n') (lo n') s.1 s.2) (0,p)=some q1:=m1;have c1:=mcopy_spec (N:=M) Om m2;obtain⟨q1,qb⟩:=q1;obtain rfl:qb=((t.length+1:Nat):Int):=m2.e;obtain⟨m',r1,r2⟩:=again_max hx hES Om ht (mn:=(lo n').toNat) (mx:=hi n') Om (by rw[hmn];exact hmx) m2 m2;rw[hmn]at r1;refine⟨(m',((t.length+1:Nat):Int)),?_,r2.congr fun j=>?_⟩
    ·unfold F_11;have s1:iterO M (fun s=>F_79 M s.1 s.2.1 s.2.2.1 s.2.2.2.1 s.2.2.2.2.1 s.2.2.2.2.2.1 s.2.2.2.2.2.2.1 s.2.2.2.2.2.2.2.1 s.2.2.2.2.2.2.2.2) (n.un.1,n.un.2.1.1,n.un.2.1.2.1,n.un.2.1.2.2.1,n.un.2.1.2.2.2,n.un.2.2.1,n.un.2.2.2.1,n.un.2.2.2.2.1,n.un.2.2.2.2.2)=some (unT n'):=s1;rw[s1];simp only[bind,Option.bind_some];rw[m1];simp only[Option.bind_some];rw[c1];simp only[Option.bind_some];rw[r1];rfl
    simp only[s5];constructor
    ·rintro⟨r,h1,h2,i,h3,h4⟩;exact⟨i,h3,(Mt_iff n' i j).2 (.inr (.inr (.inr ⟨s3,r,by omega,h2,by rw[hx,MtO_one];exact h4⟩)))⟩
    rintro⟨i,h3,h4⟩;rcases(Mt_iff n' i j).1 h4 with⟨h,_⟩|⟨h,_⟩|⟨h,_⟩|⟨_,r,h5,h6,h7⟩
    ·omega
    ·omega
    ·omega
    rw[hx,MtO_one]at h7;exact⟨r,by omega,h6,i,h3,h7⟩
   have e1: ¬(n.un.1==1)=true:=by show¬(kn n==1)=true;rw[k5];decide
   have e2: ¬(n.un.1==2)=true:=by show¬(kn n==2)=true;rw[k5];decide
   have e3: ¬(n.un.1==3)=true:=by show¬(kn n==3)=true;rw[k5];decide
   have e4: ¬(n.un.1==4)=true:=by show¬(kn n==4)=true;rw[k5];decide
   rw[if_neg e1,if_neg e2,if_neg e3,if_neg e4];obtain⟨m,n1,n2⟩:=none_spec (N:=M) ht;refine⟨(m,((t.length+1:Nat):Int)),by rw[n1];rfl,n2.congr fun j=>?_⟩;constructor
   ·intro h;exact h.elim
   rintro⟨i,h3,h4⟩;rcases(Mt_iff n i j).1 h4 with⟨h,_⟩|⟨h,_⟩|⟨h,_⟩|⟨h,_⟩<;>omega
def En(t:LI)(n:Nd)(i j:Nat):Prop:=wgt n≤4000∧Mt hasB t n i j
theorem En.up{t:LI}{n:Nd}{i j:Nat}(h:En t n i j):i≤j∧(i≤t.length→j≤t.length):=Mt.up hasB t n i j h.2
theorem En.loc{t t':LI}{a k:Nat}(h: ∀i,i<k→t'[i]? =t[a+i]?)(hk:t'.length=k)(n:Nd){i j:Nat}(hi:i≤k)(hj:j≤k):En t' n i j↔En t n (a+i) (a+j):=by
 unfold En;rw[Mt.loc hasB h hk n i j hi hj]
structure TOk(n:Nd):Prop where
 t:rtT n=true
 c:cnt n≤600
 q:NdQ n
theorem bo_lst{f:Nat→Bool}{b:Nat}{x:Int}:x∈lst f b↔ ∃j:Nat,x=(j:Int)∧j<b∧f j=true:=by
 unfold lst;simp only[List.mem_map,List.mem_filter,List.mem_range];constructor
 ·rintro⟨j,⟨h1,h2⟩,rfl⟩;exact⟨j,rfl,h1,h2⟩
 rintro⟨j,rfl,h1,h2⟩;exact⟨j,⟨h1,h2⟩,rfl⟩
section
variable {N:Nat}{t:LI}
theorem ends_code(hN:9300000000000000000≤N)(ht:t.length≤4096)(htb: ∀x∈t,0≤x∧x<256){n:Nd}(hn:TOk n){a:Nat}(ha:a≤t.length): ∃l:LI,
 F_146 N n.un.1 n.un.2.1.1 n.un.2.1.2.1 n.un.2.1.2.2.1 n.un.2.1.2.2.2 n.un.2.2.1 n.un.2.2.2.1 n.un.2.2.2.2.1 n.un.2.2.2.2.2 t (a:Int)=some l∧l.length≤4097∧ ∀x,x∈l↔ ∃j:Nat,x=(j:Int)∧En t n a j:=by
 have hc:=hn.c;unfold F_146;rw[if_neg Sm,if_neg (by simp;omega),if_neg (by simp;omega),right_code hN Om hn.q,hn.t];simp only[bind,Option.bind_some,Bool.not_true,Bool.false_eq_true,if_false];rw[weight_code hN Om hn.q hn.t];simp only[Option.bind_some];by_cases hw:wgt n>4000
 ·rw[decide_eq_true hw,if_pos rfl];exact⟨[],rfl,by simp,fun x=>⟨fun h=>(by cases h),fun⟨j,_,h,_⟩=>absurd h Om⟩⟩
 rw[decide_eq_false hw,if_neg Bool.false_ne_true];obtain⟨m,n1,n2⟩:=none_spec (N:=N) (t:=t) Om;obtain⟨m1,p1,p2⟩:=n2.put (N:=N) (i:=a) Om Om;obtain⟨q,g1,g2⟩:=ends_spec Om htb _ n rfl 1 N (RT.of hn.t) Om Om _ _ p2;rw[n1];simp only[Option.bind_some];rw[p1];simp only[Option.bind_some];rw[g1];simp only[Option.bind_some];obtain⟨q,qb⟩:=q;obtain rfl:qb=((t.length+1:Nat):Int):=g2.e;rw[list_spec Om g2.r Om Om g2.big];refine⟨lst (has q) (t.length+1),rfl,by have:=lst_len (has q) (t.length+1);omega,fun x=>?_⟩;rw[bo_lst];constructor
 ·rintro⟨j,rfl,h1,h2⟩;obtain⟨i,h3,h4⟩:=(g2.h j).1 h2;rcases h3 with h3|rfl
  ·exact h3.elim
  exact⟨j,rfl,by omega,h4⟩
 rintro⟨j,rfl,h1,h2⟩;have:=(g2.h j).2 ⟨a,.inr rfl,h2⟩;exact⟨j,rfl,g2.lt j ((g2.h j).1 this),this⟩
def LG(t:LI)(n:Nd)(a most L:Nat):Prop:=(L=0∨(En t n a (a+L)∧L≤most))∧ ∀k,En t n a (a+k)→k≤most→k≤L
theorem longest_code(hN:9300000000000000000≤N)(ht:t.length≤4096)(htb: ∀x∈t,0≤x∧x<256){n:Nd}(hn:TOk n){a most:Nat}(ha:a≤t.length)(hm:most≤4096): ∃L:Nat,
 F_32 N n.un.1 n.un.2.1.1 n.un.2.1.2.1 n.un.2.1.2.2.1 n.un.2.1.2.2.2 n.un.2.2.1 n.un.2.2.2.1 n.un.2.2.2.2.1 n.un.2.2.2.2.2 t (a:Int) (most:Int)=some (L:Int)∧LG t n a most L:=by
 obtain⟨l,e1,hl,hx⟩:=ends_code hN ht htb hn ha;unfold F_32;rw[e1];simp only[bind,Option.bind_some]
 obtain⟨L,e2,h2⟩:=loop_inv (f:=fun s:Int×Int=>F_60 N (a:Int) (most:Int) l s.1 s.2) (fun i (L:Nat)=>((i:Int),(L:Int))) (fun L=>(L:Int)) l
  (fun i L=>(L=0∨(En t n a (a+L)∧L≤most))∧ ∀(k:Nat),((a+k:Nat):Int)∈l.take i→k≤most→k≤L) (N:=N) (s:=0) Om ⟨.inl rfl,fun k h=>by simp at h⟩
  (fun i x L hx' hI=>by
   have hi:=lt_len hx';obtain⟨j,rfl,hj⟩:=(hx x).1 (List.mem_of_getElem? hx');have hu:=hj.up;obtain⟨k,rfl⟩: ∃k,j=a+k:=⟨j-a,by omega⟩;have hk:a+k≤t.length:=hu.2 ha;have e3:w64 (((a+k:Nat):Int)-(a:Int))=(k:Int):=by rw[w64,wrap64]<;>omega
   show∃s',F_60 N (a:Int) (most:Int) l (i:Int) (L:Int)=_∧_;unfold F_60;rw[if_pos (by simpa using hi),idx_of hx'];simp only[bind,Option.bind_some];rw[e3,w64_succ Om]
   have htk: ∀y:Int,y∈l.take (i+1)↔y∈l.take i∨y=((a+k:Nat):Int):=fun y=>by
    rw[List.take_add_one,hx'];simp
   by_cases hkm:k≤most
   ·rw[if_pos (by simpa using hkm)];simp only[Option.bind_some]
    have e4:imax (L:Int) (k:Int)=((max L k:Nat):Int):=by
     unfold imax;split<;>omega
    refine⟨max L k,by rw[e4],?_,fun k' h1 h2=>?_⟩
    ·rcases Nat.le_total L k with h|h
     ·rw[Nat.max_eq_right h];exact .inr ⟨hj,hkm⟩
     rw[Nat.max_eq_left h];exact hI.1
    rcases(htk _).1 h1 with h1|h1
    ·have:=hI.2 k' h1 h2;omega
    omega
   rw[if_neg (by simpa using hkm)];simp only[Option.bind_some];refine⟨L,rfl,hI.1,fun k' h1 h2=>?_⟩;rcases(htk _).1 h1 with h1|h1
   ·exact hI.2 k' h1 h2
   omega)
  (fun L _=>by
   show F_60 N (a:Int) (most:Int) l (l.length:Int) (L:Int)=_;unfold F_60;rw[if_neg Sm])
 rw[show iterO N (fun s=>F_60 N (a:Int) (most:Int) l s.1 s.2) (0,0)=_ from e2];refine⟨L,rfl,h2.1,fun k h1 h3=>h2.2 k ?_ h3⟩;rw[List.take_length];exact(hx _).2 ⟨a+k,rfl,h1⟩
end
def Fst{α:Type}(xs:List α)(P:α→Prop)(r:Int):Prop:=(r= -1∧ ∀x∈xs,¬P x)∨ ∃(k:Nat) (x:α),r=(k:Int)∧xs[k]? =some x∧P x∧ ∀(i:Nat) (y:α),i<k→xs[i]? =some y→ ¬P y
theorem Fst.congr{α:Type}{xs:List α}{P Q:α→Prop}{r:Int}(h:Fst xs P r)(hq: ∀x∈xs,P x↔Q x):Fst xs Q r:=by
 rcases h with⟨h1,h2⟩|⟨k,x,h1,h2,h3,h4⟩
 ·exact .inl ⟨h1,fun x hx h=>h2 x hx ((hq x hx).2 h)⟩
 exact .inr ⟨k,x,h1,h2,(hq x (List.mem_of_getElem? h2)).1 h3,fun i y hi hy h=>h4 i y hi hy ((hq y (List.mem_of_getElem? hy)).2 h)⟩
theorem Fst.uniq{α:Type}{xs:List α}{P:α→Prop}{r r':Int}(h:Fst xs P r)(h':Fst xs P r'):r=r':=by
 rcases h with⟨h1,h2⟩|⟨k,x,h1,h2,h3,h4⟩<;>rcases h' with⟨g1,g2⟩|⟨k',x',g1,g2,g3,g4⟩
 ·omega
 ·exact(h2 x' (List.mem_of_getElem? g2) g3).elim
 ·exact(g2 x (List.mem_of_getElem? h2) h3).elim
 have a: ¬k<k':=fun h=>g4 k x h h2 h3;have b: ¬k'<k:=fun h=>h4 k' x' h g2 g3;omega
section
variable {N:Nat}{t:LI}
def BR(t:LI)(xs:List Nd)(a most L:Nat)(w:Int):Prop:=((L=0∧w= -1)∨(0<L∧L≤most∧0≤w∧Fst xs (fun x=>En t x a (a+L)) w))∧ ∀x∈xs,∀k,En t x a (a+k)→k≤most→k≤L
theorem best_code(hN:9300000000000000000≤N)(ht:t.length≤4096)(htb: ∀x∈t,0≤x∧x<256){xs:List Nd}(hx: ∀x∈xs,TOk x)(hl:xs.length≤1000){a most:Nat}(ha:a≤t.length)(hm:most≤4096): ∃(L:Nat) (w:Int),
 F_31 N xs t (a:Int) (most:Int)=some (xs,(L:Int),w)∧BR t xs a most L w:=by
 unfold F_31
 obtain⟨⟨L,w⟩,e,h⟩:=loop_inv (f:=fun s:Int×Int×Int=>F_59 N xs t (a:Int) (most:Int) s.1 s.2.1 s.2.2) (fun i (s:Nat×Int)=>((s.1:Int),s.2,(i:Int))) (fun s=>((s.1:Int),s.2)) xs
  (fun i s=>BR t (xs.take i) a most s.1 s.2) (N:=N) (s:=(0,-1)) Om ⟨.inl ⟨rfl,rfl⟩,fun x h=>by simp at h⟩
  (fun i x s hxi hI=>by
   have hi:=lt_len hxi;obtain⟨L,w⟩:=s;obtain⟨L',e1,g1,g2⟩:=longest_code hN ht htb (hx x (List.mem_of_getElem? hxi)) ha hm;obtain⟨h1,h2⟩:=hI;try simp only at h1 h2
   have htk:xs.take (i+1)=xs.take i++ [x]:=by rw[List.take_add_one,hxi];rfl
   have hlen:(xs.take i).length=i:=by rw[List.length_take];omega
   show∃s',F_59 N xs t (a:Int) (most:Int) (L:Int) w (i:Int)=_∧_;unfold F_59;rw[if_pos (by simpa using hi),idx_of hxi];simp only[bind,Option.bind_some];rw[e1];simp only[Option.bind_some];rw[w64_succ Om];by_cases hLL:L<L'
   ·rw[if_pos (by simpa using hLL)];simp only[Option.bind_some];refine⟨(L',(i:Int)),rfl,.inr ⟨by simp only;omega,?_,by simp only;omega,.inr ⟨i,x,rfl,?_,?_,?_⟩⟩,?_⟩
    ·rcases g1 with g1|g1
     ·omega
     exact g1.2
    ·rw[htk,List.getElem?_append_right Om,hlen];simp
    ·rcases g1 with g1|g1
     ·omega
     exact g1.1
    ·intro k y hk hy hE;rw[htk,List.getElem?_append_left Om]at hy;rcases g1 with g1|g1
     ·omega
     have:=h2 y (List.mem_of_getElem? hy) L' hE g1.2;omega
    intro y hy k hk hkm;rw[htk]at hy;rcases List.mem_append.1 hy with hy|hy
    ·have:=h2 y hy k hk hkm;try simp only
     omega
    obtain rfl:=List.mem_singleton.1 hy;exact g2 k hk hkm
   rw[if_neg (by simpa using hLL)];simp only[Option.bind_some];refine⟨(L,w),rfl,?_,?_⟩
   ·rcases h1 with h1|⟨h3,h4,h5,h6⟩
    ·exact .inl h1
    refine .inr ⟨h3,h4,h5,?_⟩;rcases h6 with⟨h7,_⟩|⟨k,y,h7,h8,h9,h10⟩
    ·try simp only at h5
     omega
    have hk:=lt_len h8;refine .inr ⟨k,y,h7,by rw[htk,List.getElem?_append_left hk];exact h8,h9,fun j z hj hz=>h10 j z hj (by rw[htk,List.getElem?_append_left Om]at hz;exact hz)⟩
   intro y hy k hk hkm;rw[htk]at hy;rcases List.mem_append.1 hy with hy|hy
   ·exact h2 y hy k hk hkm
   obtain rfl:=List.mem_singleton.1 hy;have:=g2 k hk hkm;try simp only
   omega)
  (fun s _=>by
   show F_59 N xs t (a:Int) (most:Int) (s.1:Int) s.2 (xs.length:Int)=_;unfold F_59;rw[if_neg Sm])
 rw[List.take_length]at h;refine⟨L,w,?_,h⟩;rw[show iterO N (fun s=>F_59 N xs t (a:Int) (most:Int) s.1 s.2.1 s.2.2) (0,(-1),0)=_ from e];rfl
end
end Go.Proofs.YtnkednnnkifenaaGreatDoor
namespace Go.Eng
open Go
def Has{α:Type}(o:Option α)(P:α→Prop):Prop:= ∃a,o=some a∧P a
theorem Has.ret{α:Type}{a:α}{P:α→Prop}(h:P a):Has (some a) P:=⟨a,rfl,h⟩
theorem Has.bind{α β:Type}{o:Option α}{f:α→Option β}{P:α→Prop}{Q:β→Prop}(h:Has o P)(k: ∀a,P a→Has (f a) Q):Has (o >>= f) Q:=by
 obtain⟨a,rfl,ha⟩:=h;exact k a ha
theorem Has.ite{α:Type}{c:Prop}[Decidable c]{a b:Option α}{P:α→Prop}(h1:c→Has a P)(h2: ¬c→Has b P):Has (if c then a else b) P:=by
 by_cases h:c
 ·rw[if_pos h];exact h1 h
 rw[if_neg h];exact h2 h
theorem Has.mono{α:Type}{o:Option α}{P Q:α→Prop}(h:Has o P)(k: ∀a,P a→Q a):Has o Q:=by
 obtain⟨a,e,ha⟩:=h;exact⟨a,e,k a ha⟩
theorem Has.loop{σ τ:Type}{f:σ→Option (σ ⊕ τ)}{N:Nat}{s:σ}(I:σ→Prop)(μ:σ→Nat)(Q:τ→Prop)(hs:I s)(hN:μ s<N)
 (step: ∀s,I s→Has (f s) fun z=>match z with| .inl s'=>I s'∧μ s'<μ s| .inr r=>Q r):Has (iterO N f s) Q:=by
 obtain⟨r,h1,h2⟩:=iterO_while I μ Q (fun s hs=>by
  obtain⟨z,h1,h2⟩:=step s hs
  cases z with
  |inl s'=>exact .inl ⟨s',h1,h2⟩
  |inr r=>exact .inr ⟨r,h1,h2⟩) hs hN
 exact⟨r,h1,h2⟩
theorem sidx_has{b:BA}{i:Int}(h0:0≤i)(h1:i<b.size):Has (sidx b i) fun v=>0≤v∧v<256:=by
 have hl:i.toNat<b.data.toList.length:=by
  have:b.data.toList.length=b.size:=rfl;omega
 refine⟨((b.data.toList[i.toNat].toNat:Nat):Int),?_,?_⟩
 ·unfold sidx;rw[if_pos h0,List.getElem?_eq_getElem hl];rfl
 have:=b.data.toList[i.toNat].toNat_lt;omega
theorem sslc_has{b:BA}{lo hi:Int}(h0:0≤lo)(h1:lo≤hi)(h2:hi≤b.size):Has (sslc b lo hi) fun r=>(r.size:Int)=hi-lo:=by
 refine⟨b.extract lo.toNat hi.toNat,?_,?_⟩
 ·unfold sslc;rw[if_pos ⟨h0,h1,h2⟩]
 show(((b.extract lo.toNat hi.toNat).size:Nat):Int)=_;rw[ByteArray.size_extract];omega
theorem sfind_lt(b:BA)(c:Int): -1≤sfind b c∧sfind b c<b.size:=by
 unfold sfind firstIdx;split
 ·rename_i i h;have:=List.mem_range.1 (List.mem_of_find?_eq_some h);omega
 omega
theorem idx_has{α:Type}{xs:List α}{i:Int}(h0:0≤i)(h:i<xs.length):Has (idx xs i) fun x=>x∈xs:=by
 have hl:i.toNat<xs.length:=by omega
 exact⟨_,idx_int h0 hl,List.getElem_mem hl⟩
theorem w64_id{x:Int}(h1: -9223372036854775808≤x)(h2:x≤9223372036854775807):w64 x=x:=wrap64 h1 h2
end Go.Eng
namespace Go.Proofs.YtnkednnnkifenaaGreatDoor
open Go Go.Eng
set_option maxRecDepth 100000
variable {N:Nat}{rows:List Go.Eng.LI}{rule entry:Go.Eng.LI}
section
variable {N:Nat}
def Pos(s:BA)(p:Int):Prop:=0≤p∧p≤s.size
def SmT(s:BA):Prop:=s.size≤1000000
theorem rest_has{s:BA}{a p:Int}(h:Pos s p):Has (F_22 N s a p) fun r=>(r.size:Int)=s.size-p:=by
 unfold F_22;exact(sslc_has h.1 h.2 (Int.le_refl _)).bind fun r hr=> .ret hr
theorem rest1_has{s:BA}{a p e:Int}(h:Pos s p):Has (F_47 N s a p e) fun r=>(r.size:Int)=s.size-p:=by
 unfold F_47;exact(sslc_has h.1 h.2 (Int.le_refl _)).bind fun r hr=> .ret hr
theorem bt_list(b:BA):b.toList=b.data.toList:=by
 have go: ∀(k i:Nat) (r:List UInt8),i+k=b.size→ByteArray.toList.loop b i r=r.reverse++b.data.toList.drop i:=by
  intro k
  induction k with
  |zero=>
    intro i r h;unfold ByteArray.toList.loop;rw[if_neg Om,List.drop_of_length_le (by have:b.data.toList.length=b.size:=(by rw[Array.length_toList];rfl);omega),List.append_nil]
  |succ k ih=>
    intro i r h;unfold ByteArray.toList.loop;have hl:b.data.toList.length=b.size:=by rw[Array.length_toList];rfl
    have hi:i<b.data.toList.length:=by omega
    rw[if_pos Om,ih (i+1) _ Om,List.drop_eq_getElem_cons hi,List.reverse_cons,List.append_assoc]
    have:b.get! i=b.data.toList[i]:=by
     have hi':i<b.data.size:=by simpa using hi
     show b.data[i]! =_;rw[getElem!_pos b.data i hi'];simp
    rw[this];rfl
 have:=go b.size 0 [] Om;simpa[ByteArray.toList]using this
theorem toList_size{a b:BA}(h:a.toList=b.toList):a.size=b.size:=by
 have e: ∀x:BA,x.toList.length=x.size:=fun x=>by
  rw[bt_list];rfl
 rw[←e a,←e b,h]
theorem index_has(c:UInt8){s:BA}:Has (((some ((⟨#[c]⟩:BA).toList==s.toList)):Option Bool) >>= fun x10=>
 if x10=true then(some 0)else(F_4 N s (c.toNat:Int) >>= fun x15=>some x15)) fun k=> -1≤k∧k<s.size:=by
 refine(Has.ret (P:=fun b=>b=((⟨#[c]⟩:BA).toList==s.toList)) rfl).bind fun b hb=> .ite (fun h=>?_) fun _=>?_
 ·rw[h]at hb;have:=toList_size (by simpa using hb.symm:(⟨#[c]⟩:BA).toList=s.toList);have e:(⟨#[c]⟩:BA).size=1:=rfl;exact .ret Om
 unfold F_4;exact .ret (sfind_lt s _)
theorem cut_has{s:BA}(hs:SmT s):Has (F_107 N s) fun r=>r.1.size≤s.size:=by
 unfold F_107 F_141 F_1;unfold SmT at hs;refine Has.bind (P:=fun r=>r.1.size≤s.size) ?_ fun r hr=> .ret hr;refine(index_has (N:=N) 32 (s:=s)).bind fun k hk=> .ite (fun h=>?_) fun _=> .ret (Nat.le_refl _);have h0:0≤k:=by simpa using h
 refine(sslc_has (Int.le_refl 0) h0 Om).bind fun a ha=>?_;rw[w64_id Om Om];exact(sslc_has Om Om (Int.le_refl _)).bind fun b _=> .ret (by simp only;omega)
theorem word_has{s:BA}{a p:Int}(hs:SmT s)(h:Pos s p):Has (F_48 N s a p) fun r=>Pos s r.1∧r.1=p+r.2.size:=by
 unfold F_48;unfold SmT at hs;have h1:=h.1;have h2:=h.2;refine(rest_has h).bind fun r hr=>(cut_has (by unfold SmT;omega)).bind fun⟨c,_,_⟩ hc=> .ret ?_;simp only at hc;simp only;rw[w64_id Om Om];exact⟨⟨by omega,by omega⟩,rfl⟩
theorem word1_has{s:BA}{a p e:Int}(hs:SmT s)(h:Pos s p):Has (F_102 N s a p e) fun r=>Pos s r.1∧r.1=p+r.2.size:=by
 unfold F_102;unfold SmT at hs;have h1:=h.1;have h2:=h.2;refine(rest1_has h).bind fun r hr=>(cut_has (by unfold SmT;omega)).bind fun⟨c,_,_⟩ hc=> .ret ?_;simp only at hc;simp only;rw[w64_id Om Om];exact⟨⟨by omega,by omega⟩,rfl⟩
theorem prefix1_has{s:BA}:Has (F_108 N s) fun b=>b=true→1≤s.size:=by
 unfold F_108 F_142;refine Has.bind (P:=fun b=>b=true→1≤s.size) ?_ fun b hb=> .ret hb;refine Has.bind (P:=fun b=>b=true→1≤s.size) ?_ fun b hb=> .ret hb;refine .ite (fun h=>?_) fun _=> .ret (fun h=>by cases h);have h:(1:Int)≤s.size:=by simpa using h
 exact(sslc_has Om Om h).bind fun r _=> .ret fun _=>by omega
theorem prefix_has{s:BA}:Has (F_49 N s) fun _=>True:=by
 unfold F_49 F_65;refine Has.bind (P:=fun _=>True) ?_ fun b hb=> .ret hb;refine Has.bind (P:=fun _=>True) ?_ fun b hb=> .ret hb;refine .ite (fun h=>?_) fun _=> .ret trivial;have h:(1:Int)≤s.size:=by simpa using h
 exact(sslc_has Om Om h).bind fun r _=> .ret trivial
theorem behind_has{s:BA}{a p:Int}(hs:SmT s)(h:Pos s p):Has (F_43 N s a p) fun r=>Pos s r.1∧(r.2.2=true→r.2.1=0)∧(r.2.2=false→eOk errIds r.2.1=true):=by
 unfold F_43;unfold SmT at hs;have h1:=h.1;have h2:=h.2;refine .ite (fun _=>?_) fun _=>?_
 ·exact .bind (P:=fun _=>True) (by unfold F_5;exact .ret trivial) fun _ _=> .ret ⟨h,fun h=>(by cases h),fun _=>(by rfl)⟩
 refine(rest_has h).bind fun r hr=>prefix1_has.bind fun b hb=> .ite (fun _=>?_) fun hb2=>?_
 ·exact .bind (P:=fun _=>True) (by unfold F_100;exact .ret trivial) fun _ _=> .ret ⟨h,fun h=>(by cases h),fun _=>(by rfl)⟩
 have hb3:b=true:=by simpa using hb2
 have:=hb hb3;refine .ret ⟨?_,fun _=>rfl,fun h=>(by cases h)⟩;simp only;rw[w64_id Om Om];exact⟨by omega,by omega⟩
theorem isName_has{s:BA}(hs:SmT s)(hN:1000010≤N):Has (F_18 N s) fun b=>b=true→s.size≤12∧1≤s.size:=by
 unfold F_18;unfold SmT at hs;refine Has.bind (P:=fun z=>match z with| .inl _=>True| .inr b=>b=false) ?_ fun z hz=>?_
 ·refine Has.loop (fun i:Int=>0≤i∧i≤s.size) (fun i:Int=>s.size+1-i.toNat) _ ⟨by omega,by omega⟩ Om fun i hi=>?_;obtain⟨hi0,hi1⟩:=hi;unfold F_111;refine .ite (fun h=>?_) fun _=> .ret trivial;have h:i<s.size:=by simpa using h
  refine Has.bind (P:=fun _=>True) ?_ fun b _=>Has.bind (P:=fun _=>True) ?_ fun b2 _=> .ite (fun _=> .ret rfl) fun _=> .ret ?_
  ·refine(sidx_has hi0 h).bind fun v hv=> .ite (fun _=>(sidx_has hi0 h).bind fun _ _=> .ret trivial) fun _=> .ret trivial
  ·refine .ite (fun _=> .ite (fun _=> .ret trivial) fun _=>(sidx_has hi0 h).bind fun _ _=> .ite (fun _=> .ret trivial) fun _=>(sidx_has hi0 h).bind fun _ _=> .ret trivial) fun _=> .ret trivial
  simp only;rw[w64_id Om Om];exact⟨⟨by omega,by omega⟩,by omega⟩
 cases z with
 |inr b=>subst hz;exact .ret fun h=>by cases h
 |inl u=>
   refine Has.bind (P:=fun b=>b=true→s.size≤12∧1≤s.size) (.ite (fun h=> .ret fun h2=>⟨by
    have:(s.size:Int)≤12:=by simpa using h2
    omega,by
    have hz:s.size≠0:=fun hz=>by
     have:s=ByteArray.empty:=ByteArray.ext (Array.eq_empty_of_size_eq_zero hz);rw[this]at h;simp at h
    omega⟩) fun _=> .ret fun h=>(by cases h)) fun b hb=> .ret hb
theorem fail2_has{s:BA}{a p e q:Int}(h:Pos s p)(hq:Pos s q):Has (F_101 N s a p e q) fun r=>Pos s r.1∧eOk errIds r.2=true:=by
 unfold F_101;refine Has.bind (P:=fun r=>Pos s r.1∧eOk errIds r.2=true) (.ite (fun _=> .ret ⟨hq,(by rfl)⟩) fun he=> .ret ⟨h,by simpa using he⟩) fun r hr=> .ret hr
theorem fail3_has{s:BA}{a p e q:Int}(h:Pos s p)(hq:Pos s q):Has (F_217 N s a p e q) fun r=>Pos s r.1∧eOk errIds r.2=true:=by
 unfold F_217;refine Has.bind (P:=fun r=>Pos s r.1∧eOk errIds r.2=true) (.ite (fun _=> .ret ⟨hq,(by rfl)⟩) fun he=> .ret ⟨h,by simpa using he⟩) fun r hr=> .ret hr
theorem fail4_has{s:BA}{a p e q:Int}(h:Pos s p)(hq:Pos s q):Has (F_84 N s a p e q) fun r=>Pos s r.1∧eOk errIds r.2=true:=by
 unfold F_84;refine Has.bind (P:=fun r=>Pos s r.1∧eOk errIds r.2=true) (.ite (fun _=> .ret ⟨hq,(by rfl)⟩) fun he=> .ret ⟨h,by simpa using he⟩) fun r hr=> .ret hr
theorem fail5_has{s:BA}{a p e q:Int}(h:Pos s p)(hq:Pos s q):Has (F_158 N s a p e q) fun r=>Pos s r.1∧eOk errIds r.2=true:=by
 unfold F_158;refine Has.bind (P:=fun r=>Pos s r.1∧eOk errIds r.2=true) (.ite (fun _=> .ret ⟨hq,(by rfl)⟩) fun he=> .ret ⟨h,by simpa using he⟩) fun r hr=> .ret hr
theorem fail6_has{s:BA}{a p e q:Int}(h:Pos s p)(hq:Pos s q):Has (F_159 N s a p e q) fun r=>Pos s r.1∧eOk errIds r.2=true:=by
 unfold F_159;refine Has.bind (P:=fun r=>Pos s r.1∧eOk errIds r.2=true) (.ite (fun _=> .ret ⟨hq,(by rfl)⟩) fun he=> .ret ⟨h,by simpa using he⟩) fun r hr=> .ret hr
theorem fail7_has{s:BA}{a p e q:Int}(h:Pos s p)(hq:Pos s q):Has (F_160 N s a p e q) fun r=>Pos s r.1∧eOk errIds r.2=true:=by
 unfold F_160;refine Has.bind (P:=fun r=>Pos s r.1∧eOk errIds r.2=true) (.ite (fun _=> .ret ⟨hq,(by rfl)⟩) fun he=> .ret ⟨h,by simpa using he⟩) fun r hr=> .ret hr
theorem name_has{s:BA}{a p:Int}(hs:SmT s)(hN:1000010≤N)(h:Pos s p):Has (F_161 N s a p) fun r=>Pos s r.1∧r.2.2.1.size≤s.size∧(Pos s r.2.2.2)∧(eOk errIds r.2.1=false→r.2.2.1.size≤12):=by
 unfold F_161;refine(behind_has hs h).bind fun⟨q,e,ok⟩ ⟨h1,h2,h3⟩=> .ite (fun hk=> .ret ?_) fun hk=>?_
 ·have hk:ok=false:=by simpa using hk
  refine⟨h1,by simp,⟨by simp,by simp⟩,fun h=>?_⟩;have:=h3 hk;simp only at this h;rw[this]at h;cases h
 refine(word1_has hs h1).bind fun⟨u,w⟩ ⟨g1,g2⟩=>?_;simp only at g1 g2 h1
 have hw:w.size≤s.size:=by
  have:=g1.2;have:=h1.1;omega
 refine(isName_has (by unfold SmT at hs ⊢;omega) hN).bind fun b hb=>?_;refine Has.bind (P:=fun r=>Pos s r.1∧(eOk errIds r.2=false→w.size≤12)) (.ite (fun _=>?_) fun hb2=> .ret ⟨g1,fun _=>(hb (by simpa using hb2)).1⟩) fun r hr=> .ret ⟨hr.1,hw,h1,hr.2⟩;exact(fail2_has g1 h1).bind fun r hr=> .ret ⟨hr.1,fun h=>by rw[hr.2]at h;cases h⟩
theorem over_has{s:BA}{a p e:Int}(h:Pos s p):Has (F_162 N s a p e) fun r=>Pos s r.1∧(eOk errIds r.2=false→eOk errIds e=false):=by
 unfold F_162;refine Has.bind (P:=fun _=>True) (.ite (fun _=> .ret trivial) fun _=> .ret trivial) fun b _=>?_;refine Has.bind (P:=fun r=>Pos s r.1∧(eOk errIds r.2=false→eOk errIds e=false)) (.ite (fun _=>?_) fun _=> .ret ⟨h,id⟩) fun r hr=> .ret hr;exact(fail3_has h h).bind fun r hr=> .ret ⟨hr.1,fun h=>by rw[hr.2]at h;cases h⟩
theorem contains_has{l:List BA}{x:BA}(hl:l.length≤1000000)(hN:1000010≤N):Has (F_45 N l x) fun _=>True:=by
 unfold F_45 F_23;refine Has.bind (P:=fun _=>True) ?_ fun _ _=> .ret trivial;refine Has.bind (P:=fun _=>True) ?_ fun z _=>?_
 ·refine Has.loop (fun i:Int=>0≤i∧i≤l.length) (fun i:Int=>l.length+1-i.toNat) _ ⟨by omega,by omega⟩ Om fun i hi=>?_;obtain⟨hi0,hi1⟩:=hi;unfold F_77;refine .ite (fun h=>?_) fun _=> .ret trivial;have h:i<l.length:=by simpa using h
  refine(idx_has hi0 h).bind fun v _=> .ite (fun _=> .ret trivial) fun _=> .ret ?_;simp only;rw[w64_id Om Om];exact⟨⟨by omega,by omega⟩,by omega⟩
 cases z<;>exact .ret trivial
theorem limit_has{s:BA}{a p e q:Int}{b:Bool}{x y:Int}(h:Pos s p)(hq:Pos s q):Has (F_85 N s a p e q b x y) fun r=>Pos s r.1∧r.2.2= !(eOk errIds r.2.1)∧(r.2.2=true→eOk errIds e=false∧x<y):=by
 unfold F_85;have R: ∀{r:Int×Int},Pos s r.1∧eOk errIds r.2=true→Pos s r.1∧(eOk errIds r.2=false→eOk errIds e=false∧x<y):=fun hr=>⟨hr.1,fun h=>by rw[hr.2]at h;cases h⟩;refine Has.bind (P:=fun r=>Pos s r.1∧(eOk errIds r.2=false→eOk errIds e=false∧x<y)) ?_ fun r hr=> .ret ⟨hr.1,rfl,fun h=>hr.2 (by simpa using h)⟩;refine Has.bind (P:=fun r=>Pos s r.1∧(eOk errIds r.2=false→eOk errIds e=false∧x<y)) ?_ fun r hr=> .ret hr;refine .ite (fun he=> .ret (R ⟨h,he⟩)) fun he=>?_;have he:eOk errIds e=false:=by simpa using he
 refine Has.bind (P:=fun r=>Pos s r.1∧(eOk errIds r.2=false→eOk errIds e=false∧x<y)) ?_ fun r hr=> .ret hr;refine .ite (fun _=>(fail4_has h hq).bind fun r hr=> .ret (R hr)) fun _=>?_;refine Has.bind (P:=fun r=>Pos s r.1∧(eOk errIds r.2=false→eOk errIds e=false∧x<y)) ?_ fun r hr=> .ret hr;exact .ite (fun _=>(fail5_has h hq).bind fun r hr=> .ret (R hr)) fun hx=> .ret ⟨h,fun _=>⟨he,by simpa using hx⟩⟩
end
end Go.Proofs.YtnkednnnkifenaaGreatDoor
namespace Go.Eng
open Go
theorem u8_has(x:Int):0≤IntKind.wrap .u8 x∧IntKind.wrap .u8 x<256:=by
 simp only[IntKind.wrap,IntKind.signed,IntKind.bits];simp;omega
theorem setI_has{α:Type}{xs:List α}{i:Int}{x:α}(h0:0≤i)(h:i<xs.length):Has (setI xs i x) fun ys=>ys.length=xs.length:=
 ⟨_,setI_int h0 Om,by simp⟩
theorem nn_has{x:Int}(h:0≤x):Has (nn x) fun _=>True:=by
 unfold nn;rw[if_pos h];exact .ret trivial
end Go.Eng
namespace Go.Proofs.YtnkednnnkifenaaGreatDoor
open Go Go.Eng
set_option maxRecDepth 100000
variable {N:Nat}{rows:List Go.Eng.LI}{rule entry:Go.Eng.LI}
section
variable {N:Nat}
theorem fig_has(x:Int):Has (F_223 N x) fun r=> -1≤r.1∧r.1<16:=by
 unfold F_223;refine Has.bind (P:=fun _=>True) (.ite (fun _=> .ret trivial) fun _=> .ret trivial) fun b _=>?_;refine Has.bind (P:=fun _=>True) (.ite (fun _=> .ret trivial) fun _=> .ret trivial) fun c _=>?_;unfold F_244 F_233;refine Has.bind (P:=fun v=> -1≤v∧v<16) (.ret (sfind_lt _ c)) fun v hv=> .ret hv
theorem pair_has{s:BA}{p:Int}(hs:SmT s)(hN:1000010≤N)(h:Pos s p):Has (F_106 N s p) fun r=>Pos s r.2.1∧p≤r.2.1∧0≤r.1∧r.1<256:=by
 unfold F_106;unfold SmT at hs;refine Has.bind (P:=fun z=>match z with| .inl r=>Pos s r.1∧p≤r.1| .inr r=>Pos s r.2.1∧p≤r.2.1∧0≤r.1∧r.1<256) ?_ fun z hz=>?_
 ·refine Has.loop (fun st:Int×Int×Int=>Pos s st.1∧p≤st.1∧0≤st.2.1∧st.2.1≤2) (fun st=>3-st.2.1.toNat) _ ⟨h,Int.le_refl _,by simp,by simp⟩ (by simp;omega) fun⟨q,i,v⟩ ⟨h1,h2,h3,h4⟩=>?_;simp only at h1 h2 h3 h4;have:=h1.1;have:=h1.2;unfold F_271;refine .ite (fun hi=>?_) fun _=> .ret ⟨h1,h2⟩;have hi:i<2:=by simpa using hi
  refine .ite (fun _=> .ret ⟨h1,h2,Int.le_refl _,by simp⟩) fun hq=>?_;have hq:q<s.size:=by simpa using hq
  refine(sidx_has h1.1 hq).bind fun c _=>(fig_has c).bind fun⟨d,ok⟩ _=> .ite (fun _=> .ret ⟨h1,h2,Int.le_refl _,by simp⟩) fun _=> .ret ?_;simp only;rw[w64_id (x:=q+1) Om Om,w64_id (x:=i+1) Om Om];exact⟨⟨⟨by omega,by omega⟩,by omega,by omega,by omega⟩,by omega⟩
 cases z with
 |inr r=>exact .ret hz
 |inl r=>exact .ret ⟨hz.1,hz.2,(u8_has _).1,(u8_has _).2⟩
theorem mark_has(x:Int):Has (F_224 N x) fun _=>True:=by
 unfold F_224;refine Has.bind (P:=fun _=>True) ?_ fun b _=>?_
 ·repeat' first
   |exact .ret trivial
   |refine .ite (fun _=>?_) fun _=>?_
 refine Has.bind (P:=fun _=>True) ?_ fun b _=> .ret trivial
 repeat' first
  |exact .ret trivial
  |refine .ite (fun _=>?_) fun _=>?_
theorem read_has{s:BA}{p:Int}(hs:SmT s)(hN:1000010≤N)(h:0≤p)(h':p≤s.size):Has (F_170 N s p) fun r=>Pos s r.2.1∧p≤r.2.1∧(eOk errIds r.2.2=false→p<r.2.1)∧0≤r.1∧r.1<256:=by
 unfold F_170;unfold SmT at hs;have he: ∀q:Int,Pos s q→p≤q→ ∀e:Int,eOk errIds e=true→Pos s q∧p≤q∧(eOk errIds e=false→p<q)∧(0:Int)≤0∧(0:Int)<256:=fun q h1 h2 e h3=>⟨h1,h2,fun h=>(by rw[h3]at h;cases h),Int.le_refl _,by decide⟩;refine Has.bind (P:=fun b=>b=false→p<s.size) (.ite (fun _=> .ret fun h=>(by cases h)) fun _=> .ret fun h=>by simpa using h) fun b hb=> .ite (fun _=> .ret (he _ ⟨by omega,Int.le_refl _⟩ h' 4 (by rfl))) fun hb2=>?_;have hp:=hb (by simpa using hb2);refine(sidx_has h hp).bind fun c hc=> .ite (fun _=>?_) fun _=>?_
 ·refine(sidx_has h hp).bind fun v hv=> .ret ?_;simp only;rw[w64_id Om Om];exact⟨⟨by omega,by omega⟩,by omega,fun _=>by omega,hv.1,hv.2⟩
 rw[w64_id (x:=p+1) Om Om,w64_id (x:=p+2) Om Om];refine .ite (fun _=> .ret (he _ ⟨by omega,Int.le_refl _⟩ h' 4 (by rfl))) fun hq=>?_;have hq:p+1<s.size:=by simpa using hq
 refine(sidx_has Om hq).bind fun v hv=>?_;unfold F_243 F_232;refine Has.bind (P:=fun k=> -1≤k∧k<4) (.ret (sfind_lt _ v)) fun k hk=> .ite (fun h0=>?_) fun _=>?_
 ·have h0:0≤k:=by simpa using h0
  have h4:k<((⟨#[10,9,13,32]⟩:BA).size:Int):=hk.2;refine(sidx_has h0 h4).bind fun c hc=> .ret ⟨⟨by simp only;omega,by simp only;omega⟩,by simp only;omega,fun _=>by simp only;omega,hc.1,hc.2⟩
 refine .ite (fun _=>?_) fun _=>?_
 ·refine(pair_has (by exact hs) hN ⟨by omega,by omega⟩).bind fun⟨a,b,c⟩ ⟨h1,h2,h3,h4⟩=> .ret ⟨h1,by simp only at h2 ⊢;omega,fun _=>by simp only at h2 ⊢;omega,h3,h4⟩
 refine(mark_has v).bind fun b _=> .ite (fun _=> .ret ⟨⟨by simp only;omega,by simp only;omega⟩,by simp only;omega,fun _=>by simp only;omega,hv.1,hv.2⟩) fun _=> .ret (he (p+1) ⟨by omega,by omega⟩ Om 1 (by rfl))
theorem end_has{s:BA}{p:Int}:Has (F_115 N s p) fun b=>b=false→0≤p∧p<s.size:=by
 unfold F_115;refine Has.bind (P:=fun b=>b=false→0≤p∧p<s.size) (.ite (fun _=> .ret fun h=>(by cases h)) fun h1=> .ret fun h=>⟨by simpa using h1,by simpa using h⟩) fun b hb=> .ret hb
theorem next_has{s:BA}{p:Int}:Has (F_137 N s p) fun _=>True:=by
 unfold F_137;refine Has.bind (P:=fun b=>b=false→0≤p∧p<s.size) (.ite (fun _=> .ret fun h=>(by cases h)) fun h1=> .ret fun h=>⟨by simpa using h1,by simpa using h⟩) fun b hb=> .ite (fun _=> .ret trivial) fun h=>?_;have:=hb (by simpa using h);exact(sidx_has this.1 this.2).bind fun _ _=> .ret trivial
theorem btake_has{s:BA}{p c:Int}(hs:SmT s)(h:Pos s p):Has (F_92 N s p c) fun r=>Pos s r.1∧p≤r.1∧(r.2=true→p<r.1):=by
 unfold F_92;unfold SmT at hs;refine Has.bind (P:=fun b=>b=false→0≤p∧p<s.size) ?_ fun b hb=> .ite (fun _=> .ret ⟨h,Int.le_refl _,fun h=>(by cases h)⟩) fun h2=> .ret ?_
 ·refine end_has.bind fun b hb=> .ite (fun _=> .ret fun h=>(by cases h)) fun h2=>next_has.bind fun _ _=> .ret fun _=>hb (by simpa using h2)
 have:=hb (by simpa using h2);simp only;rw[w64_id Om Om];exact⟨⟨by omega,by omega⟩,by omega,fun _=>by omega⟩
theorem one_has{s:BA}{p:Int}(hs:SmT s)(hN:1000010≤N)(h:Pos s p):Has (F_138 N s p) fun r=>Pos s r.1∧p≤r.1∧(eOk errIds r.2.2=false→p<r.1)∧0≤r.2.1∧r.2.1<256:=by
 unfold F_138;refine Has.bind (P:=fun _=>True) ?_ fun b _=> .ite (fun _=> .ret ⟨h,Int.le_refl _,fun h=>(by cases h),Int.le_refl _,by simp⟩) fun _=>?_
 ·refine end_has.bind fun b _=> .ite (fun _=>next_has.bind fun c _=>?_) fun _=> .ret trivial;unfold F_242 F_231;exact .ret trivial
 exact(read_has hs hN h.1 h.2).bind fun⟨v,q,e⟩ ⟨h1,h2,h3,h4,h5⟩=> .ret ⟨h1,h2,h3,h4,h5⟩
theorem sone_has{x:Int}(h0:0≤x)(h1:x<256):Has (F_129 N x) fun _=>True:=by
 unfold F_129;have e:x.tdiv 64=x/64:=Int.tdiv_eq_ediv_of_nonneg h0;have e2:x.tmod 64=x %64:=Int.tmod_eq_emod_of_nonneg h0
 have e3:IntKind.wrap .u8 (x/64)=x/64:=by
  simp only[IntKind.wrap,IntKind.signed,IntKind.bits];simp;omega
 rw[e,e2,e3];refine(nn_has Om).bind fun _ _=>(idx_has Om (by simp;omega)).bind fun _ _=>(setI_has Om (by simp;omega)).bind fun _ _=> .ret trivial
theorem below_has(x:Int):Has (F_165 N x) fun _=>True:=by
 unfold F_165;refine .ite (fun _=> .ret trivial) fun _=>(nn_has (by unfold imax;split<;>omega)).bind fun _ _=> .ret trivial
theorem span_has(x y:Int)(hN:1000010≤N):Has (F_104 N x y) fun _=>True:=by
 unfold F_104;refine .ite (fun _=> .ret trivial) fun _=>?_;refine Has.bind (P:=fun _=>True) ?_ fun _ _=> .ret trivial;refine Has.loop (fun st:Int×Int×Int×Int×Int=>0≤st.1∧st.1≤4) (fun st=>5-st.1.toNat) _ ⟨by simp,by simp⟩ (by simp;omega) fun⟨i,a,b,c,d⟩ ⟨h1,h2⟩=>?_;simp only at h1 h2;unfold F_269;refine .ite (fun h=>?_) fun _=> .ret trivial;have h:i<4:=by simpa using h
 refine(below_has _).bind fun _ _=>(below_has _).bind fun _ _=>(idx_has h1 (by simp;omega)).bind fun _ _=>(setI_has h1 (by simp;omega)).bind fun _ _=> .ret ?_;simp only;rw[w64_id Om Om];exact⟨⟨by omega,by omega⟩,by omega⟩
theorem or_has(a b c d x y z u:Int)(hN:1000010≤N):Has (F_20 N a b c d x y z u) fun _=>True:=by
 unfold F_20;refine Has.bind (P:=fun _=>True) ?_ fun _ _=> .ret trivial;refine Has.loop (fun st:Int×Int×Int×Int×Int=>0≤st.2.2.2.2∧st.2.2.2.2≤4) (fun st=>5-st.2.2.2.2.toNat) _ ⟨by simp,by simp⟩ (by simp;omega) fun⟨a,b,c,d,i⟩ ⟨h1,h2⟩=>?_;simp only at h1 h2;unfold F_164;refine .ite (fun h=>?_) fun _=> .ret trivial;have h:i<4:=by simpa using h
 refine Has.bind (P:=fun _=>True) ((idx_has h1 (by simp;omega)).bind fun _ _=>(idx_has h1 (by simp;omega)).bind fun _ _=>(idx_has h1 (by simp;omega)).bind fun _ _=>(setI_has h1 (by simp;omega)).bind fun _ _=> .ret trivial) fun _ _=> .ret ?_;simp only;rw[w64_id Om Om];exact⟨⟨by omega,by omega⟩,by omega⟩
theorem not_has(a b c d:Int)(hN:1000010≤N):Has (F_86 N a b c d) fun _=>True:=by
 unfold F_86;refine Has.bind (P:=fun _=>True) ?_ fun _ _=> .ret trivial;refine Has.loop (fun st:Int×Int×Int×Int×Int=>0≤st.2.2.2.2∧st.2.2.2.2≤4) (fun st=>5-st.2.2.2.2.toNat) _ ⟨by simp,by simp⟩ (by simp;omega) fun⟨a,b,c,d,i⟩ ⟨h1,h2⟩=>?_;simp only at h1 h2;unfold F_268;refine .ite (fun h=>?_) fun _=> .ret trivial;have h:i<4:=by simpa using h
 refine(idx_has h1 (by simp;omega)).bind fun _ _=>(idx_has h1 (by simp;omega)).bind fun _ _=>(setI_has h1 (by simp;omega)).bind fun _ _=> .ret ?_;simp only;rw[w64_id Om Om];exact⟨⟨by omega,by omega⟩,by omega⟩
theorem item_has{s:BA}{p:Int}(hs:SmT s)(hN:1000010≤N)(h:Pos s p):Has (F_177 N s p) fun r=>Pos s r.1∧p≤r.1∧(eOk errIds r.2.2.2.2.2=false→p<r.1):=by
 unfold F_177;refine(one_has hs hN h).bind fun⟨q,v,e⟩ ⟨h1,h2,h3,h4,h5⟩=>?_;simp only at h1 h2 h3 h4 h5;refine Has.bind (P:=fun r=>Pos s r.1∧q≤r.1∧(eOk errIds e=true→r.2=true)) (.ite (fun _=> .ret ⟨h1,Int.le_refl _,fun _=>rfl⟩) fun he=>(btake_has hs h1).bind fun r hr=> .ret ⟨hr.1,hr.2.1,fun h=>(he h).elim⟩) fun⟨q2,b⟩ ⟨g1,g2,g3⟩=>?_;simp only at g1 g2 g3;refine .ite (fun _=>(sone_has h4 h5).bind fun _ _=> .ret ⟨g1,by simp only;omega,fun he=>by have:=h3 he;simp only;omega⟩) fun hb=>?_;refine(one_has hs hN g1).bind fun⟨q3,v3,e3⟩ ⟨k1,k2,k3,k4,k5⟩=>?_;simp only at k1 k2 k3 k4 k5
 have he:eOk errIds e=false:=by
  cases h:eOk errIds e with
  |false=>rfl
  |true=>exact(hb (g3 h)).elim
 have:=h3 he;refine .ite (fun _=> .ret ⟨k1,by simp only;omega,fun _=>by simp only;omega⟩) fun _=> .ite (fun _=>?_) fun _=>?_
 ·exact .bind (P:=fun _=>True) (.ret trivial) fun _ _=> .ret ⟨g1,by simp only;omega,fun _=>by simp only;omega⟩
 exact(span_has _ _ hN).bind fun _ _=> .ret ⟨k1,by simp only;omega,fun _=>by simp only;omega⟩
theorem bracket_has{s:BA}{p:Int}(hs:SmT s)(hN:1000010≤N)(h:Pos s p):Has (F_176 N s p) fun r=>Pos s r.2.2.2.2.1∧(eOk errIds r.2.2.2.2.2=false→p<r.2.2.2.2.1):=by
 unfold F_176 F_114;have hs':=hs;unfold SmT at hs';refine Has.bind (P:=fun r=>Pos s r.1∧(eOk errIds r.2.2.2.2.2=false→p<r.1)) ?_ fun r hr=> .bind (P:=fun _=>True) (.ret trivial) fun _ _=> .ret hr;refine end_has.bind fun b _=> .ite (fun _=> .bind (P:=fun _=>True) (.ret trivial) fun _ _=> .ret ⟨⟨by simp,Int.le_refl _⟩,fun h=>(by cases h)⟩) fun _=>?_;refine(btake_has hs h).bind fun⟨q,ok⟩ ⟨h1,h2,h3⟩=> .ite (fun _=> .bind (P:=fun _=>True) (.ret trivial) fun _ _=> .ret ⟨h1,fun h=>(by cases h)⟩) fun hok=>?_;have h3:=h3 (by simpa using hok);refine(btake_has hs h1).bind fun⟨q2,ng⟩ ⟨g1,g2,_⟩=>?_;simp only at h1 h2 h3 g1 g2;refine Has.bind (P:=fun z=>match z with| .inl r=>Pos s r.1∧p<r.1| .inr r=>Pos s r.1∧(eOk errIds r.2.2.2.2.2=false→p<r.1)) ?_ fun z hz=>?_
 ·refine Has.loop (fun st:Int×Int×Int×Int×Int×Bool=>Pos s st.1∧p<st.1) (fun st=>s.size+1-st.1.toNat) _ ⟨g1,by simp only;omega⟩ Om fun⟨u,a,b,c,d,f⟩ ⟨k1,k2⟩=>?_;simp only at k1 k2;unfold F_249;refine Has.bind (P:=fun r=>Pos s r.1∧u≤r.1) (.ite (fun _=> .ret ⟨k1,Int.le_refl _⟩) fun _=>(btake_has hs k1).bind fun r hr=> .ret ⟨hr.1,hr.2.1⟩) fun⟨u2,b2⟩ ⟨l1,l2⟩=> .ite (fun _=>?_) fun _=> .ret ⟨l1,by simp only at l2 ⊢;omega⟩;simp only at l1 l2;refine(item_has hs hN l1).bind fun⟨u3,w1,w2,w3,w4,e⟩ ⟨m1,m2,m3⟩=>?_;simp only at m1 m2 m3;refine .ite (fun he=> .ret ⟨m1,fun h=>by simp only at h;rw[h]at he;cases he⟩) fun he=>(or_has _ _ _ _ _ _ _ _ hN).bind fun _ _=> .ret ?_;have:=m3 (by simpa using he);have:=k1.1;have:=m1.2;exact⟨⟨m1,by simp only;omega⟩,by simp only;omega⟩
 cases z with
 |inr r=>exact .ret hz
 |inl r=>exact Has.bind (P:=fun _=>True) (.ite (fun _=>(not_has _ _ _ _ hN).bind fun _ _=> .ret trivial) fun _=> .ret trivial) fun _ _=> .ret ⟨hz.1,fun _=>hz.2⟩
end
section
variable {N:Nat}{s:BA}{p e:Int}
theorem more_has:Has (F_21 N s p e) fun b=>b=true→p<s.size∧eOk errIds e=false:=by
 unfold F_21;refine Has.bind (P:=fun b=>b=true→p<s.size∧eOk errIds e=false) (.ite (fun h=> .ret fun h2=>⟨by simpa using h2,by simpa using h⟩) fun _=> .ret fun h=>(by cases h)) fun b hb=> .ret hb
def OnP(s:BA)(p e:Int)(b:Bool):Prop:=b=true→p<s.size∧eOk errIds e=false
def TkR(s:BA)(p e:Int)(r:Int×Bool):Prop:=Pos s r.1∧p≤r.1∧(r.2=true→r.1=p+1∧eOk errIds e=false)∧(r.2=false→r.1=p)
theorem on_gen{f:Int→Option Int}(h:Pos s p)(hf: ∀c,Has (f c) fun _=>True):Has (((F_21 N s p e >>= fun b=>if b=true then(sidx s p >>= fun x=>f x >>= fun k=>some (decide (k≥0)))else(some false)):Option Bool) >>= fun z=>some z) (OnP s p e):=by
 refine Has.bind (P:=OnP s p e) ?_ fun b hb=> .ret hb;refine more_has.bind fun b hb=> .ite (fun hb2=>?_) fun _=> .ret fun h=>(by cases h);exact(sidx_has h.1 (hb hb2).1).bind fun c _=>(hf c).bind fun k _=> .ret fun _=>hb hb2
theorem take_gen{o:Option Bool}(hs:SmT s)(h:Pos s p)(ho:Has o (OnP s p e)):Has (o >>= fun b=>if(!b)=true then(some (p,false))else(some (w64 (p+1),true))) (TkR s p e):=by
 unfold SmT at hs;have h1:=h.1;refine ho.bind fun b hb=> .ite (fun _=> .ret ⟨h,Int.le_refl _,fun h=>(by cases h),fun _=>rfl⟩) fun hb2=> .ret ?_;have:=hb (by simpa using hb2);rw[w64_id Om Om];exact⟨⟨by simp only;omega,by simp only;omega⟩,by simp only;omega,fun _=>⟨rfl,this.2⟩,fun h=>(by cases h)⟩
theorem on_has(h:Pos s p):Has (F_3 N s p e) (OnP s p e):=by
 unfold F_3;exact on_gen h fun _=>⟨_,rfl,trivial⟩
theorem on_1_has(h:Pos s p):Has (F_17 N s p e) (OnP s p e):=by
 unfold F_17;exact on_gen h fun _=>⟨_,rfl,trivial⟩
theorem on_2_has(h:Pos s p):Has (F_199 N s p e) (OnP s p e):=by
 unfold F_199;exact on_gen h fun _=>⟨_,rfl,trivial⟩
theorem on_3_has(h:Pos s p):Has (F_153 N s p e) (OnP s p e):=by
 unfold F_153;exact on_gen h fun _=>⟨_,rfl,trivial⟩
theorem on_4_has(h:Pos s p):Has (F_200 N s p e) (OnP s p e):=by
 unfold F_200;exact on_gen h fun _=>⟨_,rfl,trivial⟩
theorem on_5_has(h:Pos s p):Has (F_201 N s p e) (OnP s p e):=by
 unfold F_201;exact on_gen h fun _=>⟨_,rfl,trivial⟩
theorem on_6_has(h:Pos s p):Has (F_202 N s p e) (OnP s p e):=by
 unfold F_202;exact on_gen h fun _=>⟨_,rfl,trivial⟩
theorem on_7_has(h:Pos s p):Has (F_203 N s p e) (OnP s p e):=by
 unfold F_203;exact on_gen h fun _=>⟨_,rfl,trivial⟩
theorem on_8_has(h:Pos s p):Has (F_204 N s p e) (OnP s p e):=by
 unfold F_204;exact on_gen h fun _=>⟨_,rfl,trivial⟩
theorem on_9_has(h:Pos s p):Has (F_154 N s p e) (OnP s p e):=by
 unfold F_154;exact on_gen h fun _=>⟨_,rfl,trivial⟩
theorem on_10_has(h:Pos s p):Has (F_195 N s p e) (OnP s p e):=by
 unfold F_195;exact on_gen h fun _=>⟨_,rfl,trivial⟩
theorem on_11_has(h:Pos s p):Has (F_196 N s p e) (OnP s p e):=by
 unfold F_196;exact on_gen h fun _=>⟨_,rfl,trivial⟩
theorem on_12_has(h:Pos s p):Has (F_197 N s p e) (OnP s p e):=by
 unfold F_197;exact on_gen h fun _=>⟨_,rfl,trivial⟩
theorem on_13_has(h:Pos s p):Has (F_198 N s p e) (OnP s p e):=by
 unfold F_198;exact on_gen h fun _=>⟨_,rfl,trivial⟩
theorem take_has(hs:SmT s)(h:Pos s p):Has (F_9 N s p e) (TkR s p e):=by
 unfold F_9;exact take_gen hs h (on_1_has h)
theorem take_1_has(hs:SmT s)(h:Pos s p):Has (F_205 N s p e) (TkR s p e):=by
 unfold F_205;exact take_gen hs h (on_4_has h)
theorem take_2_has(hs:SmT s)(h:Pos s p):Has (F_206 N s p e) (TkR s p e):=by
 unfold F_206;exact take_gen hs h (on_6_has h)
theorem take_3_has(hs:SmT s)(h:Pos s p):Has (F_207 N s p e) (TkR s p e):=by
 unfold F_207;exact take_gen hs h (on_7_has h)
theorem take_4_has(hs:SmT s)(h:Pos s p):Has (F_208 N s p e) (TkR s p e):=by
 unfold F_208;exact take_gen hs h (on_8_has h)
theorem take_5_has(hs:SmT s)(h:Pos s p):Has (F_209 N s p e) (TkR s p e):=by
 unfold F_209;exact take_gen hs h (on_10_has h)
theorem take_6_has(hs:SmT s)(h:Pos s p):Has (F_210 N s p e) (TkR s p e):=by
 unfold F_210;exact take_gen hs h (on_11_has h)
theorem take_7_has(hs:SmT s)(h:Pos s p):Has (F_211 N s p e) (TkR s p e):=by
 unfold F_211;exact take_gen hs h (on_12_has h)
theorem take_8_has(hs:SmT s)(h:Pos s p):Has (F_212 N s p e) (TkR s p e):=by
 unfold F_212;exact take_gen hs h (on_13_has h)
def Er(s:BA)(r:Int×Int):Prop:=Pos s r.1∧eOk errIds r.2=true
theorem rfail_has{q x:Int}(h:Pos s p)(hq:Pos s q)(hx:eOk errIds x=true):Has (F_10 N s p e q x) (Er s):=by
 unfold F_10;exact Has.bind (P:=Er s) (.ite (fun _=> .ret ⟨hq,hx⟩) fun he=> .ret ⟨h,by simpa using he⟩) fun r hr=> .ret hr
theorem rfail1_has{q:Int}(h:Pos s p)(hq:Pos s q):Has (F_120 N s p e q) (Er s):=by
 unfold F_120;exact Has.bind (P:=Er s) (.ite (fun _=> .ret ⟨hq,(by rfl)⟩) fun he=> .ret ⟨h,by simpa using he⟩) fun r hr=> .ret hr
theorem rfail2_has{q:Int}(h:Pos s p)(hq:Pos s q):Has (F_191 N s p e q) (Er s):=by
 unfold F_191;exact Has.bind (P:=Er s) (.ite (fun _=> .ret ⟨hq,(by rfl)⟩) fun he=> .ret ⟨h,by simpa using he⟩) fun r hr=> .ret hr
theorem rfail3_has{q:Int}(h:Pos s p)(hq:Pos s q):Has (F_121 N s p e q) (Er s):=by
 unfold F_121;exact Has.bind (P:=Er s) (.ite (fun _=> .ret ⟨hq,(by rfl)⟩) fun he=> .ret ⟨h,by simpa using he⟩) fun r hr=> .ret hr
theorem rfail4_has{q:Int}(h:Pos s p)(hq:Pos s q):Has (F_122 N s p e q) (Er s):=by
 unfold F_122;exact Has.bind (P:=Er s) (.ite (fun _=> .ret ⟨hq,(by rfl)⟩) fun he=> .ret ⟨h,by simpa using he⟩) fun r hr=> .ret hr
theorem rfail5_has{q:Int}(h:Pos s p)(hq:Pos s q):Has (F_192 N s p e q) (Er s):=by
 unfold F_192;exact Has.bind (P:=Er s) (.ite (fun _=> .ret ⟨hq,(by rfl)⟩) fun he=> .ret ⟨h,by simpa using he⟩) fun r hr=> .ret hr
theorem rfail6_has{q:Int}(h:Pos s p)(hq:Pos s q):Has (F_193 N s p e q) (Er s):=by
 unfold F_193;exact Has.bind (P:=Er s) (.ite (fun _=> .ret ⟨hq,(by rfl)⟩) fun he=> .ret ⟨h,by simpa using he⟩) fun r hr=> .ret hr
def Go1(s:BA)(p e:Int)(r:Int×Int):Prop:=Pos s r.1∧(eOk errIds r.2=false→eOk errIds e=false∧p≤r.1)
theorem Er.go{r:Int×Int}(h:Er s r):Go1 s p e r:=⟨h.1,fun he=>by rw[h.2]at he;cases he⟩
theorem Go1.to{q x:Int}{r:Int×Int}(h:Go1 s q x r)(h1:eOk errIds x=false→eOk errIds e=false∧p≤q):Go1 s p e r:=⟨h.1,fun he=>by
 have h2:=h.2 he;have h3:=h1 h2.1;exact⟨h3.1,by omega⟩⟩
theorem number_has(hs:SmT s)(hN:1000010≤N)(h:Pos s p):Has (F_82 N s p e) fun r=>Go1 s p e (r.1,r.2.1):=by
 unfold F_82;have hs':=hs;unfold SmT at hs';refine Has.bind (P:=fun z=>match z with| .inl r=>Pos s r.1∧p≤r.1| .inr r=>Go1 s p e (r.1,r.2.1)) ?_ fun z hz=>?_
 ·refine Has.loop (fun st:Int×Int=>Pos s st.1∧p≤st.1) (fun st=>s.size+1-st.1.toNat) _ ⟨h,Int.le_refl _⟩ Om fun⟨q,v⟩ ⟨h1,h2⟩=>?_;simp only at h1 h2;unfold F_265;refine(on_9_has h1).bind fun b hb=> .ite (fun hb2=>?_) fun _=> .ret ⟨h1,h2⟩;have hq:=(hb hb2).1;refine .ite (fun _=>(rfail4_has h1 h).bind fun r hr=> .ret hr.go) fun _=>?_;refine(sidx_has h1.1 hq).bind fun c _=> .ret ?_;have:=h1.1;simp only;rw[w64_id Om Om];exact⟨⟨⟨by omega,by omega⟩,by omega⟩,by omega⟩
 cases z with
 |inr r=>exact .ret hz
 |inl r=>
   refine Has.bind (P:=Go1 s p e) (.ite (fun _=>(rfail4_has hz.1 h).bind fun r hr=> .ret hr.go) fun _=> .ret ⟨hz.1,fun he=>⟨he,hz.2⟩⟩) fun r hr=> .ret hr
theorem bounds_has(hs:SmT s)(hN:1000010≤N)(h:Pos s p)(hp:p<s.size):Has (F_190 N s p e) fun r=>Go1 s (p+1) e (r.1,r.2.1):=by
 unfold F_190;have hs':=hs;unfold SmT at hs';have h0:=h.1;rw[w64_id (x:=p+1) Om Om];have hp1:Pos s (p+1):=⟨by omega,by omega⟩;refine(number_has hs hN hp1).bind fun⟨q,e1,n1⟩ h1=>(take_5_has hs h1.1).bind fun⟨q2,b2⟩ h2=>?_;simp only at h1 h2;have h21:=h2.2.1;have h20:=h2.1;simp only at h21 h20;refine Has.bind (P:=fun r=>Go1 s (p+1) e (r.1,r.2.1)∧Pos s r.2.2.1) (.ite (fun _=>?_) fun _=> .ret ⟨⟨h20,fun he=>⟨(h1.2 he).1,by have:=(h1.2 he).2;simp only at this ⊢;omega⟩⟩,hp1⟩) fun⟨q3,e3,k3,m3⟩ ⟨h3,h3k⟩=>?_
 ·refine(on_9_has h20).bind fun b hb=>?_;refine Has.bind (P:=fun r=>Go1 s (p+1) e (r.1,r.2.1)∧Pos s r.2.2.1) (.ite (fun _=>?_) fun _=> .ret ⟨⟨h20,fun he=>⟨(h1.2 he).1,by have:=(h1.2 he).2;simp only at this ⊢;omega⟩⟩,hp1⟩) fun r hr=> .ret hr;exact(number_has hs hN h20).bind fun r hr=> .ret ⟨Go1.to hr fun he=>⟨(h1.2 he).1,by have:=(h1.2 he).2;simp only at this ⊢;omega⟩,h20⟩
 simp only at h3 h3k;have h30:=h3.1;simp only at h30;refine Has.bind (P:=Go1 s (p+1) e) ?_ fun r hr=> .ret hr;refine Has.bind (P:=fun _=>True) (.ite (fun _=>more_has.bind fun _ _=> .ret trivial) fun _=> .ret trivial) fun b _=>?_;refine Has.bind (P:=Go1 s (p+1) e) ?_ fun r hr=> .ret hr;refine .ite (fun _=>(rfail1_has h30 ⟨by omega,Int.le_refl _⟩).bind fun r hr=> .ret hr.go) fun _=>?_;refine(take_6_has hs h30).bind fun⟨q4,b4⟩ h4=>?_;have h40:=h4.1;have h41:=h4.2.1;simp only at h40 h41;refine Has.bind (P:=Go1 s (p+1) e) ?_ fun r hr=> .ret hr;refine .ite (fun _=>(rfail3_has h40 h40).bind fun r hr=> .ret hr.go) fun _=>?_;refine Has.bind (P:=fun _=>True) (.ite (fun _=> .ite (fun _=> .ret trivial) fun _=> .ret trivial) fun _=> .ret trivial) fun b _=>?_;refine Has.bind (P:=Go1 s (p+1) e) ?_ fun r hr=> .ret hr;exact .ite (fun _=>(rfail4_has h40 h3k).bind fun r hr=> .ret hr.go) fun _=> .ret ⟨h40,fun he=>⟨(h3.2 he).1,by have:=(h3.2 he).2;simp only at this ⊢;omega⟩⟩
theorem rname_has(hs:SmT s)(hN:1000010≤N)(h:Pos s p)(hp:p<s.size):Has (F_194 N s p e) fun r=>Go1 s (p+1) e (r.1,r.2.1)∧r.2.2.2.size≤s.size:=by
 unfold F_194;have hs':=hs;unfold SmT at hs';have h0:=h.1;rw[w64_id (x:=p+1) Om Om];refine(sslc_has Om Om (Int.le_refl _)).bind fun r hr=>?_;unfold F_245 F_4;refine Has.bind (P:=fun k:Int=> -1≤k∧k<r.size) (Has.bind (P:=fun k:Int=> -1≤k∧k<r.size) (.ret (sfind_lt r 125)) fun k hk=> .ret hk) fun k hk=> .ite (fun _=>?_) fun hk0=>?_
 ·exact(rfail1_has h ⟨by omega,Int.le_refl _⟩).bind fun r hr=> .ret ⟨hr.go,by simp⟩
 have hk0:0≤k:=by simpa using hk0
 rw[w64_id (x:=p+1+k) Om Om,w64_id (x:=p+1+k+1) Om Om];refine(sslc_has Om Om Om).bind fun nm hnm=>(isName_has (by unfold SmT;omega) hN).bind fun b _=> .ite (fun _=>?_) fun _=>?_
 ·exact(rfail2_has h ⟨by omega,by omega⟩).bind fun r hr=> .ret ⟨hr.go,by simp⟩
 exact(sslc_has Om Om Om).bind fun nm2 hnm2=> .ret ⟨⟨⟨by simp only;omega,by simp only;omega⟩,fun he=>⟨he,by simp only;omega⟩⟩,by simp only;omega⟩
end
abbrev T11:=Int×Int×Int×Int×Int×Int×Int×List Nd×Int×Int×BA
def nd11(r:T11):Nd:=Nd.of (r.2.2.1,(r.2.2.2.1,r.2.2.2.2.1,r.2.2.2.2.2.1,r.2.2.2.2.2.2.1),r.2.2.2.2.2.2.2.1,r.2.2.2.2.2.2.2.2.1,r.2.2.2.2.2.2.2.2.2.1,r.2.2.2.2.2.2.2.2.2.2)
theorem cnt_of(k:Int)(q:Int×Int×Int×Int)(l:List Nd)(a b:Int)(t:BA):cnt (Nd.of (k,q,l,a,b,t))=1+cntL l:=by
 rw[cnt_un];rfl
def EX(s:BA)(p e c:Int)(r:T11):Prop:=Pos s r.1∧(eOk errIds r.2.1=false→eOk errIds e=false∧p≤r.1∧NdQ (nd11 r)∧(cnt (nd11 r):Int)≤r.1-p+c)
section
variable {N:Nat}{s:BA}{p e c:Int}
theorem EX.er{r:T11}(h:Er s (r.1,r.2.1)):EX s p e c r:=⟨h.1,fun he=>by rw[h.2]at he;cases he⟩
theorem EX.leaf{q x k a b c' d:Int}{t:BA}(h:Go1 s (p+1) e (q,x))(ht:t.size≤maxLen):EX s p e 0 (q,x,k,a,b,c',d,[],0,0,t):=⟨h.1,fun he=>by
 have:=h.2 he;simp only at this;refine⟨this.1,by simp only;omega,NdQ.of ht (fun x hx=>(by cases hx)),?_⟩;unfold nd11;rw[cnt_of];simp only[cntL];omega⟩
theorem maxM:1000000≤maxLen:=by decide
theorem emp0:ByteArray.empty.size≤maxLen:=by decide
theorem atom_has{self_:BA→Int→Int→Option T11}(hs:SmT s)(hN:1000010≤N)(h:Pos s p)(hp:p<s.size)(IH: ∀q x,Pos s q→p<q→Has (self_ s q x) (EX s q x 2)):Has (F_188 N self_ s p e) (EX s p e 0):=by
 unfold F_188;have hs':=hs;unfold SmT at hs';have h0:=h.1;refine(take_has hs h).bind fun⟨q,b⟩ ⟨h1,h2,h3,h4⟩=>?_;simp only at h1 h2 h3 h4;refine .ite (fun hb=>?_) fun hb=>?_
 ·obtain⟨rfl,he⟩:=h3 hb;refine(IH _ e h1 Om).bind fun⟨q1,e1,k,a1,a2,a3,a4,ks,mn,mx,tx⟩ ⟨g1,g2⟩=>?_;simp only at g1 g2;refine Has.bind (P:=fun r=>Pos s r.1∧(r.2=false→eOk errIds e1=false→r.1=q1+1)) (.ite (fun _=>(take_8_has hs g1).bind fun⟨q2,b2⟩ ⟨k1,k2,k3,k4⟩=> .ret ⟨k1,fun hb2 _=>(k3 (by simpa using hb2)).1⟩) fun hx=> .ret ⟨g1,fun _ he1=>by simp[he1]at hx⟩) fun⟨q3,b3⟩ ⟨k1,k2⟩=>?_;simp only at k1 k2;refine Has.bind (P:=fun r=>Pos s r.1∧(eOk errIds r.2=false→eOk errIds e1=false∧r.1=q1+1)) (.ite (fun _=>(rfail1_has k1 ⟨by omega,Int.le_refl _⟩).bind fun r hr=> .ret ⟨hr.1,fun he1=>by rw[hr.2]at he1;cases he1⟩) fun hb3=> .ret ⟨k1,fun he1=>⟨he1,k2 (by simpa using hb3) he1⟩⟩) fun⟨q4,e4⟩ ⟨l1,l2⟩=> .ret ⟨l1,fun he4=>?_⟩;simp only at l1 l2 he4;obtain⟨m1,m2⟩:=l2 he4;obtain⟨n1,n2,n3,n4⟩:=g2 m1;refine⟨he,by simp only;omega,n3,?_⟩;have n4:(cnt (nd11 (q4,e4,k,a1,a2,a3,a4,ks,mn,mx,tx)):Int)≤q1-(p+1)+2:=n4;simp only;omega
 obtain rfl:=h4 (by simpa using hb);have go: ∀{x:Int×Int},Go1 s (q+1) e x→Go1 s (q+1) e (x.1,x.2):=fun h=>h;refine(on_2_has h).bind fun b _=> .ite (fun _=>?_) fun _=>?_
 ·refine Has.bind (P:=fun r=>Pos s r.2.2.2.2.1∧(eOk errIds r.2.2.2.2.2=false→q<r.2.2.2.2.1)) ((bracket_has hs hN h).bind fun r hr=> .ret hr) fun⟨w1,w2,w3,w4,q2,x⟩ ⟨k1,k2⟩=>?_;simp only at k1 k2;refine Has.bind (P:=Go1 s (q+1) e) (.ite (fun hx=>(rfail_has k1 k1 hx).bind fun r hr=> .ret hr.go) fun hx=> .ret ⟨k1,fun he=>⟨he,by have:=k2 (by simpa using hx);simp only;omega⟩⟩) fun⟨q3,x3⟩ hg=> .bind (P:=fun _=>True) (.ret trivial) fun _ _=> .ret (EX.leaf hg emp0)
 refine(on_3_has h).bind fun b _=> .ite (fun _=>(rname_has hs hN h hp).bind fun⟨q2,x2,k2,t2⟩ ⟨g1,g2⟩=> .ret (EX.leaf g1 (Nat.le_trans g2 (Nat.le_trans hs' maxM)))) fun _=>?_;refine(take_1_has hs h).bind fun⟨q2,b2⟩ ⟨k1,k2,k3,k4⟩=> .ite (fun hb2=>?_) fun hb2=>?_
 ·obtain⟨hq,he⟩:=k3 hb2;unfold F_229;refine Has.bind (P:=fun _=>True) ((sone_has Om Om).bind fun _ _=>(not_has _ _ _ _ hN).bind fun _ _=> .ret trivial) fun _ _=> .bind (P:=fun _=>True) (.ret trivial) fun _ _=> .ret (EX.leaf ⟨k1,fun _=>⟨he,by simp only at hq ⊢;omega⟩⟩ emp0)
 obtain rfl:=k4 (by simpa using hb2);refine(on_5_has h).bind fun b _=> .ite (fun _=>(rfail3_has h h).bind fun r hr=> .ret (EX.er hr)) fun _=>?_;refine(read_has hs hN h.1 h.2).bind fun⟨v,q3,x⟩ ⟨l1,l2,l3,l4,l5⟩=>?_;simp only at l1 l2 l3 l4 l5;refine Has.bind (P:=Go1 s (q2+1) e) (.ite (fun hx=>(rfail_has l1 l1 hx).bind fun r hr=> .ret hr.go) fun hx=> .ret ⟨l1,fun he=>⟨he,by have:=l3 (by simpa using hx);simp only;omega⟩⟩) fun⟨q4,x4⟩ hg=>(sone_has l4 l5).bind fun _ _=> .bind (P:=fun _=>True) (.ret trivial) fun _ _=> .ret (EX.leaf hg emp0)
def PA{α β:Type}(S:α→Prop)(Q:β→Prop):α ⊕ β→Prop
 | .inl a=>S a
 | .inr z=>Q z
theorem bounded_has(hs:SmT s)(h:Pos s p):Has (F_189 N s p e) (OnP s p e):=by
 unfold F_189;unfold SmT at hs;have h0:=h.1;refine Has.bind (P:=OnP s p e) ?_ fun b hb=> .ret hb;refine(on_3_has h).bind fun b hb=> .ite (fun hb2=> .ite (fun hq=>?_) fun _=> .ret fun h=>(by cases h)) fun _=> .ret fun h=>(by cases h);have:=hb hb2;rw[w64_id (x:=p+1) Om Om]at hq ⊢;have hq:p+1<s.size:=by simpa using hq
 exact(sidx_has Om hq).bind fun c _=> .bind (P:=fun _=>True) ⟨_,rfl,trivial⟩ fun k _=> .ret fun _=>this
def mu(s:BA)(q x:Int):Nat:=if eOk errIds x=true then 0 else s.size+1-q.toNat
theorem signs_has{r:T11}(hs:SmT s)(hN:1000010≤N)(hr:EX s p e 0 r):Has (F_236 N s r.1 r.2.1 r.2.2.1 r.2.2.2.1 r.2.2.2.2.1 r.2.2.2.2.2.1 r.2.2.2.2.2.2.1 r.2.2.2.2.2.2.2.1 r.2.2.2.2.2.2.2.2.1 r.2.2.2.2.2.2.2.2.2.1 r.2.2.2.2.2.2.2.2.2.2)
 fun z=>match z with| .inl r'=>EX s p e 0 r'∧mu s r'.1 r'.2.1<mu s r.1 r.2.1| .inr r'=>EX s p e 0 r':=by
 obtain⟨h1,h2⟩:=hr;obtain⟨q,x,k,a1,a2,a3,a4,ks,mn,mx,tx⟩:=r;simp only at h1 h2;have h10:=h1.1;have h11:=h1.2;have hs':=hs;unfold SmT at hs';unfold F_236;let SA:Int×Int×Int×Int→Prop:=fun a=>eOk errIds x=false∧Go1 s (q+1) x (a.1,a.2.1);let SB:Int×Int×List Nd×Int×Int→Prop:=fun b=>eOk errIds x=false∧Go1 s (q+1) x (b.1,b.2.1)∧b.2.2.1= [nd11 (q,x,k,a1,a2,a3,a4,ks,mn,mx,tx)];let PE:T11 ⊕ T11→Prop:=PA (fun _=>False) (EX s p e 0)
 have SAt: ∀{q':Int} {b:Bool} {u v:Int},TkR s q x (q',b)→b=true→SA (q',x,u,v):=fun ht hb=>by
  obtain⟨t1,t2,t3,t4⟩:=ht;obtain⟨t5,t6⟩:=t3 hb;exact⟨t6,t1,fun he=>⟨he,by simp only at t5 ⊢;omega⟩⟩
 refine Has.bind (P:=PA SB PE) ?_ fun z hz=>?_
 ·refine Has.bind (P:=PA SA (PA SB PE)) ?_ fun z hz=>?_
  ·refine(take_2_has hs h1).bind fun⟨q1,b1⟩ t1=>?_
   refine Has.bind (P:=PA SA (PA SA (PA SB PE))) (.ite (fun hb=> .ret (SAt t1 hb)) fun hb=>?_) fun z hz=>by
    cases z with
    |inl a=>exact .ret hz
    |inr z=>exact .ret hz
   have e1:q1=q:=t1.2.2.2 (by simpa using hb);subst e1;refine(take_3_has hs h1).bind fun⟨q2,b2⟩ t2=>?_
   refine Has.bind (P:=PA SA (PA SA (PA SA (PA SB PE)))) (.ite (fun hb=> .ret (SAt t2 hb)) fun hb=>?_) fun z hz=>by
    cases z with
    |inl a=>exact .ret hz
    |inr z=>exact .ret hz
   have e2:q2=q1:=t2.2.2.2 (by simpa using hb);subst e2;refine(take_4_has hs h1).bind fun⟨q3,b3⟩ t3=>?_
   refine Has.bind (P:=PA SA (PA SA (PA SA (PA SA (PA SB PE))))) (.ite (fun hb=> .ret (SAt t3 hb)) fun hb=>?_) fun z hz=>by
    cases z with
    |inl a=>exact .ret hz
    |inr z=>exact .ret hz
   have e3:q3=q2:=t3.2.2.2 (by simpa using hb);subst e3;refine(bounded_has hs h1).bind fun b hb=> .ite (fun hb2=>?_) fun _=> .ret (show EX s p e 0 _ from⟨h1,h2⟩);obtain⟨g1,g2⟩:=hb hb2;exact(bounds_has hs hN h1 g1).bind fun⟨q4,x4,n1,n2⟩ hg=> .ret ⟨g2,hg⟩
  cases z with
  |inl a=>exact .ret ⟨hz.1,hz.2,rfl⟩
  |inr z=>exact .ret hz
 cases z with
 |inl b=>
   obtain⟨q',x',l,mn',mx'⟩:=b;obtain⟨g1,g2,g3⟩:=hz;simp only at g2 g3;subst g3;obtain⟨n1,n2,n3,n4⟩:=h2 g1;refine .ret ⟨⟨g2.1,fun he=>?_⟩,?_⟩
   ·have g4:=(g2.2 he).2;simp only at g4;refine⟨n1,by simp only;omega,NdQ.of emp0 fun y hy=>by rw[List.mem_singleton.1 hy];exact n3,?_⟩;show(cnt (Nd.of _):Int)≤_;unfold nd11;rw[cnt_of];simp only[cntL];unfold nd11 at n4;simp only at n4 ⊢;omega
   unfold mu;simp only;rw[g1,if_neg Bool.false_ne_true];split
   ·omega
   rename_i hx;have g4:=(g2.2 (by simpa using hx)).2;have:=g2.1.1;simp only at g4 this;omega
 |inr z=>
   cases z with
   |inl r=>exact(show False from hz).elim
   |inr r=>exact .ret hz
theorem piece_has{self_:BA→Int→Int→Option T11}(hs:SmT s)(hN:1000010≤N)(h:Pos s p)(hp:p<s.size)(IH: ∀q x,Pos s q→p<q→Has (self_ s q x) (EX s q x 2)):Has (F_83 N self_ s p e) (EX s p e 0):=by
 unfold F_83;unfold SmT at hs;refine(atom_has hs hN h hp IH).bind fun r hr=>?_;refine Has.loop (EX s p e 0) (fun r=>mu s r.1 r.2.1) _ hr (by unfold mu;split<;>omega) fun r hr=>?_;refine(signs_has hs hN hr).mono fun z hz=>?_;cases z<;>exact hz
end
theorem cntL_app1: ∀(l:List Nd) (x:Nd),cntL (l++ [x])=cntL l+cnt x
 | [],x=>by simp[cntL]
 |y::l,x=>by simp only[List.cons_append,cntL,cntL_app1 l x];omega
theorem app_has{α:Type}{xs ys:List α}(h:xs.length+ys.length≤4294967296):Has (app xs ys) fun zs=>zs=xs++ys:=⟨_,app_eq h,rfl⟩
def LX(s:BA)(p e c:Int)(r:Int×Int×List Nd):Prop:=Pos s r.1∧(eOk errIds r.2.1=false→eOk errIds e=false∧p≤r.1∧(∀y∈r.2.2,NdQ y)∧(cntL r.2.2:Int)≤r.1-p+c)
theorem nd11_un(q x:Int)(y:Nd):nd11 (q,x,y.un.1,y.un.2.1.1,y.un.2.1.2.1,y.un.2.1.2.2.1,y.un.2.1.2.2.2,y.un.2.2.1,y.un.2.2.2.1,y.un.2.2.2.2.1,y.un.2.2.2.2.2)=y:=Nd.of_eq y
section
variable {N:Nat}{s:BA}{p e:Int}
theorem LX.out{q x c k:Int}{l:List Nd}(h:LX s p e c (q,x,l)):
 Has (if((l.length:Int)==1)=true then(idx l 0 >>= fun y=>some (q,x,y.un.1,y.un.2.1.1,y.un.2.1.2.1,y.un.2.1.2.2.1,y.un.2.1.2.2.2,y.un.2.2.1,y.un.2.2.2.1,y.un.2.2.2.2.1,y.un.2.2.2.2.2))else(some (q,x,k,0,0,0,0,l,0,0,ByteArray.empty))) (EX s p e (c+1)):=by
 obtain⟨h1,h2⟩:=h;simp only at h1 h2;refine .ite (fun hl=>?_) fun _=> .ret ⟨h1,fun he=>?_⟩
 ·have hl:(l.length:Int)=1:=by simpa using hl
  refine(idx_has (Int.le_refl 0) Om).bind fun y hy=> .ret ⟨h1,fun he=>?_⟩;obtain⟨n1,n2,n3,n4⟩:=h2 he;have:=cntL_mem hy;rw[nd11_un];exact⟨n1,n2,n3 y hy,by simp only;omega⟩
 obtain⟨n1,n2,n3,n4⟩:=h2 he;refine⟨n1,n2,NdQ.of emp0 n3,?_⟩;unfold nd11;rw[cnt_of];simp only;omega
theorem branch_has{self_:BA→Int→Int→Option T11}(hs:SmT s)(hN:1000010≤N)(h:Pos s p)(IH: ∀q x,Pos s q→p<q→Has (self_ s q x) (EX s q x 2)):Has (F_81 N self_ s p e) (EX s p e 1):=by
 unfold F_81;have hp0:=h.1;have hs':=hs;unfold SmT at hs';refine Has.bind (P:=LX s p e 0) ?_ fun⟨q,x,l⟩ hr=>hr.out;refine Has.loop (LX s p e 0) (fun r=>mu s r.1 r.2.1) _ ⟨h,fun he=>⟨he,Int.le_refl _,fun y hy=>(by cases hy),by simp[cntL]⟩⟩ (by unfold mu;split<;>omega) fun⟨q,x,l⟩ hr=>?_;have hr':=hr;obtain⟨h1,h2⟩:=hr';simp only at h1 h2;have h10:=h1.1;have h11:=h1.2;unfold F_263;refine Has.bind (P:=OnP s q x) (more_has.bind fun b hb=> .ite (fun hb2=>(on_has h1).bind fun b2 _=> .ret fun _=>hb hb2) fun _=> .ret fun h=>(by cases h)) fun b hb=> .ite (fun hb2=>?_) fun _=> .ret hr;obtain⟨hq,hx⟩:=hb hb2;obtain⟨n1,n2,n3,n4⟩:=h2 hx;have hl:=cntL_len l;refine(piece_has hs hN h1 hq fun q' x' hq' hlt=>IH q' x' hq' Om).bind fun⟨q2,x2,k,a1,a2,a3,a4,ks,mn,mx,tx⟩ ⟨g1,g2⟩=>?_;simp only at g1 g2;refine(app_has (by simp only[List.length_singleton];omega)).bind fun l' hl'=>?_;subst hl';refine .ret ⟨⟨g1,fun he=>?_⟩,?_⟩
 ·obtain⟨m1,m2,m3,m4⟩:=g2 he;refine⟨n1,by simp only;omega,fun y hy=>?_,?_⟩
  ·rcases List.mem_append.1 hy with hy|hy
   ·exact n3 y hy
   rw[List.mem_singleton.1 hy];exact m3
  simp only;rw[cntL_app1];unfold nd11 at m4;simp only at m4;omega
 unfold mu;simp only;rw[hx,if_neg Bool.false_ne_true];split
 ·omega
 rename_i hx2;obtain⟨m1,m2,m3,m4⟩:=g2 (by simpa using hx2);have:=cnt_un (nd11 (q2,x2,k,a1,a2,a3,a4,ks,mn,mx,tx));omega
theorem expr_has(hs:SmT s): ∀(n:Nat) (p e:Int) (N:Nat),Pos s p→(s.size:Int)-p≤n→1000011+n≤N→Has (F_38 N s p e) (EX s p e 2):=by
 have hs':=hs;unfold SmT at hs';intro n
 induction n with
 |zero=>
   intro p e N h hn hN;obtain⟨M,rfl⟩: ∃m,N=m+1:=⟨N-1,by omega⟩
   have IH: ∀q x,Pos s q→p<q→Has (F_38 M s q x) (EX s q x 2):=fun q x hq hlt=>by
    have:=hq.2;omega
   exact key M p e h Om IH
 |succ n ih=>
   intro p e N h hn hN;obtain⟨M,rfl⟩: ∃m,N=m+1:=⟨N-1,by omega⟩;exact key M p e h Om fun q x hq hlt=>ih q x M hq Om Om
where
 key (M:Nat) (p e:Int) (h:Pos s p) (hM:1000010≤M) (IH: ∀q x,Pos s q→p<q→Has (F_38 M s q x) (EX s q x 2)):Has (F_38 (M+1) s p e) (EX s p e 2):=by
  have hp0:=h.1;have hs':=hs;unfold SmT at hs';rw[F_38];refine(branch_has hs hM h IH).bind fun⟨q1,x1,k,a1,a2,a3,a4,ks,mn,mx,tx⟩ ⟨h1,h2⟩=>?_;simp only at h1 h2;refine Has.bind (P:=LX s p e 1) ?_ fun⟨q,x,l⟩ hr=>hr.out;refine Has.loop (LX s p e 1) (fun r=>mu s r.1 r.2.1) _ ⟨h1,fun he=>?_⟩ (by unfold mu;split<;>omega) fun⟨q,x,l⟩ hr=>?_
  ·obtain⟨n1,n2,n3,n4⟩:=h2 he;refine⟨n1,n2,fun y hy=>by rw[List.mem_singleton.1 hy];exact n3,?_⟩;have n4:(cnt (Nd.of (k,(a1,a2,a3,a4),ks,mn,mx,tx)):Int)≤q1-p+1:=n4;simp only[cntL];omega
  have hr':=hr;obtain⟨g1,g2⟩:=hr';simp only at g1 g2;have g10:=g1.1;have g11:=g1.2;unfold F_264;refine(take_7_has hs g1).bind fun⟨q2,b⟩ ⟨t1,t2,t3,t4⟩=> .ite (fun hb=>?_) fun hb=>?_
  ·obtain⟨t5,hx⟩:=t3 hb;simp only at t1 t2 t5;obtain⟨n1,n2,n3,n4⟩:=g2 hx;have hl:=cntL_len l;refine(branch_has hs hM t1 fun q' x' hq' hlt=>IH q' x' hq' Om).bind fun⟨q3,x3,k,a1,a2,a3,a4,ks,mn,mx,tx⟩ ⟨k1,k2⟩=>?_;simp only at k1 k2;refine(app_has (by simp only[List.length_singleton];omega)).bind fun l' hl'=>?_;subst hl';refine .ret ⟨⟨k1,fun he=>?_⟩,?_⟩
   ·obtain⟨m1,m2,m3,m4⟩:=k2 he;refine⟨n1,by simp only;omega,fun y hy=>?_,?_⟩
    ·rcases List.mem_append.1 hy with hy|hy
     ·exact n3 y hy
     rw[List.mem_singleton.1 hy];exact m3
    simp only;rw[cntL_app1];unfold nd11 at m4;simp only at m4;omega
   unfold mu;simp only;rw[hx,if_neg Bool.false_ne_true];split
   ·omega
   rename_i hx2;obtain⟨m1,m2,m3,m4⟩:=k2 (by simpa using hx2);have:=cnt_un (nd11 (q3,x3,k,a1,a2,a3,a4,ks,mn,mx,tx));have:=k1.2;omega
  have e:q2=q:=t4 (by simpa using hb);subst e;exact .ret hr
end
end Go.Proofs.YtnkednnnkifenaaGreatDoor
