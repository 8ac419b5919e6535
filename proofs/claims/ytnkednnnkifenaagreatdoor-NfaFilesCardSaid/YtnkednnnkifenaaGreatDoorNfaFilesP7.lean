import Derived.Test.YtnkednnnkifenaaGreatDoorNfaFilesP6
namespace Go.Proofs.YtnkednnnkifenaaGreatDoor
open Go Go.Eng
set_option maxRecDepth 100000
section
variable {N:Nat}
theorem splitC_has{σ:Type}{Y:ByteArray→σ→Option (σ×Bool)}{st:σ}{s:ByteArray}(I:Nat→σ→Prop)(Q R:σ→Prop)(hs:Sm s)(hN:1000010≤N)(h0:I s.size st)
 (hY: ∀(n:Nat) (x:ByteArray) (st:σ),I n st→n≤s.size→x.size+1≤n→Has (Y x st) fun q=>(q.2=true→I (n-(x.size+1)) q.1)∧(q.2=false→R q.1))
 (hE: ∀(x:ByteArray) (st:σ),I x.size st→x.size≤s.size→Has (Y x st) fun q=>(q.2=true→Q q.1)∧(q.2=false→R q.1)):
 Has (F_55 N Y st s) fun q=>(q.2=true→Q q.1)∧(q.2=false→R q.1):=by
 unfold F_55;unfold Sm at hs;refine Has.bind (P:=fun z=>match z with| .inl r=>I r.2.size r.1∧r.2.size≤s.size| .inr r=>(r.2=true→Q r.1)∧(r.2=false→R r.1)) ?_ fun z hz=>?_
 ·refine Has.loop (fun r:σ×ByteArray=>I r.2.size r.1∧r.2.size≤s.size) (fun r=>r.2.size) _ ⟨h0,Nat.le_refl _⟩ (by simp only;omega) fun⟨st,r⟩ ⟨h1,h2⟩=>?_;simp only at h1 h2;show Has (F_145 N Y st r) _;unfold F_145 F_3 F_188;refine Has.bind (P:=fun k:Int=> -1≤k∧k<r.size) ((index_has (N:=N) 44 (s:=r)).bind fun k hk=> .ret hk) fun k ⟨k1,k2⟩=>?_;refine .ite (fun _=> .ret ⟨h1,h2⟩) fun hk=>?_;have hk:0≤k:=by simpa using hk
  rw[w64_id (x:=k+0) (by omega) (by omega),w64_id (x:=k+1) (by omega) (by omega)];refine(sslc_has (Int.le_refl 0) (by omega) (by omega)).bind fun x hx=>(hY r.size x st h1 h2 (by omega)).bind fun⟨st2,b⟩ ⟨g1,g2⟩=>?_;simp only at g1 g2;refine .ite (fun hb=> .ret ⟨fun h=>(by cases h),fun _=>g2 (by simpa using hb)⟩) fun hb=>?_;have g1:=g1 (by simpa using hb);refine(sslc_has (by omega) (by omega) (Int.le_refl _)).bind fun r2 hr2=> .ret ⟨⟨?_,by simp only;omega⟩,by simp only;omega⟩;have e:r2.size=r.size-(x.size+1):=by omega
  simp only;rw[e];exact g1
 cases z with
 |inr r=>exact .ret hz
 |inl r=>exact(hE r.2 r.1 hz.1 hz.2).bind fun q hq=> .ret hq
theorem splitL_has{σ:Type}{Y:ByteArray→σ→Option (σ×Bool)}{st:σ}{s:ByteArray}(I:Nat→σ→Prop)(Q R:σ→Prop)(hs:Sm s)(hN:1000010≤N)(h0:I s.size st)
 (hY: ∀(n:Nat) (x:ByteArray) (st:σ),I n st→n≤s.size→x.size+1≤n→Has (Y x st) fun q=>(q.2=true→I (n-(x.size+1)) q.1)∧(q.2=false→R q.1))
 (hE: ∀(x:ByteArray) (st:σ),I x.size st→x.size≤s.size→Has (Y x st) fun q=>(q.2=true→Q q.1)∧(q.2=false→R q.1)):
 Has (F_54 N Y st s) fun q=>(q.2=true→Q q.1)∧(q.2=false→R q.1):=by
 unfold F_54;unfold Sm at hs;refine Has.bind (P:=fun z=>match z with| .inl r=>I r.2.size r.1∧r.2.size≤s.size| .inr r=>(r.2=true→Q r.1)∧(r.2=false→R r.1)) ?_ fun z hz=>?_
 ·refine Has.loop (fun r:σ×ByteArray=>I r.2.size r.1∧r.2.size≤s.size) (fun r=>r.2.size) _ ⟨h0,Nat.le_refl _⟩ (by simp only;omega) fun⟨st,r⟩ ⟨h1,h2⟩=>?_;simp only at h1 h2;show Has (F_144 N Y st r) _;unfold F_144 F_234 F_189;refine Has.bind (P:=fun k:Int=> -1≤k∧k<r.size) ((index_has (N:=N) 10 (s:=r)).bind fun k hk=> .ret hk) fun k ⟨k1,k2⟩=>?_;refine .ite (fun _=> .ret ⟨h1,h2⟩) fun hk=>?_;have hk:0≤k:=by simpa using hk
  rw[w64_id (x:=k+0) (by omega) (by omega),w64_id (x:=k+1) (by omega) (by omega)];refine(sslc_has (Int.le_refl 0) (by omega) (by omega)).bind fun x hx=>(hY r.size x st h1 h2 (by omega)).bind fun⟨st2,b⟩ ⟨g1,g2⟩=>?_;simp only at g1 g2;refine .ite (fun hb=> .ret ⟨fun h=>(by cases h),fun _=>g2 (by simpa using hb)⟩) fun hb=>?_;have g1:=g1 (by simpa using hb);refine(sslc_has (by omega) (by omega) (Int.le_refl _)).bind fun r2 hr2=> .ret ⟨⟨?_,by simp only;omega⟩,by simp only;omega⟩;have e:r2.size=r.size-(x.size+1):=by omega
  simp only;rw[e];exact g1
 cases z with
 |inr r=>exact .ret hz
 |inl r=>exact(hE r.2 r.1 hz.1 hz.2).bind fun q hq=> .ret hq
abbrev LtT:=ByteArray×Nd×Int
abbrev OnT:=List ByteArray×Nd×(ByteArray×ByteArray)×Int
structure FI(C:List ByteArray)(Ls:List LtT)(Os:List OnT):Prop where
 c:C.length≤8
 s: ∀x∈C,x.size≤12
 l:Ls.length≤32
 o:Os.length≤48
 lt: ∀x∈Ls,cnt x.2.1<700∧NdQ x.2.1∧x.1.size≤12
 ot: ∀x∈Os,cnt x.2.1<700∧NdQ x.2.1∧x.1.length≤500∧(∀y∈x.1,y.size≤12)∧x.2.2.1.1.size≤12∧x.2.2.1.2.size≤12
def FR(s:ByteArray)(r:List ByteArray×List LtT×List OnT×Int×Int):Prop:=FI r.1 r.2.1 r.2.2.1∧Pos s r.2.2.2.1
theorem app_mem{α:Type}{l:List α}{x y:α}(h:y∈l++ [x]):y∈l∨y=x:=by
 rcases List.mem_append.1 h with h|h
 ·exact .inl h
 exact .inr (List.mem_singleton.1 h)
variable {C:List ByteArray}{Ls:List LtT}{Os:List OnT}{s:ByteArray}{a p:Int}
theorem cond_has(hf:FI C Ls Os)(hs:s.size≤600)(hN:2000000≤N)(h:Pos s p):Has (F_221 N C Ls Os s a p) (FR s):=by
 unfold F_221;have hsm:Sm s:=by unfold Sm;omega
 have hc:=hf.c;refine(name_has hsm (by omega) h).bind fun⟨q,x,nm,st⟩ ⟨h1,h2,h3,h4⟩=>?_;simp only at h1 h2 h3 h4;refine(over_has h1).bind fun⟨q2,x2⟩ ⟨g1,g2⟩=>(contains_has (by omega) (by omega)).bind fun b _=>(limit_has g1 h3).bind fun⟨q3,x3,ok⟩ ⟨k1,k2,k3⟩=>?_;simp only at g1 g2 k1 k2 k3;refine Has.bind (P:=fun C'=>FI C' Ls Os) (.ite (fun hk=>?_) fun _=> .ret hf) fun C' hC=> .ret ⟨hC,k1⟩;obtain⟨m1,m2⟩:=k3 hk;have:=h4 (g2 m1);refine(app_has (by simp only[List.length_singleton];omega)).bind fun C' hC=> .ret ?_;subst hC;refine⟨by simp only[List.length_append,List.length_singleton];omega,fun y hy=>?_,hf.l,hf.o,hf.lt,hf.ot⟩;rcases app_mem hy with hy|rfl
 ·exact hf.s y hy
 exact this
theorem lcontains_has{x:ByteArray}(hl:Ls.length≤1000)(hN:1000010≤N):Has (F_230 N Ls x) fun _=>True:=by
 unfold F_230 F_143;refine Has.bind (P:=fun _=>True) ?_ fun _ _=> .ret trivial;refine Has.bind (P:=fun _=>True) ?_ fun z _=>?_
 ·refine Has.loop (fun i:Int=>0≤i∧i≤Ls.length) (fun i:Int=>Ls.length+1-i.toNat) _ ⟨by omega,by omega⟩ (by simp;omega) fun i hi=>?_;obtain⟨hi0,hi1⟩:=hi;unfold F_290;refine .ite (fun h=>?_) fun _=> .ret trivial;have h:i<Ls.length:=by simpa using h
  refine(idx_has hi0 h).bind fun v _=> .bind (P:=fun _=>True) (.ret trivial) fun _ _=> .ite (fun _=> .ret trivial) fun _=> .ret ?_;simp only;rw[w64_id (by omega) (by omega)];exact⟨⟨by omega,by omega⟩,by omega⟩
 cases z<;>exact .ret trivial
theorem let_has(hf:FI C Ls Os)(hs:s.size≤600)(hN:2000000≤N)(h:Pos s p):Has (F_101 N C Ls Os s a p) (FR s):=by
 unfold F_101;have hsm:Sm s:=by unfold Sm;omega
 have hl:=hf.l;refine(name_has hsm (by omega) h).bind fun⟨q,x,nm,st⟩ ⟨h1,h2,h3,h4⟩=>?_;simp only at h1 h2 h3 h4;refine(expression_has (by omega) hN h1).bind fun⟨q2,x2,k,a1,a2,a3,a4,ks,mn,mx,tx⟩ ⟨e1,e2⟩=>?_;simp only at e1 e2;refine(over_has e1).bind fun⟨q3,x3⟩ ⟨g1,g2⟩=>(lcontains_has (by omega) (by omega)).bind fun b _=>(limit_has g1 h3).bind fun⟨q4,x4,ok⟩ ⟨k1,k2,k3⟩=>?_;simp only at g1 g2 k1 k2 k3;refine Has.bind (P:=fun L'=>FI C L' Os) (.ite (fun hk=>?_) fun _=> .ret hf) fun L' hL=> .ret ⟨hL,k1⟩;obtain⟨m1,m2⟩:=k3 hk;obtain⟨n1,n2,n3⟩:=e2 (g2 m1);have:=h4 n1;refine Has.bind (P:=fun L'=>FI C L' Os) ((app_has (by simp only[List.length_singleton];omega)).bind fun L' hL=> .ret ?_) fun L' hL=> .ret hL;subst hL;refine⟨hf.c,hf.s,by simp only[List.length_append,List.length_singleton];omega,hf.o,fun y hy=>?_,hf.ot⟩;rcases app_mem hy with hy|rfl
 ·exact hf.lt y hy
 exact⟨show cnt (nd11 (q2,x2,k,a1,a2,a3,a4,ks,mn,mx,tx))<700 by omega,n2,this⟩
end
open Go Go.Eng
set_option maxRecDepth 100000
section
variable {N:Nat}{s:ByteArray}{a p:Int}
def LI(s:ByteArray)(q:Int)(m n:Nat)(st:Int×Int×Int×List ByteArray):Prop:=
 Pos s st.1∧q≤st.2.2.1∧st.2.2.1+n=q+m∧(st.2.2.2.length:Int)≤st.2.2.1-q∧(eOk errIds st.2.1=false→(∀y∈st.2.2.2,y.size≤12)∧2*(st.2.2.2.length:Int)≤st.2.2.1-q)
theorem names_has{q:Int}{m n:Nat}{x:ByteArray}{st:Int×Int×Int×List ByteArray}(hs:s.size≤600)(hN:2000000≤N)(h0:0≤q)(hm:q+m≤s.size)(h:LI s q m n st)(hx:x.size≤n):
 Has (F_138 N s a x st.1 st.2.1 st.2.2.1 st.2.2.2) fun r=>r.2=true∧Pos s r.1.1∧r.1.2.2.1=st.2.2.1+(x.size+1)∧(r.1.2.2.2.length:Int)≤r.1.2.2.1-q∧(eOk errIds r.1.2.1=false→(∀y∈r.1.2.2.2,y.size≤12)∧2*(r.1.2.2.2.length:Int)≤r.1.2.2.1-q):=by
 obtain⟨pos,e,at_,l⟩:=st;obtain⟨h1,h2,h3,h4,h5⟩:=h;simp only at h1 h2 h3 h4 h5 ⊢;unfold F_138;have hat:Pos s at_:=⟨by omega,by omega⟩;have hxs:Sm x:=by unfold Sm;omega
 refine Has.bind (P:=fun r=>Pos s r.1∧r.2.2.1=at_+(x.size+1)∧r.2.2.2=l++ [x]∧(eOk errIds r.2.1=false→eOk errIds e=false∧x.size≤12∧1≤x.size)) ?_ fun⟨p2,e2,a2,l2⟩ ⟨g1,g2,g3,g4⟩=> .ret ?_
 ·refine Has.bind (P:=fun r=>Pos s r.1∧(eOk errIds r.2=false→eOk errIds e=false∧x.size≤12∧1≤x.size)) ?_ fun⟨p2,e2⟩ ⟨g1,g2⟩=>?_
  ·refine(isName_has hxs (by omega)).bind fun b hb=>?_;have E: ∀{r:Int×Int},Pos s r.1∧eOk errIds r.2=true→Pos s r.1∧(eOk errIds r.2=false→eOk errIds e=false∧x.size≤12∧1≤x.size):=fun hr=>⟨hr.1,fun he=>by rw[hr.2]at he;cases he⟩;refine Has.bind (P:=fun r=>Pos s r.1∧(eOk errIds r.2=false→eOk errIds e=false∧x.size≤12∧1≤x.size)) (.ite (fun _=>(fail2_has h1 hat).bind fun r hr=> .ret (E hr)) fun hb2=>?_) fun r hr=> .ret hr;refine(contains_has (by omega) (by omega)).bind fun c _=>?_;refine Has.bind (P:=fun r=>Pos s r.1∧(eOk errIds r.2=false→eOk errIds e=false∧x.size≤12∧1≤x.size)) (.ite (fun _=>(fail4_has h1 hat).bind fun r hr=> .ret (E hr)) fun _=> .ret ⟨h1,fun he=>⟨he,hb (by simpa using hb2)⟩⟩) fun r hr=> .ret hr
  refine(app_has (by simp only[List.length_singleton];omega)).bind fun l' hl'=> .ret ⟨g1,?_,hl',g2⟩;simp only;rw[w64_id (x:=(x.size:Int)+1) (by omega) (by omega),w64_id (by omega) (by omega)]
 simp only at g1 g2 g3 g4 ⊢;subst g2 g3;refine⟨trivial,g1,rfl,by simp only[List.length_append,List.length_singleton];omega,fun he=>?_⟩;obtain⟨m1,m2,m3⟩:=g4 he;obtain⟨n1,n2⟩:=h5 m1;refine⟨fun y hy=>?_,by simp only[List.length_append,List.length_singleton];omega⟩;rcases app_mem hy with hy|rfl
 ·exact n1 y hy
 exact m2
theorem list_has(hs:s.size≤600)(hN:2000000≤N)(h:Pos s p):Has (F_48 N s a p) fun r=>Pos s r.1∧(eOk errIds r.2.1=false→r.2.2.length≤500∧ ∀y∈r.2.2,y.size≤12):=by
 unfold F_48;have hsm:Sm s:=by unfold Sm;omega
 refine(behind_has hsm h).bind fun⟨q,x,ok⟩ ⟨h1,h2,h3⟩=> .ite (fun hk=> .ret ⟨h1,fun he=>?_⟩) fun hk=>?_
 ·simp only at he h3;rw[h3 (by simpa using hk)]at he;cases he
 refine(word1_has hsm h1).bind fun⟨q2,w⟩ ⟨g1,g2⟩=> .bind (P:=fun _=>True) (.ret trivial) fun _ _=>?_;simp only at h1 g1 g2;have h10:=h1.1;have g11:=g1.2;refine Has.bind (P:=fun z=>z.2=true∧Pos s z.1.1∧(eOk errIds z.1.2.1=false→z.1.2.2.2.length≤500∧ ∀y∈z.1.2.2.2,y.size≤12)) ?_ fun z hz=>?_
 ·refine(splitC_has (LI s q w.size) (fun st=>Pos s st.1∧(eOk errIds st.2.1=false→st.2.2.2.length≤500∧ ∀y∈st.2.2.2,y.size≤12)) (fun _=>False) (by unfold Sm;omega) (by omega) ⟨g1,Int.le_refl _,rfl,by simp,fun _=>⟨fun y hy=>(by cases hy),by simp⟩⟩ (fun n y st hst _ hy=>?_) fun y st hst hy=>?_).mono fun z hz=>?_
  ·refine(names_has hs hN h10 (by omega) hst (by omega)).mono fun r ⟨r1,r2,r3,r4,r5⟩=>⟨fun _=>⟨r2,?_,?_,r4,r5⟩,fun hf=>by rw[r1]at hf;cases hf⟩
   ·have:=hst.2.1;omega
   have:=hst.2.2.1;omega
  ·refine(names_has hs hN h10 (by omega) hst (Nat.le_refl _)).mono fun r ⟨r1,r2,r3,r4,r5⟩=>⟨fun _=>⟨r2,fun he=>?_⟩,fun hf=>by rw[r1]at hf;cases hf⟩;obtain⟨m1,m2⟩:=r5 he;have:=hst.2.2.1;exact⟨by omega,m1⟩
  cases hb:z.2 with
  |true=>exact⟨rfl,hz.1 hb⟩
  |false=>exact(hz.2 hb).elim
 obtain⟨⟨z1,z2,z3,z4⟩,b⟩:=z;obtain⟨r1,r2⟩:=hz;have r1:b=true:=r1;subst r1;exact .ret r2
end
open Go Go.Eng
set_option maxRecDepth 100000
theorem slc_has{α:Type}{xs:List α}{lo hi:Int}(h0:0≤lo)(h1:lo≤hi)(h2:hi≤xs.length):Has (slc xs lo hi) fun ys=>(ys.length:Int)=hi-lo∧ ∀y∈ys,y∈xs:=by
 unfold slc;rw[if_pos ⟨h0,h1,by omega⟩];refine .ret ⟨by simp;omega,fun y hy=>?_⟩;exact List.mem_of_mem_take (List.mem_of_mem_drop hy)
theorem scount_ge(b:ByteArray)(c:Int):0≤scount b c∧scount b c≤b.size:=by
 unfold scount;rw[Lib.foldl_data]
 have go: ∀(l:List UInt8) (n:Nat),∃m:Nat,l.foldl (fun(n:Int) x=>if x==c.toNat.toUInt8 then n+1 else n) (n:Int)=(m:Int)∧n≤m∧m≤n+l.length:=by
  intro l
  induction l with
  |nil=>intro n;exact⟨n,rfl,Nat.le_refl _,by simp⟩
  |cons a l ih=>
    intro n;rw[List.foldl_cons];by_cases ha:(a==c.toNat.toUInt8)=true
    ·rw[if_pos ha,show((n:Int)+1)=((n+1:Nat):Int) by omega];obtain⟨m,e,m1,m2⟩:=ih (n+1);exact⟨m,e,by omega,by simp only[List.length_cons];omega⟩
    rw[if_neg ha];obtain⟨m,e,m1,m2⟩:=ih n;exact⟨m,e,by omega,by simp only[List.length_cons];omega⟩
 obtain⟨m,e,m1,m2⟩:=go b.data.toList 0;have hl:b.data.toList.length=b.size:=rfl;have e:List.foldl (fun(n:Int) x=>if x==c.toNat.toUInt8 then n+1 else n) ((0:Nat):Int) b.data.toList=(m:Int):=e;rw[e];omega
section
variable {N:Nat}{s:ByteArray}{a p e:Int}
theorem split_has(hs:s.size≤5000)(hN:2000000≤N):Has (F_53 N s) fun l=>1≤l.length∧l.length≤5001∧ ∀y∈l,y.size≤s.size:=by
 unfold F_53 F_116;refine Has.bind (P:=fun l=>1≤l.length∧l.length≤5001∧ ∀y∈l,y.size≤s.size) ?_ fun r hr=> .ret hr;rw[if_neg (by decide)];obtain⟨c0,c1⟩:=scount_ge s 32;refine Has.bind (P:=fun n:Int=>n=scount s 32+1) (.ite (fun _=> .bind (P:=fun n=>n=scount s 32) (.ret rfl) fun n hn=> .ret (by rw[hn,w64_id (by omega) (by omega)])) fun h=>absurd (by decide) h) fun n hn=>?_;rw[w64_id (x:=(s.size:Int)+1) (by omega) (by omega)];have hm:imin n ((s.size:Int)+1)=scount s 32+1:=by unfold imin;split<;>omega
 rw[hm];obtain⟨m,hmm⟩: ∃m:Nat,scount s 32+1=(m:Int):=⟨(scount s 32+1).toNat,by omega⟩;rw[hmm,mk_eq (by omega)];refine .bind (P:=fun l=>l=List.replicate m ByteArray.empty) (.ret rfl) fun l hl=>?_;subst hl;refine Has.bind (P:=fun r:ByteArray×Int×List ByteArray=>0≤r.2.1∧r.2.1<m∧r.2.2.length=m∧r.1.size≤s.size∧ ∀y∈r.2.2,y.size≤s.size) ?_ fun⟨x,i,l⟩ ⟨h1,h2,h3,h4,h5⟩=>?_
 ·refine Has.loop (fun r:ByteArray×Int×List ByteArray=>0≤r.2.1∧r.2.1<m∧r.2.2.length=m∧r.1.size≤s.size∧ ∀y∈r.2.2,y.size≤s.size) (fun r=>m-r.2.1.toNat) _ ⟨Int.le_refl _,by simp only;omega,by simp,Nat.le_refl _,fun y hy=>by rw[List.eq_of_mem_replicate hy];simp⟩ (by simp only;omega) fun⟨x,i,l⟩ ⟨h1,h2,h3,h4,h5⟩=>?_;simp only at h1 h2 h3 h4 h5;show Has (F_268 N s 0 n x i l) _;unfold F_268;rw[w64_id (x:=(s.size:Int)+1) (by omega) (by omega),hm,hmm,w64_id (x:=(m:Int)-1) (by omega) (by omega)];refine .ite (fun hi=>?_) fun _=> .ret ⟨h1,h2,h3,h4,h5⟩;have hi:i<(m:Int)-1:=by simpa using hi
  unfold F_266 F_1;refine Has.bind (P:=fun k:Int=> -1≤k∧k<x.size) ((index_has (N:=N) 32 (s:=x)).bind fun k hk=> .ret hk) fun k ⟨k1,k2⟩=>?_;refine .ite (fun _=> .ret ⟨h1,h2,h3,h4,h5⟩) fun hk=>?_;have hk:0≤k:=by simpa using hk
  rw[w64_id (x:=k+0) (by omega) (by omega),w64_id (x:=k+1) (by omega) (by omega)];refine(sslc_has (Int.le_refl 0) (by omega) (by omega)).bind fun y hy=>(idx_has h1 (by omega)).bind fun _ _=>?_;rw[setI_int h1 (by omega)];refine .bind (P:=fun l'=>l'=l.set i.toNat y) (.ret rfl) fun l' hl'=>(sslc_has (by omega) (by omega) (Int.le_refl _)).bind fun z hz=> .ret ?_;subst hl';rw[w64_id (by omega) (by omega)];refine⟨⟨by simp only;omega,by simp only;omega,by simp only[List.length_set];exact h3,by simp only;omega,fun u hu=>?_⟩,by simp only;omega⟩;rcases List.mem_or_eq_of_mem_set hu with hu|hu
  ·exact h5 u hu
  subst hu;omega
 simp only at h1 h2 h3 h4 h5;refine(idx_has h1 (by omega)).bind fun _ _=>?_;rw[setI_int h1 (by omega)];refine .bind (P:=fun l'=>l'=l.set i.toNat x) (.ret rfl) fun l' hl'=>?_;subst hl';rw[w64_id (by omega) (by omega)];refine(slc_has (Int.le_refl 0) (by omega) (by rw[List.length_set];omega)).bind fun r ⟨r1,r2⟩=> .ret ⟨by omega,by omega,fun u hu=>?_⟩;rcases List.mem_or_eq_of_mem_set (r2 u hu)with hu|hu
 ·exact h5 u hu
 subst hu;exact h4
end
open Go Go.Eng
set_option maxRecDepth 100000
section
variable {N:Nat}{s:ByteArray}{a p e:Int}{l:List ByteArray}{o:Int}
theorem anext_has:Has (F_92 N l o) fun r=>r.1=l∧(r.2.2=true→l≠ []∧r.2.1∈l):=by
 unfold F_92;refine .ite (fun _=> .ret ⟨rfl,fun h=>(by cases h)⟩) fun h=>?_;have hl:l.length≠0:=fun hz=>h (by rw[hz];rfl);exact(idx_has (Int.le_refl 0) (by omega)).bind fun x hx=> .ret ⟨rfl,fun _=>⟨fun h=>(by subst h;cases hx),hx⟩⟩
theorem atake_has(hl:l≠ []):Has (F_119 N l o) fun r=> ∀y∈r.1,y∈l:=by
 unfold F_119;have h1:0<l.length:=List.length_pos_iff.2 hl;refine Has.bind (P:=fun _=>True) ((idx_has (Int.le_refl 0) (by omega)).bind fun x _=> .ret trivial) fun u _=>(slc_has (by omega) (by omega) (Int.le_refl _)).bind fun r ⟨_,hr⟩=>?_;exact Has.bind (P:=fun _=>True) (.ite (fun _=> .ret trivial) fun _=> .ret trivial) fun _ _=> .ret hr
theorem aname_has(hy: ∀y∈l,y.size≤5000)(hN:2000000≤N):Has (F_147 N l o) fun r=>(∀y∈r.1,y∈l)∧r.2.2.1.size≤12:=by
 unfold F_147;refine anext_has.bind fun⟨l2,x,ok⟩ ⟨h1,h2⟩=>?_;simp only at h1 h2;subst h1;refine .ite (fun _=> .ret ⟨fun y hy=>hy,by simp⟩) fun hok=>?_;obtain⟨g1,g2⟩:=h2 (by simpa using hok);refine(isName_has (by unfold Sm;have:=hy x g2;omega) (by omega)).bind fun b hb=> .ite (fun _=> .ret ⟨fun y hy=>hy,by simp⟩) fun hb2=>?_;exact(atake_has g1).bind fun r hr=> .ret ⟨hr,(hb (by simpa using hb2)).1⟩
theorem action_has(hl:l≠ [])(hy: ∀y∈l,y.size≤5000)(hN:2000000≤N):Has (F_182 N l o) fun r=>r.2.2.1.size≤12∧r.2.2.2.1.size≤12:=by
 unfold F_182;refine anext_has.bind fun⟨l2,x,ok⟩ ⟨h1,h2⟩=>?_;simp only at h1 h2;subst h1;refine Has.bind (P:=fun _=>True) (.ite (fun _=> .ret trivial) fun _=> .ret trivial) fun b _=> .ite (fun _=> .bind (P:=fun _=>True) (.ret trivial) fun _ _=> .ret ⟨by simp,by simp⟩) fun _=>?_;refine(atake_has hl).bind fun⟨l3,o3⟩ h3=>?_;simp only at h3;refine Has.bind (P:=PA (fun r=>(∀y∈r.1,y∈l2)∧r.2.2.size≤12) (fun r=>r.2.2.1.size≤12∧r.2.2.2.1.size≤12)) (.ite (fun _=>?_) fun _=> .ret ⟨h3,by simp⟩) fun z hz=>?_
 ·refine(aname_has (fun y hy2=>hy y (h3 y hy2)) hN).bind fun⟨l4,o4,nm,x4⟩ ⟨g1,g2⟩=> .ite (fun _=> .ret ⟨by simp,by simp⟩) fun _=> .ret ⟨fun y hy2=>h3 y (g1 y hy2),g2⟩
 match z,hz with
 | .inr r,hz=>exact .ret hz
 | .inl (l4,o4,nm),hz=>
   obtain⟨g1,g2⟩:=hz;simp only at g1 g2;refine anext_has.bind fun⟨l5,x5,ok5⟩ ⟨k1,k2⟩=>?_;simp only at k1 k2;subst k1;refine .ite (fun _=> .ret ⟨g2,by simp⟩) fun hok=> .ite (fun _=> .bind (P:=fun _=>True) (.ret trivial) fun _ _=> .ret ⟨by simp,by simp⟩) fun _=>?_;obtain⟨m1,m2⟩:=k2 (by simpa using hok);refine(atake_has m1).bind fun⟨l6,o6⟩ h6=>(aname_has (fun y hy2=>hy y (g1 y (h6 y hy2))) hN).bind fun⟨l7,o7,nm7,x7⟩ ⟨n1,n2⟩=> .ite (fun _=> .ret ⟨by simp,by simp⟩) fun _=>?_;refine anext_has.bind fun⟨l8,x8,ok8⟩ _=> .ite (fun _=> .bind (P:=fun _=>True) (.ret trivial) fun _ _=> .ret ⟨by simp,by simp⟩) fun _=> .ret ⟨g2,n2⟩
theorem aparse_has(hs:s.size≤5000)(hN:2000000≤N):Has (F_180 N s) fun r=>r.1.size≤12∧r.2.1.size≤12:=by
 unfold F_180;refine(split_has hs hN).bind fun l ⟨h1,h2,h3⟩=>(action_has (fun h=>by subst h;simp at h1) (fun y hy=>Nat.le_trans (h3 y hy) hs) hN).bind fun⟨_,_,x,y,_⟩ hr=> .bind (P:=fun _=>True) (.ret trivial) fun _ _=> .ret hr
theorem laction_has(hs:s.size≤600)(hN:2000000≤N)(h:Pos s p):Has (F_224 N s a p e) fun r=>r.2.2.1.size≤12∧r.2.2.2.size≤12∧(eOk errIds r.2.1=false→eOk errIds e=false):=by
 unfold F_224;have hsm:Sm s:=by unfold Sm;omega
 refine(behind1_has hsm h).bind fun⟨q,x,ok⟩ ⟨h1,h2⟩=> .ite (fun _=> .ret ⟨by simp,by simp,fun he=>(h2 he).1⟩) fun _=>?_;simp only at h1 h2;have:=h1.1;refine(rest1_has h1).bind fun r hr=>(aparse_has (s:=r) (by omega) hN).bind fun⟨u,v,w,y⟩ ⟨g1,g2⟩=>?_;simp only at g1 g2;refine Has.bind (P:=fun r=>eOk errIds r.2=false→eOk errIds e=false) (.ite (fun hy=>?_) fun _=> .ret fun he=>(h2 he).1) fun r hr=> .ret ⟨g1,g2,hr⟩;unfold F_137;refine Has.bind (P:=fun r=>eOk errIds r.2=false→eOk errIds e=false) ?_ fun r hr=> .ret hr;refine Has.bind (P:=fun r=>eOk errIds r.2=false→eOk errIds e=false) (.ite (fun _=> .ret fun he=>?_) fun _=> .ret fun he=>(h2 he).1) fun r hr=> .ret hr;simp only at he;rw[hy]at he;cases he
end
open Go Go.Eng
set_option maxRecDepth 100000
theorem bsz(l:List Int):(bstr l).size=l.length:=by
 have go: ∀(l:List Int) (r:ByteArray),(l.foldl (fun r n=>r.push (UInt8.ofNat n.toNat)) r).size=r.size+l.length:=by
  intro l
  induction l with
  |nil=>intro r;rfl
  |cons a l ih=>intro r;rw[List.foldl_cons,ih,ByteArray.size_push,List.length_cons];omega
 have:=go l ByteArray.empty;have h0:ByteArray.empty.size=0:=rfl;unfold bstr;omega
section
variable {N:Nat}{C:List ByteArray}{Ls:List LtT}{Os:List OnT}{s:ByteArray}{a p e:Int}
theorem limit2_has{q:Int}{b:Bool}{x y:Int}:Has (F_86 N s a p e q b x y) fun r=>r.2.2=true→eOk errIds e=false∧x<y:=by
 unfold F_86;let P:Int×Int→Prop:=fun r=>eOk errIds r.2=false→eOk errIds e=false∧x<y;refine Has.bind (P:=P) ?_ fun r hr=> .ret fun h=>hr (by simpa using h);refine Has.bind (P:=P) ?_ fun r hr=> .ret hr;refine .ite (fun he=> .ret fun h=>?_) fun he=>?_
 ·simp only at h;rw[he]at h;cases h
 have he:eOk errIds e=false:=by simpa using he
 refine Has.bind (P:=P) ?_ fun r hr=> .ret hr;refine .ite (fun _=>?_) fun _=>?_
 ·unfold F_85;refine Has.bind (P:=P) ?_ fun r hr=> .ret hr;refine Has.bind (P:=P) (.ite (fun _=> .ret fun h=>?_) fun h2=> .ret fun h=>?_) fun r hr=> .ret hr
  ·have h:eOk errIds 7=false:=h;exact absurd h (by decide)
  rw[show eOk errIds e=false from h]at h2;simp at h2
 refine Has.bind (P:=P) ?_ fun r hr=> .ret hr;refine .ite (fun _=>?_) fun hx=> .ret fun _=>⟨he,by simpa using hx⟩;unfold F_163;refine Has.bind (P:=P) ?_ fun r hr=> .ret hr;refine Has.bind (P:=P) (.ite (fun _=> .ret fun h=>?_) fun h2=> .ret fun h=>?_) fun r hr=> .ret hr
 ·have h:eOk errIds 13=false:=h;exact absurd h (by decide)
 rw[show eOk errIds e=false from h]at h2;simp at h2
theorem on_file_has(hf:FI C Ls Os)(hs:s.size≤600)(hN:2000000≤N)(h:Pos s p):Has (F_222 N C Ls Os s a p) fun r=>FI r.1 r.2.1 r.2.2.1:=by
 unfold F_222;have ho:=hf.o;refine(list_has hs hN h).bind fun⟨q,x,l⟩ ⟨h1,h2⟩=>?_;simp only at h1 h2;refine(expression_has (by omega) hN h1).bind fun⟨q2,x2,k,a1,a2,a3,a4,ks,mn,mx,tx⟩ ⟨e1,e2⟩=>?_;simp only at e1 e2;refine(laction_has hs hN e1).bind fun⟨q3,x3,u,v⟩ ⟨g1,g2,g3⟩=>limit2_has.bind fun⟨q4,x4,ok⟩ hk=>?_;simp only at g1 g2 g3 hk;refine Has.bind (P:=fun O'=>FI C Ls O') (.ite (fun hok=>?_) fun _=> .ret hf) fun O' hO=> .ret hO;obtain⟨m1,m2⟩:=hk hok;obtain⟨n1,n2,n3⟩:=e2 (g3 m1);obtain⟨l1,l2⟩:=h2 n1;refine Has.bind (P:=fun O'=>FI C Ls O') ((app_has (by simp only[List.length_singleton];omega)).bind fun O' hO=> .ret ?_) fun O' hO=> .ret hO;subst hO;refine⟨hf.c,hf.s,hf.l,by simp only[List.length_append,List.length_singleton];omega,hf.lt,fun y hy=>?_⟩;rcases app_mem hy with hy|rfl
 ·exact hf.ot y hy
 exact⟨show cnt (nd11 (q2,x2,k,a1,a2,a3,a4,ks,mn,mx,tx))<700 by omega,n2,l1,l2,g1,g2⟩
theorem line_has(hf:FI C Ls Os)(hs:s.size≤600)(hN:2000000≤N)(h:Pos s p):Has (F_160 N C Ls Os s a p) fun r=>FI r.1 r.2.1 r.2.2.1:=by
 unfold F_160;refine Has.bind (P:=fun _=>True) (.ite (fun _=> .ret trivial) fun _=>prefix_has.bind fun _ _=> .ret trivial) fun b _=> .ite (fun _=> .ret hf) fun _=>?_;refine(word_has (by unfold Sm;omega) h).bind fun⟨q,w⟩ ⟨h1,_⟩=>?_;simp only at h1;let P:List ByteArray×List LtT×List OnT×Int×Int→Prop:=fun r=>FI r.1 r.2.1 r.2.2.1;refine Has.bind (P:=P) ?_ fun r hr=> .ret hr;refine Has.bind (P:=P) ?_ fun r hr=> .ret hr;refine .ite (fun _=>((cond_has hf hs hN h1).mono fun r hr=>hr.1).bind fun r hr=> .ret hr) fun _=>?_;refine Has.bind (P:=P) ?_ fun r hr=> .ret hr;refine .ite (fun _=>((let_has hf hs hN h1).mono fun r hr=>hr.1).bind fun r hr=> .ret hr) fun _=>?_;refine Has.bind (P:=P) ?_ fun r hr=> .ret hr;refine .ite (fun _=>(on_file_has hf hs hN h1).bind fun r hr=> .ret hr) fun _=>?_;exact .bind (P:=fun _=>True) (by unfold F_104;exact .ret trivial) fun _ _=> .ret hf
def SI1:(List ByteArray×List LtT×List OnT×Int) ⊕ (Int×Int)→Prop
 | .inl r=>FI r.1 r.2.1 r.2.2.1
 | .inr _=>False
def SR1:(List ByteArray×List LtT×List OnT×Int) ⊕ (Int×Int)→Prop
 | .inl _=>False
 | .inr r=>eOk errIds r.2=true
theorem file_has{b:List Int}(hb:b.length≤600)(hN:2000000≤N):Has (F_44 N b) fun r=>eOk errIds r.2.2.2.2=false→FI r.1 r.2.1 r.2.2.1:=by
 unfold F_44;have hsz:=bsz b;refine .ite (fun h=>absurd h (by simp;omega)) fun _=> .bind (P:=fun _=>True) (.ret trivial) fun _ _=>?_
 have step: ∀(x:ByteArray) (st:(List ByteArray×List LtT×List OnT×Int) ⊕ (Int×Int)),SI1 st→x.size≤600→
  Has (YS (σ1:=(List ByteArray×List LtT×List OnT×Int)) (σ2:=(Int×Int)) (fun x s=>F_102 N x s.1 s.2.1 s.2.2.1 s.2.2.2) x st) fun q=>(q.2=true→SI1 q.1)∧(q.2=false→SR1 q.1):=fun x st hst hx=>by
  match st,hst with
  | .inl (C,Ls,Os,o),hst=>
    show Has (F_102 N x C Ls Os o) _;unfold F_102;refine(line_has hst hx hN ⟨Int.le_refl _,by omega⟩).bind fun⟨C',L',O',u,v⟩ hr=> .ite (fun he=> .bind (P:=fun _=>True) (.ret trivial) fun _ _=> .ret ⟨fun h=>(by cases h),fun _=>he⟩) fun _=> .ret ⟨fun _=>hr,fun h=>(by cases h)⟩
 refine(splitL_has (fun _=>SI1) SI1 SR1 (by unfold Sm;omega) (by omega) (show SI1 (.inl ([(⟨#[109,97,105,110]⟩:ByteArray)],[],[],0))from⟨by simp,fun x hx=>by rw[List.mem_singleton.1 hx];decide,by simp,by simp,fun x hx=>(by cases hx),fun x hx=>(by cases hx)⟩) (fun n x st h1 h2 h3=>step x st h1 (by omega)) fun x st h1 h2=>step x st h1 (by omega)).bind fun z hz=>?_
 match z,hz with
 |(.inl (C,Ls,Os,o),true),hz=>exact .ret fun _=>hz.1 rfl
 |(.inr (u,v),false),hz=>
   have h2:eOk errIds v=true:=hz.2 rfl;refine .ret fun h=>?_;have h:eOk errIds v=false:=h;rw[h2]at h;cases h
 |(.inl _,false),hz=>exact(show False from hz.2 rfl).elim
 |(.inr _,true),hz=>exact(show False from hz.1 rfl).elim
end
open Go Go.Eng
set_option maxRecDepth 100000
section
variable {N:Nat}
structure RS(C Nm:List ByteArray)(R:List Rl):Prop where
 c:C.length≤8
 c1:1≤C.length
 nd:C.Nodup
 n:Nm.length≤48
 r:R.length≤48
 ok: ∀r∈R,RlOk r
 bg: ∀r∈R,r.2.2.2= -1∨(0≤r.2.2.2∧r.2.2.2<C.length)
theorem ruleP_bg{C:List ByteArray}{B:Bk}{x:On}{nms:List ByteArray}{rs:List Rl}{q:List ByteArray×List Rl}(hq:ruleP C B x nms rs= .inr q): ∃r:Rl,q.2=rs++ [r]∧(r.2.2.2= -1∨(0≤r.2.2.2∧r.2.2.2<(C.length:Int))):=by
 unfold ruleP at hq;split at hq
 ·split at hq
  ·rename_i hb;split at hq
   ·cases hq
   split at hq
   ·cases hq
   have hq:=Sum.inr.inj hq;subst hq;refine⟨_,rfl,?_⟩;show(if decide (x.2.2.1.2.size=0)=true then(-1:Int)else plc C x.2.2.1.2)= -1∨(0≤(if decide (x.2.2.1.2.size=0)=true then(-1:Int)else plc C x.2.2.1.2)∧(if decide (x.2.2.1.2.size=0)=true then(-1:Int)else plc C x.2.2.1.2)<C.length);by_cases h0:decide (x.2.2.1.2.size=0)=true
   ·rw[if_pos h0];exact .inl rfl
   rw[if_neg h0];obtain⟨i,e,h1,_⟩:=plc_some (memB_iff.1 (hb.resolve_left h0));have:=lt_len h1;right;omega
  cases hq
 cases hq
theorem rulesP_bg{C:List ByteArray}{B:Bk}: ∀{Os:List On} {nms:List ByteArray} {rs:List Rl} {q:List ByteArray×List Rl},rulesP C B Os nms rs= .inr q→(∀r∈rs,r.2.2.2= -1∨(0≤r.2.2.2∧r.2.2.2<C.length))→ ∀r∈q.2,r.2.2.2= -1∨(0≤r.2.2.2∧r.2.2.2<C.length)
 | [],nms,rs,q,h,hr=>by
   simp only[rulesP,Sum.inr.injEq]at h;subst h;exact hr
 |x::Os,nms,rs,q,h,hr=>by
   simp only[rulesP]at h
   cases hq:ruleP C B x nms rs with
   |inl e=>rw[hq]at h;cases h
   |inr p=>
     rw[hq]at h;obtain⟨rr,h2,h3⟩:=ruleP_bg hq;refine rulesP_bg h fun r hr'=>?_;rw[h2]at hr';rcases List.mem_append.1 hr' with hr'|hr'
     ·exact hr r hr'
     obtain rfl:=List.mem_singleton.1 hr';exact h3
theorem rfB_one{C:List ByteArray}{Ls:List Lt}{Os:List On}(h:rfB C Ls Os=true):1≤C.length:=by
 unfold rfB at h;simp only[Bool.and_eq_true,decide_eq_true_eq,List.all_eq_true]at h;exact h.2.2.1
theorem rread_has(hN:9400000000000000000≤N){b:List Int}(hb:b.length≤600):Has (F_168 N b) fun r=>eOk errIds r.2.2.2.2=false→RS r.1 r.2.1 r.2.2.1:=by
 unfold F_168;refine(file_has hb (by omega)).bind fun⟨C,Ls,Os,a,e⟩ hf=> .ite (fun he=> .ret fun h=>?_) fun he=>?_
 ·have h:eOk errIds e=false:=h;rw[h]at he;cases he
 have hf:FI C Ls Os:=hf (by simpa using he)
 have hz:Fsz C Ls Os:=⟨by have:=hf.c;omega,fun s hs=>by have:=hf.s s hs;omega,by have:=hf.l;omega,by have:=hf.o;omega,fun x hx=>⟨(hf.lt x hx).1,by have:=(hf.lt x hx).2.2;omega⟩,fun x hx=>by
  obtain⟨a,b,c,d,e,f⟩:=hf.ot x hx;exact⟨a,c,fun s hs=>by have:=d s hs;omega,by omega,by omega⟩⟩
 have hq: ∀x∈Ls,LQ x:=fun x hx=>⟨(hf.lt x hx).1,(hf.lt x hx).2.1,by have:=(hf.lt x hx).2.2;omega⟩;have hp: ∀x∈Os,OQ x:=fun x hx=>⟨hz.ot x hx,(hf.ot x hx).2.1⟩;have ho:=hf.o;rw[check_code hN hz hq hp];simp only[bind,Option.bind_some]
 cases hr:rfB C Ls Os with
 |false=>exact⟨_,rfl,fun h=>by cases h⟩
 |true=>
   obtain⟨hL,hO,hC⟩:=rfB_out hr hq hp;simp only[if_true];by_cases h0:Os.length=0
   ·rw[if_pos h0];exact⟨_,rfl,fun h=>by cases h⟩
   rw[if_neg h0]
   cases hR:rulesP C (bk Ls) Os [] []with
   |inl p=>
     obtain⟨a,e⟩:=p;refine⟨_,rfl,fun h=>?_⟩;have h:eOk errIds e.code=false:=h;rw[e.ok]at h;cases h
   |inr q=>
     obtain⟨q1,q2,q3⟩:=rulesP_ok hL.book hz.c hO hR (by simp);simp only[List.length_nil,Nat.zero_add]at q1 q2;exact⟨_,rfl,fun _=>⟨hf.c,rfB_one hr,hC,by show q.1.length≤48;omega,by show q.2.length≤48;omega,q3,rulesP_bg hR (by simp)⟩⟩
end
open Go Go.Eng
set_option maxRecDepth 100000
theorem RS.short{C Nm:List ByteArray}{R:List Rl}(h:RS C Nm R):Short C Nm R:=
 ⟨by have:=h.c;omega,by have:=h.r;omega,by have:=h.n;omega,fun r hr=>⟨by have:=(h.ok r hr).c;omega,by have:=(h.ok r hr).l;omega⟩⟩
theorem nfaFiles_true{l:List Int}: ∃N,F_73 N l=some true:=by
 refine⟨9400000000000000000,?_⟩;have ha:F_241 9400000000000000000=some true:=by kernel_rfl
 generalize hN':(9400000000000000000:Nat)=N at ha ⊢;have hN:9400000000000000000≤N:=by omega
 clear hN';unfold F_73;rw[ha];simp only[bind,Option.bind_some,Bool.not_true,Bool.false_eq_true,if_false];by_cases hl:l.length≤600
 case neg=>rw[if_pos (by simp;omega)]
 rw[if_neg (by simp;omega)];obtain⟨⟨C,Nm,R,a,e⟩,hr,hs⟩:=rread_has hN hl;rw[hr];simp only[Option.bind_some]
 cases he:eOk errIds e with
 |true=>rfl
 |false=>
   have hs:RS C Nm R:=hs he;have hq: ∀r∈R,NdQ r.2.1:=fun r hr=>(hs.ok r hr).q;rw[if_neg Bool.false_ne_true,of14_spec (by omega) hs.short];rcases build_spec (N:=N) (by omega) hs.short hq with⟨S,E,g1,g2,g3,g4,g5⟩|⟨g1,g2⟩|⟨g1,g2⟩
   ·obtain⟨p,hp,hp2⟩:=of15_spec (N:=N) (S:=S) (E:=E) (m:=4000) (by omega) (by omega);have hE:E.length=C.length:=by rw[g5,ent_len]
    have hE2:((E.length:Int)==(C.length:Int))=true:=by rw[hE];simp
    have h0:eOk errIds 0=false:=rfl;rw[g1];simp only[Option.bind_some];rw[g2];simp only[Option.bind_some,bne_self_eq_false,Bool.false_eq_true,if_false];rw[hp];simp only[Option.bind_some];rw[h0,nfaRight_spec (by omega) g3,(rtB_iff S E).2 g4];simp only[Bool.not_false,if_true,Option.bind_some]
    cases h3:p.2 with
    |false=>
      simp only[Bool.not_false,if_true,Option.bind_some];rw[hE2]
    |true=>
      obtain⟨e1,_⟩:=hp2 h3;simp only[Bool.not_true,Bool.false_eq_true,if_false];rw[e1,nrefSame_spec (by omega) g3];simp only[and_self,decide_true,if_true,Option.bind_some];rw[hE2]
   ·rw[g1];simp only[Option.bind_some];rw[g2];simp only[Option.bind_some];rw[num1 (by omega)];rfl
   rw[g1];simp only[Option.bind_some];rw[g2];simp only[Option.bind_some];rw[num2 (by omega)];rfl
end Go.Proofs.YtnkednnnkifenaaGreatDoor
