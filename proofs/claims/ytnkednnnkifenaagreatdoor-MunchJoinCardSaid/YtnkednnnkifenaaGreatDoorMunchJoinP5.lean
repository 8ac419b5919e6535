import Derived.Test.YtnkednnnkifenaaGreatDoorMunchJoinP4
namespace Go.Proofs.YtnkednnnkifenaaGreatDoor
open Go Go.Eng
set_option maxRecDepth 100000
variable {N:Nat}{rows:List Go.Eng.LI}{rule entry:Go.Eng.LI}
theorem run_has{σ α:Type}{Y:α→σ→Option (σ×Bool)}(hY: ∀a s,Has (Y a s) fun r=>r.2=true): ∀(l:List α) (n:Nat) (s:σ),Has (run Y l n s) fun z=>match z with| .inr (.inl _)=>False|_=>True
 | [],n,s=>by simp only[run];exact .ret trivial
 |_::_,0,s=>by simp only[run];exact .ret trivial
 |a::l,n+1,s=>by
   obtain⟨⟨t,b⟩,h1,h2⟩:=hY a s;have h2:b=true:=h2;subst h2;simp only[run,h1];exact run_has hY l n t
section
variable {N:Nat}
theorem all_has{σ:Type}{Y:Nd×Int→σ→Option (σ×Bool)}(hY: ∀a s,Has (Y a s) fun r=>r.2=true)(t:Nd)(st:σ)(hc:cnt t<100000)(hN:1000010≤N):
 Has (F_89 N Y st t.un.1 t.un.2.1.1 t.un.2.1.2.1 t.un.2.1.2.2.1 t.un.2.1.2.2.2 t.un.2.2.1 t.un.2.2.2.1 t.un.2.2.2.2.1 t.un.2.2.2.2.2) fun r=>r.2=true:=by
 unfold F_89;rw[show((601:Int))=((601:Nat):Int)from rfl,show((1:Int))=((1:Nat):Int)from rfl,walk_run Y (cnt t) t rfl 1 601 N st Om hc Om Om];refine(run_has hY (wk 1 t) 601 st).bind fun z hz=>?_
 match z,hz with
 | .inl (x,y),_=>exact .ret rfl
 | .inr (.inr (x,y)),_=>exact .ret rfl
theorem depth_has(t:Nd)(hc:cnt t<100000)(hN:1000010≤N):Has (F_57 N t.un.1 t.un.2.1.1 t.un.2.1.2.1 t.un.2.1.2.2.1 t.un.2.1.2.2.2 t.un.2.2.1 t.un.2.2.2.1 t.un.2.2.2.2.1 t.un.2.2.2.2.2) fun _=>True:=by
 unfold F_57;refine .bind (P:=fun _=>True) (.ret trivial) fun _ _=>(all_has (fun a s=> .ret rfl) t 0 hc hN).bind fun⟨x,b⟩ hb=>?_;have hb:b=true:=hb;subst hb;exact .ret trivial
theorem count_has(t:Nd)(hc:cnt t<100000)(hN:1000010≤N):Has (F_56 N t.un.1 t.un.2.1.1 t.un.2.1.2.1 t.un.2.1.2.2.1 t.un.2.1.2.2.2 t.un.2.2.1 t.un.2.2.2.1 t.un.2.2.2.2.1 t.un.2.2.2.2.2) fun _=>True:=by
 unfold F_56;refine .bind (P:=fun _=>True) (.ret trivial) fun _ _=>(all_has (fun a s=> .ret rfl) t 0 hc hN).bind fun⟨x,b⟩ hb=>?_;have hb:b=true:=hb;subst hb;exact .ret trivial
def PX(s:BA)(r:Int×Int×Int×Int×Int×List Nd×Int×Int×BA×Int×Int):Prop:=
 Pos s r.2.2.2.2.2.2.2.2.2.1∧(eOk errIds r.2.2.2.2.2.2.2.2.2.2=false→NdQ (Nd.of (r.1,(r.2.1,r.2.2.1,r.2.2.2.1,r.2.2.2.2.1),r.2.2.2.2.2.1,r.2.2.2.2.2.2.1,r.2.2.2.2.2.2.2.1,r.2.2.2.2.2.2.2.2.1))∧cnt (Nd.of (r.1,(r.2.1,r.2.2.1,r.2.2.2.1,r.2.2.2.2.1),r.2.2.2.2.2.1,r.2.2.2.2.2.2.1,r.2.2.2.2.2.2.2.1,r.2.2.2.2.2.2.2.2.1))≤s.size+2)
theorem parse_has{s:BA}(hs:s.size≤5000)(hN:2000000≤N):Has (F_185 N s) (PX s):=by
 unfold F_185;have hsm:SmT s:=by unfold SmT;omega
 have p0:Pos s 0:=⟨Int.le_refl _,by omega⟩;refine(expr_has hsm s.size 0 0 N p0 Om Om).bind fun⟨q,x,k,a1,a2,a3,a4,ks,mn,mx,tx⟩ ⟨h1,h2⟩=>?_;simp only at h1 h2;refine Has.bind (P:=fun r=>Pos s r.1∧(eOk errIds r.2=false→eOk errIds x=false)) ?_ fun⟨q2,x2⟩ ⟨g1,g2⟩=>?_
 ·refine more_has.bind fun b _=>?_;refine Has.bind (P:=fun r=>Pos s r.1∧(eOk errIds r.2=false→eOk errIds x=false)) ?_ fun r hr=> .ret hr;have E: ∀{r:Int×Int},Er s r→Pos s r.1∧(eOk errIds r.2=false→eOk errIds x=false):=fun hr=>⟨hr.1,fun he=>by rw[hr.2]at he;cases he⟩;refine .ite (fun _=>(rfail3_has h1 h1).bind fun r hr=> .ret (E hr)) fun _=>?_;refine Has.bind (P:=fun r=>Pos s r.1∧(eOk errIds r.2=false→eOk errIds x=false)) ?_ fun r hr=> .ret hr;refine .ite (fun he=> .ret ⟨h1,fun h=>by simp only at h;rw[he]at h;cases h⟩) fun he=>?_;have he:eOk errIds x=false:=by simpa using he
  obtain⟨n1,n2,n3,n4⟩:=h2 he;have hp:=h1.2
  have hc:cnt (Nd.of (k,(a1,a2,a3,a4),ks,mn,mx,tx))<100000:=by
   have n4:(cnt (Nd.of (k,(a1,a2,a3,a4),ks,mn,mx,tx)):Int)≤q-0+2:=n4;omega
  refine(depth_has (Nd.of (k,(a1,a2,a3,a4),ks,mn,mx,tx)) hc Om).bind fun d _=>?_;refine Has.bind (P:=fun r=>Pos s r.1∧(eOk errIds r.2=false→eOk errIds x=false)) ?_ fun r hr=> .ret hr;refine .ite (fun _=>(rfail5_has h1 p0).bind fun r hr=> .ret (E hr)) fun _=>?_;refine(count_has (Nd.of (k,(a1,a2,a3,a4),ks,mn,mx,tx)) hc Om).bind fun d _=>?_;refine Has.bind (P:=fun r=>Pos s r.1∧(eOk errIds r.2=false→eOk errIds x=false)) ?_ fun r hr=> .ret hr;exact .ite (fun _=>(rfail6_has h1 p0).bind fun r hr=> .ret (E hr)) fun _=> .ret ⟨h1,fun _=>he⟩
 simp only at g1 g2;refine .ite (fun he=> .bind (P:=fun _=>True) (.ret trivial) fun _ _=> .ret ⟨g1,fun h=>?_⟩) fun he=> .ret ⟨⟨by simp,Int.le_refl _⟩,fun _=>?_⟩
 ·simp only at h;rw[he]at h;cases h
 obtain⟨n1,n2,n3,n4⟩:=h2 (g2 (by simpa using he));have hp:=h1.2;have n4:(cnt (Nd.of (k,(a1,a2,a3,a4),ks,mn,mx,tx)):Int)≤q-0+2:=n4;exact⟨n3,by simp only;omega⟩
theorem closing_has{s:BA}(hs:SmT s)(hN:1000010≤N):Has (F_99 N s) fun k=> -1≤k∧k<s.size:=by
 unfold F_99;unfold SmT at hs;refine Has.bind (P:=fun z=>match z with| .inl _=>True| .inr (k:Int)=>0≤k∧k<s.size) ?_ fun z hz=>?_
 ·refine Has.loop (fun i:Int=>0≤i∧i≤s.size+1) (fun i:Int=>s.size+2-i.toNat) _ ⟨by omega,by omega⟩ (by simp;omega) fun i ⟨h1,h2⟩=>?_;unfold F_267;refine .ite (fun h=>?_) fun _=> .ret trivial;have h:i<s.size:=by simpa using h
  let SJ:Int→Prop:=fun j=>i≤j∧j≤i+1;let F:Int→Prop:=fun _=>False;let U:Unit ⊕ Int→Prop:=PA (fun _=>False) fun k=>k=i;refine Has.bind (P:=PA SJ (PA F U)) ?_ fun z hz=>?_
  ·refine(sidx_has h1 h).bind fun c _=>?_
   refine Has.bind (P:=PA SJ (PA F (PA F U))) ?_ fun z hz=>by
    cases z with
    |inl j=>exact .ret hz
    |inr z=>
      cases z with
      |inl j=>exact(show False from hz).elim
      |inr z=>exact .ret hz
   refine Has.bind (P:=PA SJ (PA F (PA F (PA F U)))) (.ite (fun _=> .ret ?_) fun _=> .ite (fun _=> .ret rfl) fun _=> .ret ⟨Int.le_refl _,by omega⟩) fun z hz=>by
    cases z with
    |inl j=>exact .ret hz
    |inr z=>
      cases z with
      |inl j=>exact(show False from hz).elim
      |inr z=>exact .ret hz
   show i≤w64 (i+1)∧w64 (i+1)≤i+1;rw[w64_id Om Om];omega
  match z,hz with
  | .inl j,hz=>
    obtain⟨j1,j2⟩:i≤j∧j≤i+1:=hz;refine .ret ?_;simp only;rw[w64_id Om Om];exact⟨⟨by omega,by omega⟩,by omega⟩
  | .inr (.inl j),hz=>exact(show False from hz).elim
  | .inr (.inr (.inl u)),hz=>exact(show False from hz).elim
  | .inr (.inr (.inr k)),hz=>
    obtain rfl:k=i:=hz;exact .ret ⟨h1,h⟩
 cases z with
 |inl u=>exact .ret ⟨Int.le_refl _,by omega⟩
 |inr k=>exact .ret ⟨by have:=hz.1;omega,hz.2⟩
theorem behind1_has{s:BA}{a p e:Int}(hs:SmT s)(h:Pos s p):Has (F_156 N s a p e) fun r=>Pos s r.1∧(eOk errIds r.2.1=false→eOk errIds e=false∧r.2.2=true):=by
 unfold F_156;unfold SmT at hs;have h1:=h.1;have h2:=h.2;refine .ite (fun he=> .ret ⟨h,fun h=>by simp only at h;rw[he]at h;cases h⟩) fun he=> .ite (fun _=>?_) fun _=>?_
 ·exact(fail6_has h h).bind fun r hr=> .ret ⟨hr.1,fun h=>by simp only at h;rw[hr.2]at h;cases h⟩
 refine(rest1_has h).bind fun r hr=>prefix1_has.bind fun b hb=> .ite (fun _=>?_) fun hb2=>?_
 ·exact(fail7_has h h).bind fun r hr=> .ret ⟨hr.1,fun h=>by simp only at h;rw[hr.2]at h;cases h⟩
 have:=hb (by simpa using hb2);refine .ret ⟨?_,fun _=>⟨by simpa using he,rfl⟩⟩;simp only;rw[w64_id Om Om];exact⟨by omega,by omega⟩
theorem fail8_has{s:BA}{a p e q x:Int}(h:Pos s p)(hq:Pos s q)(hx:eOk errIds x=true):Has (F_124 N s a p e q x) (Er s):=by
 unfold F_124;exact Has.bind (P:=Er s) (.ite (fun _=> .ret ⟨hq,hx⟩) fun he=> .ret ⟨h,by simpa using he⟩) fun r hr=> .ret hr
def LE(s:BA)(e:Int)(r:T11):Prop:=Pos s r.1∧(eOk errIds r.2.1=false→eOk errIds e=false∧NdQ (nd11 r)∧cnt (nd11 r)≤s.size+2)
theorem LE.er{s:BA}{e:Int}{r:T11}(h:Er s (r.1,r.2.1)):LE s e r:=⟨h.1,fun he=>by rw[h.2]at he;cases he⟩
theorem expression_has{s:BA}{a p e:Int}(hs:s.size≤5000)(hN:2000000≤N)(h:Pos s p):Has (F_157 N s a p e) (LE s e):=by
 unfold F_157;have hsm:SmT s:=by unfold SmT;omega
 refine(behind1_has hsm h).bind fun⟨q,x,b⟩ ⟨h1,h2⟩=>?_;simp only at h1 h2;have h10:=h1.1;have h11:=h1.2;refine .ite (fun hb=> .ret ⟨h1,fun he=>?_⟩) fun _=>?_
 ·have:=(h2 he).2;subst this;cases hb
 refine Has.bind (P:=fun c=>c=false→q<s.size) ?_ fun c hc=>?_
 ·refine(rest1_has h1).bind fun r hr=> .ite (fun _=> .ret fun h=>(by cases h)) fun hne=>?_;refine(rest1_has h1).bind fun r2 hr2=>?_
  have hr0:(0:Int)<r.size:=by
   have hz:r.size≠0:=fun hz=>hne (by
    have:r=ByteArray.empty:=ByteArray.ext (Array.eq_empty_of_size_eq_zero hz);rw[this];simp)
   omega
  exact(sidx_has (Int.le_refl 0) Om).bind fun v _=> .ret fun _=>by omega
 refine .ite (fun _=>(fail7_has h1 h1).bind fun r hr=> .ret (LE.er hr)) fun hc2=>?_;have hq:=hc (by simpa using hc2);rw[w64_id (x:=q+1) Om Om];have hq1:Pos s (q+1):=⟨by omega,by omega⟩;refine(rest1_has hq1).bind fun r hr=>(closing_has (s:=r) (by unfold SmT;omega) Om).bind fun k hk=>?_;refine .ite (fun _=>(fail6_has hq1 ⟨by omega,Int.le_refl _⟩).bind fun r hr=> .ret (LE.er hr)) fun hk0=>?_;have hk0:0≤k:=by simpa using hk0
 refine(rest1_has hq1).bind fun r2 hr2=>(sslc_has (Int.le_refl 0) hk0 Om).bind fun t ht=>?_;refine(parse_has (s:=t) Om hN).bind fun⟨k1,a1,a2,a3,a4,ks,mn,mx,tx,u,y⟩ ⟨g1,g2⟩=>?_;simp only at g1 g2;have g10:=g1.1;have g11:=g1.2;refine .ite (fun hy=>?_) fun hy=>?_
 ·rw[w64_id (x:=q+1+u) Om Om];exact(fail8_has hq1 ⟨by omega,by omega⟩ hy).bind fun r hr=> .ret (LE.er hr)
 obtain⟨n1,n2⟩:=g2 (by simpa using hy);rw[w64_id (x:=k+1) Om Om,w64_id (x:=q+1+(k+1)) Om Om];exact .ret ⟨⟨by simp only;omega,by simp only;omega⟩,fun he=>⟨(h2 he).1,n1,Nat.le_trans n2 Om⟩⟩
end
section
variable {N:Nat}
theorem splitC_has{σ:Type}{Y:BA→σ→Option (σ×Bool)}{st:σ}{s:BA}(I:Nat→σ→Prop)(Q R:σ→Prop)(hs:SmT s)(hN:1000010≤N)(h0:I s.size st)
 (hY: ∀(n:Nat) (x:BA) (st:σ),I n st→n≤s.size→x.size+1≤n→Has (Y x st) fun q=>(q.2=true→I (n-(x.size+1)) q.1)∧(q.2=false→R q.1))
 (hE: ∀(x:BA) (st:σ),I x.size st→x.size≤s.size→Has (Y x st) fun q=>(q.2=true→Q q.1)∧(q.2=false→R q.1)):
 Has (F_52 N Y st s) fun q=>(q.2=true→Q q.1)∧(q.2=false→R q.1):=by
 unfold F_52;unfold SmT at hs;refine Has.bind (P:=fun z=>match z with| .inl r=>I r.2.size r.1∧r.2.size≤s.size| .inr r=>(r.2=true→Q r.1)∧(r.2=false→R r.1)) ?_ fun z hz=>?_
 ·refine Has.loop (fun r:σ×BA=>I r.2.size r.1∧r.2.size≤s.size) (fun r=>r.2.size) _ ⟨h0,Nat.le_refl _⟩ (by simp only;omega) fun⟨st,r⟩ ⟨h1,h2⟩=>?_;simp only at h1 h2;show Has (F_134 N Y st r) _;unfold F_134 F_2 F_180;refine Has.bind (P:=fun k:Int=> -1≤k∧k<r.size) ((index_has (N:=N) 44 (s:=r)).bind fun k hk=> .ret hk) fun k ⟨k1,k2⟩=>?_;refine .ite (fun _=> .ret ⟨h1,h2⟩) fun hk=>?_;have hk:0≤k:=by simpa using hk
  rw[w64_id (x:=k+0) Om Om,w64_id (x:=k+1) Om Om];refine(sslc_has (Int.le_refl 0) Om Om).bind fun x hx=>(hY r.size x st h1 h2 Om).bind fun⟨st2,b⟩ ⟨g1,g2⟩=>?_;simp only at g1 g2;refine .ite (fun hb=> .ret ⟨fun h=>(by cases h),fun _=>g2 (by simpa using hb)⟩) fun hb=>?_;have g1:=g1 (by simpa using hb);refine(sslc_has Om Om (Int.le_refl _)).bind fun r2 hr2=> .ret ⟨⟨?_,by simp only;omega⟩,by simp only;omega⟩;have e:r2.size=r.size-(x.size+1):=by omega
  simp only;rw[e];exact g1
 cases z with
 |inr r=>exact .ret hz
 |inl r=>exact(hE r.2 r.1 hz.1 hz.2).bind fun q hq=> .ret hq
theorem splitL_has{σ:Type}{Y:BA→σ→Option (σ×Bool)}{st:σ}{s:BA}(I:Nat→σ→Prop)(Q R:σ→Prop)(hs:SmT s)(hN:1000010≤N)(h0:I s.size st)
 (hY: ∀(n:Nat) (x:BA) (st:σ),I n st→n≤s.size→x.size+1≤n→Has (Y x st) fun q=>(q.2=true→I (n-(x.size+1)) q.1)∧(q.2=false→R q.1))
 (hE: ∀(x:BA) (st:σ),I x.size st→x.size≤s.size→Has (Y x st) fun q=>(q.2=true→Q q.1)∧(q.2=false→R q.1)):
 Has (F_51 N Y st s) fun q=>(q.2=true→Q q.1)∧(q.2=false→R q.1):=by
 unfold F_51;unfold SmT at hs;refine Has.bind (P:=fun z=>match z with| .inl r=>I r.2.size r.1∧r.2.size≤s.size| .inr r=>(r.2=true→Q r.1)∧(r.2=false→R r.1)) ?_ fun z hz=>?_
 ·refine Has.loop (fun r:σ×BA=>I r.2.size r.1∧r.2.size≤s.size) (fun r=>r.2.size) _ ⟨h0,Nat.le_refl _⟩ (by simp only;omega) fun⟨st,r⟩ ⟨h1,h2⟩=>?_;simp only at h1 h2;show Has (F_133 N Y st r) _;unfold F_133 F_225 F_181;refine Has.bind (P:=fun k:Int=> -1≤k∧k<r.size) ((index_has (N:=N) 10 (s:=r)).bind fun k hk=> .ret hk) fun k ⟨k1,k2⟩=>?_;refine .ite (fun _=> .ret ⟨h1,h2⟩) fun hk=>?_;have hk:0≤k:=by simpa using hk
  rw[w64_id (x:=k+0) Om Om,w64_id (x:=k+1) Om Om];refine(sslc_has (Int.le_refl 0) Om Om).bind fun x hx=>(hY r.size x st h1 h2 Om).bind fun⟨st2,b⟩ ⟨g1,g2⟩=>?_;simp only at g1 g2;refine .ite (fun hb=> .ret ⟨fun h=>(by cases h),fun _=>g2 (by simpa using hb)⟩) fun hb=>?_;have g1:=g1 (by simpa using hb);refine(sslc_has Om Om (Int.le_refl _)).bind fun r2 hr2=> .ret ⟨⟨?_,by simp only;omega⟩,by simp only;omega⟩;have e:r2.size=r.size-(x.size+1):=by omega
  simp only;rw[e];exact g1
 cases z with
 |inr r=>exact .ret hz
 |inl r=>exact(hE r.2 r.1 hz.1 hz.2).bind fun q hq=> .ret hq
abbrev LtT:=BA×Nd×Int
abbrev OnT:=List BA×Nd×(BA×BA)×Int
structure FI(C:List BA)(Ls:List LtT)(Os:List OnT):Prop where
 c:C.length≤8
 s: ∀x∈C,x.size≤12
 l:Ls.length≤32
 o:Os.length≤48
 lt: ∀x∈Ls,cnt x.2.1<700∧NdQ x.2.1∧x.1.size≤12
 ot: ∀x∈Os,cnt x.2.1<700∧NdQ x.2.1∧x.1.length≤500∧(∀y∈x.1,y.size≤12)∧x.2.2.1.1.size≤12∧x.2.2.1.2.size≤12
def FR(s:BA)(r:List BA×List LtT×List OnT×Int×Int):Prop:=FI r.1 r.2.1 r.2.2.1∧Pos s r.2.2.2.1
theorem app_mem{α:Type}{l:List α}{x y:α}(h:y∈l++ [x]):y∈l∨y=x:=by
 rcases List.mem_append.1 h with h|h
 ·exact .inl h
 exact .inr (List.mem_singleton.1 h)
variable {C:List BA}{Ls:List LtT}{Os:List OnT}{s:BA}{a p:Int}
theorem cond_has(hf:FI C Ls Os)(hs:s.size≤600)(hN:2000000≤N)(h:Pos s p):Has (F_213 N C Ls Os s a p) (FR s):=by
 unfold F_213;have hsm:SmT s:=by unfold SmT;omega
 have hc:=hf.c;refine(name_has hsm Om h).bind fun⟨q,x,nm,st⟩ ⟨h1,h2,h3,h4⟩=>?_;simp only at h1 h2 h3 h4;refine(over_has h1).bind fun⟨q2,x2⟩ ⟨g1,g2⟩=>(contains_has Om Om).bind fun b _=>(limit_has g1 h3).bind fun⟨q3,x3,ok⟩ ⟨k1,k2,k3⟩=>?_;simp only at g1 g2 k1 k2 k3;refine Has.bind (P:=fun C'=>FI C' Ls Os) (.ite (fun hk=>?_) fun _=> .ret hf) fun C' hC=> .ret ⟨hC,k1⟩;obtain⟨m1,m2⟩:=k3 hk;have:=h4 (g2 m1);refine(app_has (by simp only[List.length_singleton];omega)).bind fun C' hC=> .ret ?_;subst hC;refine⟨by simp only[List.length_append,List.length_singleton];omega,fun y hy=>?_,hf.l,hf.o,hf.lt,hf.ot⟩;rcases app_mem hy with hy|rfl
 ·exact hf.s y hy
 exact this
theorem lcontains_has{x:BA}(hl:Ls.length≤1000)(hN:1000010≤N):Has (F_222 N Ls x) fun _=>True:=by
 unfold F_222 F_131;refine Has.bind (P:=fun _=>True) ?_ fun _ _=> .ret trivial;refine Has.bind (P:=fun _=>True) ?_ fun z _=>?_
 ·refine Has.loop (fun i:Int=>0≤i∧i≤Ls.length) (fun i:Int=>Ls.length+1-i.toNat) _ ⟨by omega,by omega⟩ (by simp;omega) fun i hi=>?_;obtain⟨hi0,hi1⟩:=hi;unfold F_270;refine .ite (fun h=>?_) fun _=> .ret trivial;have h:i<Ls.length:=by simpa using h
  refine(idx_has hi0 h).bind fun v _=> .bind (P:=fun _=>True) (.ret trivial) fun _ _=> .ite (fun _=> .ret trivial) fun _=> .ret ?_;simp only;rw[w64_id Om Om];exact⟨⟨by omega,by omega⟩,by omega⟩
 cases z<;>exact .ret trivial
theorem let_has(hf:FI C Ls Os)(hs:s.size≤600)(hN:2000000≤N)(h:Pos s p):Has (F_97 N C Ls Os s a p) (FR s):=by
 unfold F_97;have hsm:SmT s:=by unfold SmT;omega
 have hl:=hf.l;refine(name_has hsm Om h).bind fun⟨q,x,nm,st⟩ ⟨h1,h2,h3,h4⟩=>?_;simp only at h1 h2 h3 h4;refine(expression_has Om hN h1).bind fun⟨q2,x2,k,a1,a2,a3,a4,ks,mn,mx,tx⟩ ⟨e1,e2⟩=>?_;simp only at e1 e2;refine(over_has e1).bind fun⟨q3,x3⟩ ⟨g1,g2⟩=>(lcontains_has Om Om).bind fun b _=>(limit_has g1 h3).bind fun⟨q4,x4,ok⟩ ⟨k1,k2,k3⟩=>?_;simp only at g1 g2 k1 k2 k3;refine Has.bind (P:=fun L'=>FI C L' Os) (.ite (fun hk=>?_) fun _=> .ret hf) fun L' hL=> .ret ⟨hL,k1⟩;obtain⟨m1,m2⟩:=k3 hk;obtain⟨n1,n2,n3⟩:=e2 (g2 m1);have:=h4 n1;refine Has.bind (P:=fun L'=>FI C L' Os) ((app_has (by simp only[List.length_singleton];omega)).bind fun L' hL=> .ret ?_) fun L' hL=> .ret hL;subst hL;refine⟨hf.c,hf.s,by simp only[List.length_append,List.length_singleton];omega,hf.o,fun y hy=>?_,hf.ot⟩;rcases app_mem hy with hy|rfl
 ·exact hf.lt y hy
 exact⟨show cnt (nd11 (q2,x2,k,a1,a2,a3,a4,ks,mn,mx,tx))<700 by omega,n2,this⟩
end
section
variable {N:Nat}{s:BA}{a p:Int}
def LIv(s:BA)(q:Int)(m n:Nat)(st:Int×Int×Int×List BA):Prop:=
 Pos s st.1∧q≤st.2.2.1∧st.2.2.1+n=q+m∧(st.2.2.2.length:Int)≤st.2.2.1-q∧(eOk errIds st.2.1=false→(∀y∈st.2.2.2,y.size≤12)∧2*(st.2.2.2.length:Int)≤st.2.2.1-q)
theorem names_has{q:Int}{m n:Nat}{x:BA}{st:Int×Int×Int×List BA}(hs:s.size≤600)(hN:2000000≤N)(h0:0≤q)(hm:q+m≤s.size)(h:LIv s q m n st)(hx:x.size≤n):
 Has (F_125 N s a x st.1 st.2.1 st.2.2.1 st.2.2.2) fun r=>r.2=true∧Pos s r.1.1∧r.1.2.2.1=st.2.2.1+(x.size+1)∧(r.1.2.2.2.length:Int)≤r.1.2.2.1-q∧(eOk errIds r.1.2.1=false→(∀y∈r.1.2.2.2,y.size≤12)∧2*(r.1.2.2.2.length:Int)≤r.1.2.2.1-q):=by
 obtain⟨pos,e,at_,l⟩:=st;obtain⟨h1,h2,h3,h4,h5⟩:=h;simp only at h1 h2 h3 h4 h5 ⊢;unfold F_125;have hat:Pos s at_:=⟨by omega,by omega⟩;have hxs:SmT x:=by unfold SmT;omega
 refine Has.bind (P:=fun r=>Pos s r.1∧r.2.2.1=at_+(x.size+1)∧r.2.2.2=l++ [x]∧(eOk errIds r.2.1=false→eOk errIds e=false∧x.size≤12∧1≤x.size)) ?_ fun⟨p2,e2,a2,l2⟩ ⟨g1,g2,g3,g4⟩=> .ret ?_
 ·refine Has.bind (P:=fun r=>Pos s r.1∧(eOk errIds r.2=false→eOk errIds e=false∧x.size≤12∧1≤x.size)) ?_ fun⟨p2,e2⟩ ⟨g1,g2⟩=>?_
  ·refine(isName_has hxs Om).bind fun b hb=>?_;have E: ∀{r:Int×Int},Pos s r.1∧eOk errIds r.2=true→Pos s r.1∧(eOk errIds r.2=false→eOk errIds e=false∧x.size≤12∧1≤x.size):=fun hr=>⟨hr.1,fun he=>by rw[hr.2]at he;cases he⟩;refine Has.bind (P:=fun r=>Pos s r.1∧(eOk errIds r.2=false→eOk errIds e=false∧x.size≤12∧1≤x.size)) (.ite (fun _=>(fail2_has h1 hat).bind fun r hr=> .ret (E hr)) fun hb2=>?_) fun r hr=> .ret hr;refine(contains_has Om Om).bind fun c _=>?_;refine Has.bind (P:=fun r=>Pos s r.1∧(eOk errIds r.2=false→eOk errIds e=false∧x.size≤12∧1≤x.size)) (.ite (fun _=>(fail4_has h1 hat).bind fun r hr=> .ret (E hr)) fun _=> .ret ⟨h1,fun he=>⟨he,hb (by simpa using hb2)⟩⟩) fun r hr=> .ret hr
  refine(app_has (by simp only[List.length_singleton];omega)).bind fun l' hl'=> .ret ⟨g1,?_,hl',g2⟩;simp only;rw[w64_id (x:=(x.size:Int)+1) Om Om,w64_id Om Om]
 simp only at g1 g2 g3 g4 ⊢;subst g2 g3;refine⟨trivial,g1,rfl,by simp only[List.length_append,List.length_singleton];omega,fun he=>?_⟩;obtain⟨m1,m2,m3⟩:=g4 he;obtain⟨n1,n2⟩:=h5 m1;refine⟨fun y hy=>?_,by simp only[List.length_append,List.length_singleton];omega⟩;rcases app_mem hy with hy|rfl
 ·exact n1 y hy
 exact m2
theorem list_has(hs:s.size≤600)(hN:2000000≤N)(h:Pos s p):Has (F_44 N s a p) fun r=>Pos s r.1∧(eOk errIds r.2.1=false→r.2.2.length≤500∧ ∀y∈r.2.2,y.size≤12):=by
 unfold F_44;have hsm:SmT s:=by unfold SmT;omega
 refine(behind_has hsm h).bind fun⟨q,x,ok⟩ ⟨h1,h2,h3⟩=> .ite (fun hk=> .ret ⟨h1,fun he=>?_⟩) fun hk=>?_
 ·simp only at he h3;rw[h3 (by simpa using hk)]at he;cases he
 refine(word1_has hsm h1).bind fun⟨q2,w⟩ ⟨g1,g2⟩=> .bind (P:=fun _=>True) (.ret trivial) fun _ _=>?_;simp only at h1 g1 g2;have h10:=h1.1;have g11:=g1.2;refine Has.bind (P:=fun z=>z.2=true∧Pos s z.1.1∧(eOk errIds z.1.2.1=false→z.1.2.2.2.length≤500∧ ∀y∈z.1.2.2.2,y.size≤12)) ?_ fun z hz=>?_
 ·refine(splitC_has (LIv s q w.size) (fun st=>Pos s st.1∧(eOk errIds st.2.1=false→st.2.2.2.length≤500∧ ∀y∈st.2.2.2,y.size≤12)) (fun _=>False) (by unfold SmT;omega) Om ⟨g1,Int.le_refl _,rfl,by simp,fun _=>⟨fun y hy=>(by cases hy),by simp⟩⟩ (fun n y st hst _ hy=>?_) fun y st hst hy=>?_).mono fun z hz=>?_
  ·refine(names_has hs hN h10 Om hst Om).mono fun r ⟨r1,r2,r3,r4,r5⟩=>⟨fun _=>⟨r2,?_,?_,r4,r5⟩,fun hf=>by rw[r1]at hf;cases hf⟩
   ·have:=hst.2.1;omega
   have:=hst.2.2.1;omega
  ·refine(names_has hs hN h10 Om hst (Nat.le_refl _)).mono fun r ⟨r1,r2,r3,r4,r5⟩=>⟨fun _=>⟨r2,fun he=>?_⟩,fun hf=>by rw[r1]at hf;cases hf⟩;obtain⟨m1,m2⟩:=r5 he;have:=hst.2.2.1;exact⟨by omega,m1⟩
  cases hb:z.2 with
  |true=>exact⟨rfl,hz.1 hb⟩
  |false=>exact(hz.2 hb).elim
 obtain⟨⟨z1,z2,z3,z4⟩,b⟩:=z;obtain⟨r1,r2⟩:=hz;have r1:b=true:=r1;subst r1;exact .ret r2
end
theorem slc_has{α:Type}{xs:List α}{lo hi:Int}(h0:0≤lo)(h1:lo≤hi)(h2:hi≤xs.length):Has (slc xs lo hi) fun ys=>(ys.length:Int)=hi-lo∧ ∀y∈ys,y∈xs:=by
 unfold slc;rw[if_pos ⟨h0,h1,by omega⟩];refine .ret ⟨by simp;omega,fun y hy=>?_⟩;exact List.mem_of_mem_take (List.mem_of_mem_drop hy)
theorem scount_ge(b:BA)(c:Int):0≤scount b c∧scount b c≤b.size:=by
 unfold scount;rw[Lib.foldl_data]
 have go: ∀(l:List UInt8) (n:Nat),∃m:Nat,l.foldl (fun(n:Int) x=>if x==c.toNat.toUInt8 then n+1 else n) (n:Int)=(m:Int)∧n≤m∧m≤n+l.length:=by
  intro l
  induction l with
  |nil=>intro n;exact⟨n,rfl,Nat.le_refl _,by simp⟩
  |cons a l ih=>
    intro n;rw[List.foldl_cons];by_cases ha:(a==c.toNat.toUInt8)=true
    ·rw[if_pos ha,show((n:Int)+1)=((n+1:Nat):Int) by omega];obtain⟨m,e,m1,m2⟩:=ih (n+1);exact⟨m,e,by omega,by simp only[List.length_cons];omega⟩
    rw[if_neg ha];obtain⟨m,e,m1,m2⟩:=ih n;exact⟨m,e,by omega,by simp only[List.length_cons];omega⟩
 obtain⟨m,e,m1,m2⟩:=go b.data.toList 0;have hl:b.data.toList.length=b.size:=rfl;have e:List.foldl (fun(n:Int) x=>if x==c.toNat.toUInt8 then n+1 else n) ((0:Nat):Int) b.data.toList=(m:Int):=e;rw[e];omega
section
variable {N:Nat}{s:BA}{a p e:Int}
theorem split_has(hs:s.size≤5000)(hN:2000000≤N):Has (F_50 N s) fun l=>1≤l.length∧l.length≤5001∧ ∀y∈l,y.size≤s.size:=by
 unfold F_50 F_110;refine Has.bind (P:=fun l=>1≤l.length∧l.length≤5001∧ ∀y∈l,y.size≤s.size) ?_ fun r hr=> .ret hr;rw[if_neg (by decide)];obtain⟨c0,c1⟩:=scount_ge s 32;refine Has.bind (P:=fun n:Int=>n=scount s 32+1) (.ite (fun _=> .bind (P:=fun n=>n=scount s 32) (.ret rfl) fun n hn=> .ret (by rw[hn,w64_id Om Om])) fun h=>absurd (by decide) h) fun n hn=>?_;rw[w64_id (x:=(s.size:Int)+1) Om Om];have hm:imin n ((s.size:Int)+1)=scount s 32+1:=by unfold imin;split<;>omega
 rw[hm];obtain⟨m,hmm⟩: ∃m:Nat,scount s 32+1=(m:Int):=⟨(scount s 32+1).toNat,by omega⟩;rw[hmm,mk_eq Om];refine .bind (P:=fun l=>l=List.replicate m ByteArray.empty) (.ret rfl) fun l hl=>?_;subst hl;refine Has.bind (P:=fun r:BA×Int×List BA=>0≤r.2.1∧r.2.1<m∧r.2.2.length=m∧r.1.size≤s.size∧ ∀y∈r.2.2,y.size≤s.size) ?_ fun⟨x,i,l⟩ ⟨h1,h2,h3,h4,h5⟩=>?_
 ·refine Has.loop (fun r:BA×Int×List BA=>0≤r.2.1∧r.2.1<m∧r.2.2.length=m∧r.1.size≤s.size∧ ∀y∈r.2.2,y.size≤s.size) (fun r=>m-r.2.1.toNat) _ ⟨Int.le_refl _,by simp only;omega,by simp,Nat.le_refl _,fun y hy=>by rw[List.eq_of_mem_replicate hy];simp⟩ (by simp only;omega) fun⟨x,i,l⟩ ⟨h1,h2,h3,h4,h5⟩=>?_;simp only at h1 h2 h3 h4 h5;show Has (F_248 N s 0 n x i l) _;unfold F_248;rw[w64_id (x:=(s.size:Int)+1) Om Om,hm,hmm,w64_id (x:=(m:Int)-1) Om Om];refine .ite (fun hi=>?_) fun _=> .ret ⟨h1,h2,h3,h4,h5⟩;have hi:i<(m:Int)-1:=by simpa using hi
  unfold F_246 F_1;refine Has.bind (P:=fun k:Int=> -1≤k∧k<x.size) ((index_has (N:=N) 32 (s:=x)).bind fun k hk=> .ret hk) fun k ⟨k1,k2⟩=>?_;refine .ite (fun _=> .ret ⟨h1,h2,h3,h4,h5⟩) fun hk=>?_;have hk:0≤k:=by simpa using hk
  rw[w64_id (x:=k+0) Om Om,w64_id (x:=k+1) Om Om];refine(sslc_has (Int.le_refl 0) Om Om).bind fun y hy=>(idx_has h1 Om).bind fun _ _=>?_;rw[setI_int h1 Om];refine .bind (P:=fun l'=>l'=l.set i.toNat y) (.ret rfl) fun l' hl'=>(sslc_has Om Om (Int.le_refl _)).bind fun z hz=> .ret ?_;subst hl';rw[w64_id Om Om];refine⟨⟨by simp only;omega,by simp only;omega,by simp only[List.length_set];exact h3,by simp only;omega,fun u hu=>?_⟩,by simp only;omega⟩;rcases List.mem_or_eq_of_mem_set hu with hu|hu
  ·exact h5 u hu
  subst hu;omega
 simp only at h1 h2 h3 h4 h5;refine(idx_has h1 Om).bind fun _ _=>?_;rw[setI_int h1 Om];refine .bind (P:=fun l'=>l'=l.set i.toNat x) (.ret rfl) fun l' hl'=>?_;subst hl';rw[w64_id Om Om];refine(slc_has (Int.le_refl 0) Om (by rw[List.length_set];omega)).bind fun r ⟨r1,r2⟩=> .ret ⟨by omega,by omega,fun u hu=>?_⟩;rcases List.mem_or_eq_of_mem_set (r2 u hu)with hu|hu
 ·exact h5 u hu
 subst hu;exact h4
end
section
variable {N:Nat}{s:BA}{a p e:Int}{l:List BA}{o:Int}
theorem anext_has:Has (F_91 N l o) fun r=>r.1=l∧(r.2.2=true→l≠ []∧r.2.1∈l):=by
 unfold F_91;refine .ite (fun _=> .ret ⟨rfl,fun h=>(by cases h)⟩) fun h=>?_;have hl:l.length≠0:=fun hz=>h (by rw[hz];rfl);exact(idx_has (Int.le_refl 0) Om).bind fun x hx=> .ret ⟨rfl,fun _=>⟨fun h=>(by subst h;cases hx),hx⟩⟩
theorem atake_has(hl:l≠ []):Has (F_113 N l o) fun r=> ∀y∈r.1,y∈l:=by
 unfold F_113;have h1:0<l.length:=List.length_pos_iff.2 hl;refine Has.bind (P:=fun _=>True) ((idx_has (Int.le_refl 0) Om).bind fun x _=> .ret trivial) fun u _=>(slc_has Om Om (Int.le_refl _)).bind fun r ⟨_,hr⟩=>?_;exact Has.bind (P:=fun _=>True) (.ite (fun _=> .ret trivial) fun _=> .ret trivial) fun _ _=> .ret hr
theorem aname_has(hy: ∀y∈l,y.size≤5000)(hN:2000000≤N):Has (F_136 N l o) fun r=>(∀y∈r.1,y∈l)∧r.2.2.1.size≤12:=by
 unfold F_136;refine anext_has.bind fun⟨l2,x,ok⟩ ⟨h1,h2⟩=>?_;simp only at h1 h2;subst h1;refine .ite (fun _=> .ret ⟨fun y hy=>hy,by simp⟩) fun hok=>?_;obtain⟨g1,g2⟩:=h2 (by simpa using hok);refine(isName_has (by unfold SmT;have:=hy x g2;omega) Om).bind fun b hb=> .ite (fun _=> .ret ⟨fun y hy=>hy,by simp⟩) fun hb2=>?_;exact(atake_has g1).bind fun r hr=> .ret ⟨hr,(hb (by simpa using hb2)).1⟩
theorem action_has(hl:l≠ [])(hy: ∀y∈l,y.size≤5000)(hN:2000000≤N):Has (F_175 N l o) fun r=>r.2.2.1.size≤12∧r.2.2.2.1.size≤12:=by
 unfold F_175;refine anext_has.bind fun⟨l2,x,ok⟩ ⟨h1,h2⟩=>?_;simp only at h1 h2;subst h1;refine Has.bind (P:=fun _=>True) (.ite (fun _=> .ret trivial) fun _=> .ret trivial) fun b _=> .ite (fun _=> .bind (P:=fun _=>True) (.ret trivial) fun _ _=> .ret ⟨by simp,by simp⟩) fun _=>?_;refine(atake_has hl).bind fun⟨l3,o3⟩ h3=>?_;simp only at h3;refine Has.bind (P:=PA (fun r=>(∀y∈r.1,y∈l2)∧r.2.2.size≤12) (fun r=>r.2.2.1.size≤12∧r.2.2.2.1.size≤12)) (.ite (fun _=>?_) fun _=> .ret ⟨h3,by simp⟩) fun z hz=>?_
 ·refine(aname_has (fun y hy2=>hy y (h3 y hy2)) hN).bind fun⟨l4,o4,nm,x4⟩ ⟨g1,g2⟩=> .ite (fun _=> .ret ⟨by simp,by simp⟩) fun _=> .ret ⟨fun y hy2=>h3 y (g1 y hy2),g2⟩
 match z,hz with
 | .inr r,hz=>exact .ret hz
 | .inl (l4,o4,nm),hz=>
   obtain⟨g1,g2⟩:=hz;simp only at g1 g2;refine anext_has.bind fun⟨l5,x5,ok5⟩ ⟨k1,k2⟩=>?_;simp only at k1 k2;subst k1;refine .ite (fun _=> .ret ⟨g2,by simp⟩) fun hok=> .ite (fun _=> .bind (P:=fun _=>True) (.ret trivial) fun _ _=> .ret ⟨by simp,by simp⟩) fun _=>?_;obtain⟨m1,m2⟩:=k2 (by simpa using hok);refine(atake_has m1).bind fun⟨l6,o6⟩ h6=>(aname_has (fun y hy2=>hy y (g1 y (h6 y hy2))) hN).bind fun⟨l7,o7,nm7,x7⟩ ⟨n1,n2⟩=> .ite (fun _=> .ret ⟨by simp,by simp⟩) fun _=>?_;refine anext_has.bind fun⟨l8,x8,ok8⟩ _=> .ite (fun _=> .bind (P:=fun _=>True) (.ret trivial) fun _ _=> .ret ⟨by simp,by simp⟩) fun _=> .ret ⟨g2,n2⟩
theorem aparse_has(hs:s.size≤5000)(hN:2000000≤N):Has (F_173 N s) fun r=>r.1.size≤12∧r.2.1.size≤12:=by
 unfold F_173;refine(split_has hs hN).bind fun l ⟨h1,h2,h3⟩=>(action_has (fun h=>by subst h;simp at h1) (fun y hy=>Nat.le_trans (h3 y hy) hs) hN).bind fun⟨_,_,x,y,_⟩ hr=> .bind (P:=fun _=>True) (.ret trivial) fun _ _=> .ret hr
theorem laction_has(hs:s.size≤600)(hN:2000000≤N)(h:Pos s p):Has (F_216 N s a p e) fun r=>r.2.2.1.size≤12∧r.2.2.2.size≤12∧(eOk errIds r.2.1=false→eOk errIds e=false):=by
 unfold F_216;have hsm:SmT s:=by unfold SmT;omega
 refine(behind1_has hsm h).bind fun⟨q,x,ok⟩ ⟨h1,h2⟩=> .ite (fun _=> .ret ⟨by simp,by simp,fun he=>(h2 he).1⟩) fun _=>?_;simp only at h1 h2;have:=h1.1;refine(rest1_has h1).bind fun r hr=>(aparse_has (s:=r) Om hN).bind fun⟨u,v,w,y⟩ ⟨g1,g2⟩=>?_;simp only at g1 g2;refine Has.bind (P:=fun r=>eOk errIds r.2=false→eOk errIds e=false) (.ite (fun hy=>?_) fun _=> .ret fun he=>(h2 he).1) fun r hr=> .ret ⟨g1,g2,hr⟩;unfold F_124;refine Has.bind (P:=fun r=>eOk errIds r.2=false→eOk errIds e=false) ?_ fun r hr=> .ret hr;refine Has.bind (P:=fun r=>eOk errIds r.2=false→eOk errIds e=false) (.ite (fun _=> .ret fun he=>?_) fun _=> .ret fun he=>(h2 he).1) fun r hr=> .ret hr;simp only at he;rw[hy]at he;cases he
end
theorem bsz(l:LI):(bstr l).size=l.length:=by
 have go: ∀(l:LI) (r:BA),(l.foldl (fun r n=>r.push (UInt8.ofNat n.toNat)) r).size=r.size+l.length:=by
  intro l
  induction l with
  |nil=>intro r;rfl
  |cons a l ih=>intro r;rw[List.foldl_cons,ih,ByteArray.size_push,List.length_cons];omega
 have:=go l ByteArray.empty;have h0:ByteArray.empty.size=0:=rfl;unfold bstr;omega
section
variable {N:Nat}{C:List BA}{Ls:List LtT}{Os:List OnT}{s:BA}{a p e:Int}
theorem limit2_has{q:Int}{b:Bool}{x y:Int}:Has (F_85 N s a p e q b x y) fun r=>r.2.2=true→eOk errIds e=false∧x<y:=by
 unfold F_85;let P:Int×Int→Prop:=fun r=>eOk errIds r.2=false→eOk errIds e=false∧x<y;refine Has.bind (P:=P) ?_ fun r hr=> .ret fun h=>hr (by simpa using h);refine Has.bind (P:=P) ?_ fun r hr=> .ret hr;refine .ite (fun he=> .ret fun h=>?_) fun he=>?_
 ·simp only at h;rw[he]at h;cases h
 have he:eOk errIds e=false:=by simpa using he
 refine Has.bind (P:=P) ?_ fun r hr=> .ret hr;refine .ite (fun _=>?_) fun _=>?_
 ·unfold F_84;refine Has.bind (P:=P) ?_ fun r hr=> .ret hr;refine Has.bind (P:=P) (.ite (fun _=> .ret fun h=>?_) fun h2=> .ret fun h=>?_) fun r hr=> .ret hr
  ·have h:eOk errIds 7=false:=h;exact absurd h (by decide)
  rw[show eOk errIds e=false from h]at h2;simp at h2
 refine Has.bind (P:=P) ?_ fun r hr=> .ret hr;refine .ite (fun _=>?_) fun hx=> .ret fun _=>⟨he,by simpa using hx⟩;unfold F_158;refine Has.bind (P:=P) ?_ fun r hr=> .ret hr;refine Has.bind (P:=P) (.ite (fun _=> .ret fun h=>?_) fun h2=> .ret fun h=>?_) fun r hr=> .ret hr
 ·have h:eOk errIds 13=false:=h;exact absurd h (by decide)
 rw[show eOk errIds e=false from h]at h2;simp at h2
theorem on_file_has(hf:FI C Ls Os)(hs:s.size≤600)(hN:2000000≤N)(h:Pos s p):Has (F_214 N C Ls Os s a p) fun r=>FI r.1 r.2.1 r.2.2.1:=by
 unfold F_214;have ho:=hf.o;refine(list_has hs hN h).bind fun⟨q,x,l⟩ ⟨h1,h2⟩=>?_;simp only at h1 h2;refine(expression_has Om hN h1).bind fun⟨q2,x2,k,a1,a2,a3,a4,ks,mn,mx,tx⟩ ⟨e1,e2⟩=>?_;simp only at e1 e2;refine(laction_has hs hN e1).bind fun⟨q3,x3,u,v⟩ ⟨g1,g2,g3⟩=>limit2_has.bind fun⟨q4,x4,ok⟩ hk=>?_;simp only at g1 g2 g3 hk;refine Has.bind (P:=fun O'=>FI C Ls O') (.ite (fun hok=>?_) fun _=> .ret hf) fun O' hO=> .ret hO;obtain⟨m1,m2⟩:=hk hok;obtain⟨n1,n2,n3⟩:=e2 (g3 m1);obtain⟨l1,l2⟩:=h2 n1;refine Has.bind (P:=fun O'=>FI C Ls O') ((app_has (by simp only[List.length_singleton];omega)).bind fun O' hO=> .ret ?_) fun O' hO=> .ret hO;subst hO;refine⟨hf.c,hf.s,hf.l,by simp only[List.length_append,List.length_singleton];omega,hf.lt,fun y hy=>?_⟩;rcases app_mem hy with hy|rfl
 ·exact hf.ot y hy
 exact⟨show cnt (nd11 (q2,x2,k,a1,a2,a3,a4,ks,mn,mx,tx))<700 by omega,n2,l1,l2,g1,g2⟩
theorem line_has(hf:FI C Ls Os)(hs:s.size≤600)(hN:2000000≤N)(h:Pos s p):Has (F_155 N C Ls Os s a p) fun r=>FI r.1 r.2.1 r.2.2.1:=by
 unfold F_155;refine Has.bind (P:=fun _=>True) (.ite (fun _=> .ret trivial) fun _=>prefix_has.bind fun _ _=> .ret trivial) fun b _=> .ite (fun _=> .ret hf) fun _=>?_;refine(word_has (by unfold SmT;omega) h).bind fun⟨q,w⟩ ⟨h1,_⟩=>?_;simp only at h1;let P:List BA×List LtT×List OnT×Int×Int→Prop:=fun r=>FI r.1 r.2.1 r.2.2.1;refine Has.bind (P:=P) ?_ fun r hr=> .ret hr;refine Has.bind (P:=P) ?_ fun r hr=> .ret hr;refine .ite (fun _=>((cond_has hf hs hN h1).mono fun r hr=>hr.1).bind fun r hr=> .ret hr) fun _=>?_;refine Has.bind (P:=P) ?_ fun r hr=> .ret hr;refine .ite (fun _=>((let_has hf hs hN h1).mono fun r hr=>hr.1).bind fun r hr=> .ret hr) fun _=>?_;refine Has.bind (P:=P) ?_ fun r hr=> .ret hr;refine .ite (fun _=>(on_file_has hf hs hN h1).bind fun r hr=> .ret hr) fun _=>?_;exact .bind (P:=fun _=>True) (by unfold F_100;exact .ret trivial) fun _ _=> .ret hf
def SI1:(List BA×List LtT×List OnT×Int) ⊕ (Int×Int)→Prop
 | .inl r=>FI r.1 r.2.1 r.2.2.1
 | .inr _=>False
def SR1:(List BA×List LtT×List OnT×Int) ⊕ (Int×Int)→Prop
 | .inl _=>False
 | .inr r=>eOk errIds r.2=true
theorem file_has{b:LI}(hb:b.length≤600)(hN:2000000≤N):Has (F_39 N b) fun r=>eOk errIds r.2.2.2.2=false→FI r.1 r.2.1 r.2.2.1:=by
 unfold F_39;have hsz:=bsz b;refine .ite (fun h=>absurd h (by simp;omega)) fun _=> .bind (P:=fun _=>True) (.ret trivial) fun _ _=>?_
 have step: ∀(x:BA) (st:(List BA×List LtT×List OnT×Int) ⊕ (Int×Int)),SI1 st→x.size≤600→
  Has (YS (σ1:=(List BA×List LtT×List OnT×Int)) (σ2:=(Int×Int)) (fun x s=>F_98 N x s.1 s.2.1 s.2.2.1 s.2.2.2) x st) fun q=>(q.2=true→SI1 q.1)∧(q.2=false→SR1 q.1):=fun x st hst hx=>by
  match st,hst with
  | .inl (C,Ls,Os,o),hst=>
    show Has (F_98 N x C Ls Os o) _;unfold F_98;refine(line_has hst hx hN ⟨Int.le_refl _,by omega⟩).bind fun⟨C',L',O',u,v⟩ hr=> .ite (fun he=> .bind (P:=fun _=>True) (.ret trivial) fun _ _=> .ret ⟨fun h=>(by cases h),fun _=>he⟩) fun _=> .ret ⟨fun _=>hr,fun h=>(by cases h)⟩
 refine(splitL_has (fun _=>SI1) SI1 SR1 (by unfold SmT;omega) Om (show SI1 (.inl ([(⟨#[109,97,105,110]⟩:BA)],[],[],0))from⟨by simp,fun x hx=>by rw[List.mem_singleton.1 hx];decide,by simp,by simp,fun x hx=>(by cases hx),fun x hx=>(by cases hx)⟩) (fun n x st h1 h2 h3=>step x st h1 Om) fun x st h1 h2=>step x st h1 Om).bind fun z hz=>?_
 match z,hz with
 |(.inl (C,Ls,Os,o),true),hz=>exact .ret fun _=>hz.1 rfl
 |(.inr (u,v),false),hz=>
   have h2:eOk errIds v=true:=hz.2 rfl;refine .ret fun h=>?_;have h:eOk errIds v=false:=h;rw[h2]at h;cases h
 |(.inl _,false),hz=>exact(show False from hz.2 rfl).elim
 |(.inr _,true),hz=>exact(show False from hz.1 rfl).elim
end
section
variable {N:Nat}
structure RS(C Nm:List BA)(R:List Rl):Prop where
 c:C.length≤8
 c1:1≤C.length
 nd:C.Nodup
 n:Nm.length≤48
 r:R.length≤48
 ok: ∀r∈R,RlOk r
 bg: ∀r∈R,r.2.2.2= -1∨(0≤r.2.2.2∧r.2.2.2<C.length)
theorem ruleP_bg{C:List BA}{B:Bk}{x:On}{nms:List BA}{rs:List Rl}{q:List BA×List Rl}(hq:ruleP C B x nms rs= .inr q): ∃r:Rl,q.2=rs++ [r]∧(r.2.2.2= -1∨(0≤r.2.2.2∧r.2.2.2<(C.length:Int))):=by
 unfold ruleP at hq;split at hq
 ·split at hq
  ·rename_i hb;split at hq
   ·cases hq
   split at hq
   ·cases hq
   have hq:=Sum.inr.inj hq;subst hq;refine⟨_,rfl,?_⟩;show(if decide (x.2.2.1.2.size=0)=true then(-1:Int)else plc C x.2.2.1.2)= -1∨(0≤(if decide (x.2.2.1.2.size=0)=true then(-1:Int)else plc C x.2.2.1.2)∧(if decide (x.2.2.1.2.size=0)=true then(-1:Int)else plc C x.2.2.1.2)<C.length);by_cases h0:decide (x.2.2.1.2.size=0)=true
   ·rw[if_pos h0];exact .inl rfl
   rw[if_neg h0];obtain⟨i,e,h1,_⟩:=plc_some (memB_iff.1 (hb.resolve_left h0));have:=lt_len h1;right;omega
  cases hq
 cases hq
theorem rulesP_bg{C:List BA}{B:Bk}: ∀{Os:List On} {nms:List BA} {rs:List Rl} {q:List BA×List Rl},rulesP C B Os nms rs= .inr q→(∀r∈rs,r.2.2.2= -1∨(0≤r.2.2.2∧r.2.2.2<C.length))→ ∀r∈q.2,r.2.2.2= -1∨(0≤r.2.2.2∧r.2.2.2<C.length)
 | [],nms,rs,q,h,hr=>by
   simp only[rulesP,Sum.inr.injEq]at h;subst h;exact hr
 |x::Os,nms,rs,q,h,hr=>by
   simp only[rulesP]at h
   cases hq:ruleP C B x nms rs with
   |inl e=>rw[hq]at h;cases h
   |inr p=>
     rw[hq]at h;obtain⟨rr,h2,h3⟩:=ruleP_bg hq;refine rulesP_bg h fun r hr'=>?_;rw[h2]at hr';rcases List.mem_append.1 hr' with hr'|hr'
     ·exact hr r hr'
     obtain rfl:=List.mem_singleton.1 hr';exact h3
theorem rfB_one{C:List BA}{Ls:List Lt}{Os:List On}(h:rfB C Ls Os=true):1≤C.length:=by
 unfold rfB at h;simp only[Bool.and_eq_true,decide_eq_true_eq,List.all_eq_true]at h;exact h.2.2.1
theorem rread_has(hN:9400000000000000000≤N){b:LI}(hb:b.length≤600):Has (F_127 N b) fun r=>eOk errIds r.2.2.2.2=false→RS r.1 r.2.1 r.2.2.1:=by
 unfold F_127;refine(file_has hb Om).bind fun⟨C,Ls,Os,a,e⟩ hf=> .ite (fun he=> .ret fun h=>?_) fun he=>?_
 ·have h:eOk errIds e=false:=h;rw[h]at he;cases he
 have hf:FI C Ls Os:=hf (by simpa using he)
 have hz:Fsz C Ls Os:=⟨by have:=hf.c;omega,fun s hs=>by have:=hf.s s hs;omega,by have:=hf.l;omega,by have:=hf.o;omega,fun x hx=>⟨(hf.lt x hx).1,by have:=(hf.lt x hx).2.2;omega⟩,fun x hx=>by
  obtain⟨a,b,c,d,e,f⟩:=hf.ot x hx;exact⟨a,c,fun s hs=>by have:=d s hs;omega,by omega,by omega⟩⟩
 have hq: ∀x∈Ls,LQ x:=fun x hx=>⟨(hf.lt x hx).1,(hf.lt x hx).2.1,by have:=(hf.lt x hx).2.2;omega⟩;have hp: ∀x∈Os,OQ x:=fun x hx=>⟨hz.ot x hx,(hf.ot x hx).2.1⟩;have ho:=hf.o;rw[check_code hN hz hq hp];simp only[bind,Option.bind_some]
 cases hr:rfB C Ls Os with
 |false=>exact⟨_,rfl,fun h=>by cases h⟩
 |true=>
   obtain⟨hL,hO,hC⟩:=rfB_out hr hq hp;simp only[if_true];by_cases h0:Os.length=0
   ·rw[if_pos h0];exact⟨_,rfl,fun h=>by cases h⟩
   rw[if_neg h0]
   cases hR:rulesP C (bk Ls) Os [] []with
   |inl p=>
     obtain⟨a,e⟩:=p;refine⟨_,rfl,fun h=>?_⟩;have h:eOk errIds e.code=false:=h;rw[e.ok]at h;cases h
   |inr q=>
     obtain⟨q1,q2,q3⟩:=rulesP_ok hL.book hz.c hO hR Sm;simp only[List.length_nil,Nat.zero_add]at q1 q2;exact⟨_,rfl,fun _=>⟨hf.c,rfB_one hr,hC,by show q.1.length≤48;omega,by show q.2.length≤48;omega,q3,rulesP_bg hR Sm⟩⟩
end
def isCd(R:List Rl)(c:Int)(i:Nat):Bool:=match R[i]? with|some x=>x.1.any (fun y=>c==y)|none=>false
def idxC(R:List Rl)(c:Int):List Nat:=(List.range R.length).filter (isCd R c)
def trC(R:List Rl)(i:Nat):Nd:=match R[i]? with|some x=>x.2.1|none=> .mk 0 (0,0,0,0) [] 0 0 ByteArray.empty
theorem any_eq_mem{l:LI}{c:Int}:l.any (fun y=>c==y)=true↔c∈l:=by
 rw[List.any_eq_true];constructor
 ·rintro⟨y,h,e⟩;have:c=y:=by simpa using e
  exact this▸h
 intro h;exact⟨c,h,by simp⟩
theorem isCd_at{R:List Rl}{c:Int}{i:Nat}{x:Rl}(h:R[i]? =some x):isCd R c i=true↔c∈x.1:=by
 unfold isCd;rw[h];exact any_eq_mem
theorem fil_at{g:Nat→Bool}: ∀{n k i:Nat},((List.range n).filter g)[k]? =some i→((List.range n).filter g).take k=(List.range i).filter g∧g i=true∧i<n
 |0,k,i,h=>by simp at h
 |n+1,k,i,h=>by
   have e:(List.range (n+1)).filter g=(List.range n).filter g++(if g n then [n]else []):=by
    rw[List.range_succ,List.filter_append];cases hg:g n<;>simp[hg]
   rw[e]at h ⊢;by_cases hk:k<((List.range n).filter g).length
   ·rw[List.getElem?_append_left hk]at h;obtain⟨h1,h2,h3⟩:=fil_at h;rw[List.take_append_of_le_length Om];exact⟨h1,h2,by omega⟩
   rw[List.getElem?_append_right Om]at h
   cases hg:g n with
   |false=>rw[hg]at h;simp at h
   |true=>
     rw[hg]at h;simp only[if_true]at h
     have hk0:k-((List.range n).filter g).length=0:=by
      have:=lt_len h;simpa using this
     rw[hk0]at h;have h:n=i:=by simpa using h
     subst h;have:k=((List.range n).filter g).length:=by omega
     subst this;rw[List.take_append_of_le_length (Nat.le_refl _),List.take_length];exact⟨rfl,hg,by omega⟩
theorem fst_sub{R:List Rl}{c:Int}{P:Nd→Prop}{w:Int}(h:Fst ((idxC R c).map (trC R)) P w):(w= -1∧Fst R (fun x=>c∈x.1∧P x.2.1) (-1))∨ ∃k i:Nat,w=(k:Int)∧(idxC R c)[k]? =some i∧Fst R (fun x=>c∈x.1∧P x.2.1) (i:Int):=by
 have mem: ∀{i:Nat} {x:Rl},R[i]? =some x→c∈x.1→i∈idxC R c:=fun{i x} hx hc=>by
  unfold idxC;rw[List.mem_filter];exact⟨List.mem_range.2 (lt_len hx),(isCd_at hx).2 hc⟩
 rcases h with⟨h1,h2⟩|⟨k,x,h1,h2,h3,h4⟩
 ·refine .inl ⟨h1,.inl ⟨rfl,fun x hx ⟨hc,hP⟩=>?_⟩⟩;obtain⟨i,hi,e⟩:=List.getElem_of_mem hx;have hxi:R[i]? =some x:=by rw[List.getElem?_eq_getElem hi,e]
  refine h2 (trC R i) (List.mem_map.2 ⟨i,mem hxi hc,rfl⟩) ?_;unfold trC;rw[hxi];exact hP
 right;rw[List.getElem?_map]at h2;obtain⟨i,hi,e⟩:=Option.map_eq_some_iff.1 h2;unfold idxC at hi;obtain⟨g1,g2,g3⟩:=fil_at hi;obtain⟨y,hy⟩: ∃y,R[i]? =some y:=⟨_,List.getElem?_eq_getElem g3⟩;have ht:trC R i=y.2.1:=by unfold trC;rw[hy]
 refine⟨k,i,h1,hi,.inr ⟨i,y,rfl,hy,⟨(isCd_at hy).1 g2,by rw[←ht,e];exact h3⟩,fun j z hj hz ⟨hc,hP⟩=>?_⟩⟩
 have hjm:j∈((List.range R.length).filter (isCd R c)).take k:=by
  rw[g1,List.mem_filter];exact⟨List.mem_range.2 hj,(isCd_at hz).2 hc⟩
 obtain⟨k',hk',e'⟩:=List.getElem_of_mem hjm;rw[List.length_take]at hk'
 have hk2:(idxC R c)[k']? =some j:=by
  unfold idxC;rw[List.getElem_take]at e';rw[List.getElem?_eq_getElem Om,e']
 refine h4 k' (trC R j) Om (by rw[List.getElem?_map,hk2];rfl) ?_;unfold trC;rw[hz];exact hP
section
variable {N:Nat}{C Nm:List BA}{R:List Rl}
theorem of_code(hN:9300000000000000000≤N)(hl:R.length≤1000)(hr: ∀r∈R,r.1.length≤1000)(c:Int):F_35 N C Nm R c=some ((idxC R c).map fun i:Nat=>(i:Int)):=by
 unfold F_35
 have:=iterO_for0 (f:=fun s:Int×LI=>F_73 N R c s.1 s.2) (fun i=>((i:Int),lst (isCd R c) i)) R.length (r:=lst (isCd R c) R.length) (s:=(0,[])) (N:=N) rfl Om
  (fun i hi=>by
   have hx:R[i]? =some R[i]:=List.getElem?_eq_getElem hi;generalize R[i]=x at hx;have hxl:=hr x (List.mem_of_getElem? hx);have hll:=lst_len (isCd R c) i;show F_73 N R c (i:Int) (lst (isCd R c) i)=_;unfold F_73;rw[if_pos (by simpa using hi),idx_of hx];simp only[bind,Option.bind_some]
   have e:F_169 N x.1 c=some (x.1.any fun y=>c==y):=by
    unfold F_169 F_55
    rw[loop_find x.1 (fun y=>c==y) (fun i=>(i:Int)) Om (fun j y hy=>by
     have hj:=lt_len hy;unfold F_132;rw[if_pos (by simpa using hj),idx_of hy];simp only[bind,Option.bind_some];rw[w64_succ Om]) (by unfold F_132;simp)]
    cases h:x.1.findIdx? (fun y=>c==y)with
    |none=>
      have:x.1.any (fun y=>c==y)=false:=List.any_eq_false.2 fun y hy=>by rw[List.findIdx?_eq_none_iff.1 h y hy];simp
      simp[this]
    |some k=>
      obtain⟨hk,hp,_⟩:=List.findIdx?_eq_some_iff_getElem.1 h;have:x.1.any (fun y=>c==y)=true:=List.any_eq_true.2 ⟨_,List.getElem_mem hk,hp⟩;rw[this];simp
   rw[e];simp only[Option.bind_some];have ei:isCd R c i=x.1.any (fun y=>c==y):=by unfold isCd;rw[hx]
   rw[lst_succ,ei,w64_succ Om]
   cases x.1.any (fun y=>c==y)with
   |true=>
     simp only[if_true];rw[app_eq (by simp;omega)];rfl
   |false=>rfl)
  (by
   show F_73 N R c (R.length:Int) _=_;unfold F_73;rw[if_neg Sm])
 rw[this];rfl
theorem trees_code(hN:9300000000000000000≤N)(hl:R.length≤1000){I:List Nat}(hI: ∀i∈I,i<R.length)(hl2:I.length≤1000):F_36 N C Nm R (I.map fun i:Nat=>(i:Int))=some (I.map (trC R)):=by
 unfold F_36
 have:=iterO_for0 (f:=fun s:Int×List Nd=>F_74 N R (I.map fun i:Nat=>(i:Int)) s.1 s.2) (fun i=>((i:Int),(I.take i).map (trC R))) I.length (r:=I.map (trC R)) (s:=(0,[])) (N:=N) Sm Om
  (fun i hi=>by
   have hx:I[i]? =some I[i]:=List.getElem?_eq_getElem hi;rw[List.take_succ_eq_append_getElem hi,List.map_append];generalize I[i]=k at hx;have hk:=hI k (List.mem_of_getElem? hx);have hy:R[k]? =some R[k]:=List.getElem?_eq_getElem hk;generalize R[k]=y at hy;have ht:trC R k=y.2.1:=by unfold trC;rw[hy]
   show F_74 N R (I.map fun i:Nat=>(i:Int)) (i:Int) ((I.take i).map (trC R))=_;unfold F_74;have h2:(I.map fun i:Nat=>(i:Int))[i]? =some (k:Int):=by rw[List.getElem?_map,hx];rfl
   rw[if_pos (by simpa using hi),idx_of h2];simp only[bind,Option.bind_some];rw[idx_of hy];simp only[Option.bind_some];rw[Nd.of_eq,app_eq (by simp;omega),w64_succ Om];simp[ht])
  (by
   show F_74 N R (I.map fun i:Nat=>(i:Int)) (I.length:Int) _=_;unfold F_74;rw[if_neg Sm,List.take_length])
 rw[this];rfl
theorem idxC_lt{c:Int}: ∀i∈idxC R c,i<R.length:=fun i hi=>by
 unfold idxC at hi;exact List.mem_range.1 (List.mem_filter.1 hi).1
theorem idxC_len(c:Int):(idxC R c).length≤R.length:=by
 unfold idxC;have:=List.length_filter_le (isCd R c) (List.range R.length);simpa using this
theorem trC_ok(hok: ∀r∈R,TOk r.2.1){c:Int}: ∀x∈(idxC R c).map (trC R),TOk x:=fun x hx=>by
 obtain⟨i,hi,rfl⟩:=List.mem_map.1 hx;have hlt:=idxC_lt i hi;have hy:R[i]? =some R[i]:=List.getElem?_eq_getElem hlt;unfold trC;rw[hy];exact hok _ (List.getElem_mem hlt)
variable {t:LI}
theorem setBest_code(hN:9300000000000000000≤N)(ht:t.length≤4096)(htb: ∀x∈t,0≤x∧x<256)(hl:R.length≤1000)(hr: ∀r∈R,r.1.length≤1000)(hok: ∀r∈R,TOk r.2.1){c:Int}{a most:Nat}(ha:a≤t.length)(hm:most≤4096): ∃(L:Nat) (r:Int),
 F_163 N C Nm R c t (a:Int) (most:Int)=some ((L:Int),r)∧((L=0∧r= -1)∨(0<L∧L≤most∧0≤r∧Fst R (fun x=>c∈x.1∧En t x.2.1 a (a+L)) r))∧ ∀x∈R,c∈x.1→ ∀k,En t x.2.1 a (a+k)→k≤most→k≤L:=by
 have hil:=idxC_len (R:=R) c;obtain⟨L,w,e1,h1,h2⟩:=best_code hN ht htb (trC_ok hok (c:=c)) (by simp;omega) ha hm
 have hmax: ∀x∈R,c∈x.1→ ∀k,En t x.2.1 a (a+k)→k≤most→k≤L:=fun x hx hc k hE hk=>by
  obtain⟨i,hi,e⟩:=List.getElem_of_mem hx;have hxi:R[i]? =some x:=by rw[List.getElem?_eq_getElem hi,e]
  refine h2 (trC R i) (List.mem_map.2 ⟨i,?_,rfl⟩) k (by unfold trC;rw[hxi];exact hE) hk;unfold idxC;exact List.mem_filter.2 ⟨List.mem_range.2 hi,(isCd_at hxi).2 hc⟩
 unfold F_163;rw[of_code hN hl hr];simp only[bind,Option.bind_some];rw[trees_code hN hl idxC_lt Om];simp only[Option.bind_some];rw[e1];simp only[Option.bind_some];rcases h1 with⟨h3,h4⟩|⟨h3,h4,h5,h6⟩
 ·subst h3 h4;exact⟨0,-1,rfl,.inl ⟨rfl,rfl⟩,hmax⟩
 rcases fst_sub h6 with⟨h7,_⟩|⟨k,i,h7,h8,h9⟩
 ·omega
 subst h7;have h10:((idxC R c).map fun i:Nat=>(i:Int))[k]? =some (i:Int):=by rw[List.getElem?_map,h8];rfl
 rw[if_neg Sm,idx_of h10];exact⟨L,(i:Int),rfl,.inr ⟨h3,h4,by omega,h9⟩,hmax⟩
structure NX(t:LI)(R:List Rl)(c:Int)(a most n:Nat)(r:Int):Prop where
 n1:1≤n
 nm:n≤most
 nl:a+n≤t.length
 f:Fst R (fun x=>c∈x.1∧En t x.2.1 a (a+n)) r
 one:r= -1→n=1
 mx: ∀k,n<k→k≤most→ ∀x∈R,c∈x.1→ ¬En t x.2.1 a (a+k)
theorem Fst.get{α:Type}{xs:List α}{P:α→Prop}{r:Int}(h:Fst xs P r)(h0:0≤r): ∃x∈xs,P x:=by
 rcases h with⟨h1,_⟩|⟨k,x,_,h2,h3,_⟩
 ·omega
 exact⟨x,List.mem_of_getElem? h2,h3⟩
theorem Fst.rng{α:Type}{xs:List α}{P:α→Prop}{r:Int}(h:Fst xs P r): -1≤r∧r<xs.length:=by
 rcases h with⟨h1,_⟩|⟨k,x,h1,h2,_,_⟩
 ·omega
 have:=lt_len h2;omega
theorem NX.uniq{c:Int}{a most n n':Nat}{r r':Int}(h:NX t R c a most n r)(h':NX t R c a most n' r'):n=n'∧r=r':=by
 have key: ∀{n n':Nat} {r r':Int},NX t R c a most n r→NX t R c a most n' r'→ ¬n<n':=fun{n n' r r'} h h' hlt=>by
  by_cases hr:r'= -1
  ·have:=h'.one hr;have:=h.n1;omega
  obtain⟨x,hx,hc,hE⟩:=h'.f.get (by have:=h'.f.rng;omega);exact h.mx n' hlt h'.nm x hx hc hE
 have h1:=key h h';have h2:=key h' h;obtain rfl:n=n':=by omega
 exact⟨rfl,h.f.uniq h'.f⟩
theorem next_code(hN:9300000000000000000≤N)(ht:t.length≤4096)(htb: ∀x∈t,0≤x∧x<256)(hl:R.length≤1000)(hr: ∀r∈R,r.1.length≤1000)(hok: ∀r∈R,TOk r.2.1){c:Int}{a most:Nat}(ha:a<t.length)(h1:1≤most)(hm:most≤4096): ∃(n:Nat) (r:Int),
 F_95 N C Nm R c t (a:Int) (most:Int)=some ((n:Int),r)∧NX t R c a most n r:=by
 obtain⟨L,r,e,h2,h3⟩:=setBest_code (C:=C) (Nm:=Nm) hN ht htb hl hr hok (c:=c) (a:=a) Om hm;unfold F_95;rw[if_neg Sm,decide_eq_false Om];simp only[bind,Option.bind_some,Bool.false_eq_true,if_false];rw[e];simp only[Option.bind_some];rcases h2 with⟨h4,h5⟩|⟨h4,h5,h6,h7⟩
 ·subst h4 h5;refine⟨1,-1,by simp,by omega,h1,by omega,.inl ⟨rfl,fun x hx ⟨hc,hE⟩=>?_⟩,fun _=>rfl,fun k hk hkm x hx hc hE=>?_⟩
  ·have:=h3 x hx hc 1 hE h1;omega
  have:=h3 x hx hc k hE hkm;omega
 refine⟨L,r,by rw[if_pos (by simpa using h4)],by omega,h5,?_,h7,fun h=>by omega,fun k hk hkm x hx hc hE=>?_⟩
 ·obtain⟨x,hx,hc,hE⟩:=h7.get h6;exact hE.up.2 Om
 have:=h3 x hx hc k hE hkm;omega
abbrev Pc:=Int×Int×Int×BA
def PC(t:LI)(C:List BA)(R:List Rl)(most:Nat):List Pc→Nat→Nat→Prop
 | [],s,e=>s=e
 |p::l,s,e=> ∃(n c:Nat),p.1=(s:Int)∧p.2.1=(n:Int)∧C[c]? =some p.2.2.2∧NX t R (c:Int) s most n p.2.2.1∧PC t C R most l (s+n) e
theorem PC.snoc{most:Nat}: ∀{l:List Pc} {s m n c:Nat} {p:Pc},PC t C R most l s m→p.1=(m:Int)→p.2.1=(n:Int)→C[c]? =some p.2.2.2→NX t R (c:Int) m most n p.2.2.1→PC t C R most (l++ [p]) s (m+n)
 | [],s,m,n,c,p,h,h1,h2,h3,h4=>by
   have h:s=m:=h;subst h;exact⟨n,c,h1,h2,h3,h4,rfl⟩
 |q::l,s,m,n,c,p,⟨n',c',g1,g2,g3,g4,g5⟩,h1,h2,h3,h4=>⟨n',c',g1,g2,g3,g4,PC.snoc g5 h1 h2 h3 h4⟩
theorem PC.le{most:Nat}: ∀{l:List Pc} {s e:Nat},PC t C R most l s e→s+l.length≤e
 | [],s,e,h=>by
   have h:s=e:=h;simp;omega
 |q::l,s,e,⟨n',c',g1,g2,g3,g4,g5⟩=>by
   have:=PC.le g5;have:=g4.n1;simp only[List.length_cons];omega
theorem name_code{c:Nat}{x:BA}(h:C[c]? =some x):F_119 N C Nm R (c:Int)=some x:=by
 have:=lt_len h;unfold F_119;rw[if_neg Sm,decide_eq_false Om];simp only[bind,Option.bind_some,Bool.false_eq_true,if_false];rw[idx_of h];rfl
theorem after_code(hbg: ∀r∈R,r.2.2.2= -1∨(0≤r.2.2.2∧r.2.2.2<C.length)){c:Nat}(hc:c<C.length)(r:Int): ∃c':Nat,F_148 N C Nm R (c:Int) r=some (c':Int)∧c'<C.length:=by
 unfold F_148;by_cases h1:r<0
 ·rw[if_pos (by simpa using h1)];exact⟨c,rfl,hc⟩
 rw[if_neg (by simpa using h1)];by_cases h2:r≥(R.length:Int)
 ·rw[if_pos (by simpa using h2)];exact⟨c,rfl,hc⟩
 rw[if_neg (by simpa using h2)];obtain⟨k,rfl⟩: ∃k:Nat,r=(k:Int):=⟨r.toNat,by omega⟩;have hx:R[k]? =some R[k]:=List.getElem?_eq_getElem Om;have hb:=hbg _ (List.getElem_mem (show k<R.length by omega));generalize R[k]=x at hx hb;rw[idx_of hx];simp only[bind,Option.bind_some];by_cases h3:x.2.2.2= -1
 ·rw[if_pos (by simpa using h3)];exact⟨c,rfl,hc⟩
 rw[if_neg (by simpa using h3)];have:=hb.resolve_left h3;exact⟨x.2.2.2.toNat,by rw[Int.toNat_of_nonneg this.1],by omega⟩
theorem cut_code(hN:9300000000000000000≤N)(ht:t.length≤4096)(htb: ∀x∈t,0≤x∧x<256)(hl:R.length≤1000)(hr: ∀r∈R,r.1.length≤1000)(hok: ∀r∈R,TOk r.2.1)(hC:1≤C.length)(hbg: ∀r∈R,r.2.2.2= -1∨(0≤r.2.2.2∧r.2.2.2<C.length)){most:Nat}(h1:1≤most)(hm:most≤48): ∃l:List Pc,
 F_94 N C Nm R t (most:Int)=some (l,0)∧PC t C R most l 0 t.length:=by
 unfold F_94 F_46;rw[if_neg (by simp;omega),decide_eq_false Om];simp only[bind,Option.bind_some,Bool.false_eq_true,if_false]
 have er:F_53 N C Nm R []=some true:=by
  unfold F_53;obtain⟨M,rfl⟩: ∃m,N=m+1:=⟨N-1,by omega⟩;have e0:F_149 (M+1) [] 0 (-1)=some (.inr (.inl ())):=rfl;simp only[iterO,e0,bind,Option.bind_some];rw[decide_eq_true Om]
 rw[er];simp only[Option.bind_some,Bool.not_true,Bool.false_eq_true,if_false]
 obtain⟨l,e,h⟩:=iterO_while (f:=fun s:List (Int×(List BA×List BA×List Rl))×List Pc×Int×Int×List BA×List BA×List Rl=>F_96 N t (most:Int) s.1 s.2.1 s.2.2.1 s.2.2.2.1 s.2.2.2.2.1 s.2.2.2.2.2.1 s.2.2.2.2.2.2)
  (fun s=> ∃(l:List Pc) (c a:Nat),s=([],l,(c:Int),(a:Int),C,Nm,R)∧c<C.length∧a≤t.length∧PC t C R most l 0 a) (fun s=>t.length-s.2.2.2.1.toNat) (fun l=>PC t C R most l 0 t.length)
  (fun s hI=>by
   obtain⟨l,c,a,rfl,hc,ha,hP⟩:=hI;try simp only
   unfold F_96;by_cases hal:a<t.length
   ·left;obtain⟨n,r,g1,g2⟩:=next_code (C:=C) (Nm:=Nm) hN ht htb hl hr hok (c:=(c:Int)) hal h1 Om;have hx:C[c]? =some C[c]:=List.getElem?_eq_getElem hc;generalize C[c]=x at hx;obtain⟨c',a1,a2⟩:=after_code (N:=N) (Nm:=Nm) hbg hc r;have hle:=hP.le;have hnl:=g2.nl;have hn1:=g2.n1;refine⟨([],l++ [((a:Int),(n:Int),r,x)],(c':Int),((a+n:Nat):Int),C,Nm,R),?_,⟨_,c',a+n,rfl,a2,hnl,hP.snoc rfl rfl hx g2⟩,by simp only[Int.toNat_natCast];omega⟩;rw[if_pos (by simpa using hal),if_neg Sm];simp only[bind,Option.bind_some,Bool.false_eq_true,if_false];rw[g1];simp only[Option.bind_some];rw[name_code hx];simp only[Option.bind_some];rw[app_eq (by simp;omega)];simp only[Option.bind_some];rw[a1,show w64 ((a:Int)+(n:Int))=((a+n:Nat):Int) by rw[w64,wrap64]<;>omega];rfl
   right;obtain rfl:a=t.length:=by omega
   exact⟨l,by rw[if_neg Sm],hP⟩) (N:=N) (s:=([],[],0,0,C,Nm,R)) ⟨[],0,0,rfl,by omega,by omega,rfl⟩ (by simp only;omega)
 rw[show iterO N (fun s:List (Int×(List BA×List BA×List Rl))×List Pc×Int×Int×List BA×List BA×List Rl=>F_96 N t (most:Int) s.1 s.2.1 s.2.2.1 s.2.2.2.1 s.2.2.2.2.1 s.2.2.2.2.2.1 s.2.2.2.2.2.2) ([],[],0,0,C,Nm,R)=_ from e];exact⟨l,rfl,h⟩
end
theorem slc_mid{α:Type}{xs:List α}{s n:Nat}(h:s+n≤xs.length):slc xs (s:Int) ((s+n:Nat):Int)=some ((xs.take (s+n)).drop s):=by
 unfold slc;rw[if_pos Om];rw[show((s:Int)).toNat=s from rfl,show((s+n:Nat):Int).toNat=s+n from rfl]
theorem mid_len{α:Type}{xs:List α}{s n:Nat}(h:s+n≤xs.length):((xs.take (s+n)).drop s).length=n:=by
 simp;omega
abbrev Tok:=Int×BA×BA×Int×LI
def TC(t:LI):List Tok→Nat→Nat→Prop
 | [],s,e=>s≤e
 |x::l,s,e=> ∃a n:Nat,x.2.2.2.1=(a:Int)∧s≤a∧1≤n∧a+n≤t.length∧x.2.2.2.2=(t.take (a+n)).drop a∧TC t l (a+n) e
theorem TC.mono{t:LI}: ∀{l:List Tok} {s e e':Nat},TC t l s e→e≤e'→TC t l s e'
 | [],s,e,e',h,he=>by
   have h:s≤e:=h;show s≤e';omega
 |_::_,_,_,_,⟨a,n,h1,h2,h3,h4,h5,h6⟩,he=>⟨a,n,h1,h2,h3,h4,h5,h6.mono he⟩
theorem TC.snoc{t:LI}{x:Tok}{a n:Nat}(h1:x.2.2.2.1=(a:Int))(h3:1≤n)(h4:a+n≤t.length)(h5:x.2.2.2.2=(t.take (a+n)).drop a): ∀{l:List Tok} {s:Nat},TC t l s a→TC t (l++ [x]) s (a+n)
 | [],s,h=>⟨a,n,h1,h,h3,h4,h5,Nat.le_refl _⟩
 |_::_,_,⟨b,m,g1,g2,g3,g4,g5,g6⟩=>⟨b,m,g1,g2,g3,g4,g5,TC.snoc h1 h3 h4 h5 g6⟩
section
variable {N:Nat}{C Nm:List BA}{R:List Rl}{t:LI}
theorem swaps_none(hN:1≤N)(i:Int):iterO N (fun s:List (Int×(List BA×List BA×List Rl))×List BA×List BA×List Rl=>F_118 N i s.1 s.2.1 s.2.2.1 s.2.2.2) ([],C,Nm,R)=some ([],C,Nm,R):=by
 obtain⟨M,rfl⟩: ∃m,N=m+1:=⟨N-1,by omega⟩;have e:F_118 (M+1) i [] C Nm R=some (.inr ([],C,Nm,R)):=rfl;simp only[iterO,e]
theorem tok_step(hN:9300000000000000000≤N)(ht:t.length≤4096){l:List Pc}(hl:l.length≤5000){i s n:Nat}{r:Int}{nm:BA}(hx:l[i]? =some ((s:Int),(n:Int),r,nm))(hr: -1≤r∧r<R.length)(hn:s+n≤t.length){ts:List Tok}(hts:ts.length≤5000): ∃ts':List Tok,
 F_71 N l t [] (i:Int) C Nm R ts=some (.inl ([],((i+1:Nat):Int),C,Nm,R,ts'))∧(ts'=ts∨ ∃x:Tok,ts'=ts++ [x]∧x.2.2.2.1=(s:Int)∧x.2.2.2.2=(t.take (s+n)).drop s):=by
 have hi:=lt_len hx;have hml:=mid_len hn;have e1:w64 ((t.length:Int)-(s:Int))=((t.length-s:Nat):Int):=by rw[w64,wrap64]<;>omega
 have e2:w64 ((s:Int)+(n:Int))=((s+n:Nat):Int):=by rw[w64,wrap64]<;>omega
 have ecl:F_140 N ((t.take (s+n)).drop s)=some ((t.take (s+n)).drop s):=by
  unfold F_140;rw[app_eq (by simp only[List.length_nil];omega)];rfl
 have echk:(if decide ((s:Int)<0)=true then some true else if decide ((n:Int)<0)=true then some true else if decide ((s:Int)>(t.length:Int))=true then some true else some (decide ((n:Int)>((t.length-s:Nat):Int))):Option Bool)=some false:=by
  rw[if_neg Sm,if_neg Sm,if_neg (by simp;omega),decide_eq_false Om]
 unfold F_71;rw[if_pos (by simpa using hi),idx_of hx];simp only[bind,Option.bind_some];rw[swaps_none Om];simp only[Option.bind_some];rw[e1,e2];by_cases h0:0≤r
 ·obtain⟨k,rfl⟩: ∃k:Nat,r=(k:Int):=⟨r.toNat,by omega⟩;have hk:k<R.length:=by omega
  have hy:R[k]? =some R[k]:=List.getElem?_eq_getElem hk;generalize R[k]=y at hy;rw[if_pos Sm,decide_eq_true Om];simp only[Option.bind_some,if_true];rw[idx_of hy];simp only[Option.bind_some];by_cases he:y.2.2.1<0∨y.2.2.1≥(Nm.length:Int)
  ·have e3:(if decide (y.2.2.1<0)=true then some true else some (decide (y.2.2.1≥(Nm.length:Int))):Option Bool)=some true:=by
    by_cases h:y.2.2.1<0
    ·rw[if_pos (by simpa using h)]
    rw[if_neg (by simpa using h),decide_eq_true (he.resolve_left h)]
   rw[e3];simp only[Option.bind_some,if_true];rw[w64_succ Om];exact⟨ts,rfl,.inl rfl⟩
  have h1: ¬y.2.2.1<0:=fun h=>he (.inl h);have h2: ¬y.2.2.1≥(Nm.length:Int):=fun h=>he (.inr h)
  have e3:(if decide (y.2.2.1<0)=true then some true else some (decide (y.2.2.1≥(Nm.length:Int))):Option Bool)=some false:=by
   rw[if_neg (by simpa using h1),decide_eq_false h2]
  obtain⟨q,hq⟩: ∃q:Nat,y.2.2.1=(q:Int):=⟨y.2.2.1.toNat,by omega⟩;have hz:Nm[q]? =some Nm[q]:=List.getElem?_eq_getElem Om;generalize Nm[q]=z at hz;rw[e3];simp only[Option.bind_some,Bool.false_eq_true,if_false];rw[hq,idx_of hz];simp only[Option.bind_some];rw[echk];simp only[Option.bind_some,Bool.false_eq_true,if_false];rw[slc_mid hn];simp only[Option.bind_some];rw[ecl];simp only[Option.bind_some];rw[app_eq (by simp;omega),w64_succ Om];exact⟨_,rfl,.inr ⟨_,rfl,rfl,rfl⟩⟩
 rw[if_neg (by simpa using h0)];simp only[Option.bind_some,Bool.false_eq_true,if_false];rw[echk];simp only[Option.bind_some,Bool.false_eq_true,if_false];rw[slc_mid hn];simp only[Option.bind_some];rw[ecl];simp only[Option.bind_some];rw[app_eq (by simp;omega),w64_succ Om];exact⟨_,rfl,.inr ⟨_,rfl,rfl,rfl⟩⟩
theorem toks_loop(hN:9300000000000000000≤N)(ht:t.length≤4096){most:Nat}{l:List Pc}(hl:l.length≤5000): ∀(l2:List Pc) (i s K:Nat) (ts:List Tok),l.drop i=l2→PC t C R most l2 s t.length→l2.length<K→TC t ts 0 s→ts.length≤i→i≤l.length→ ∃ts',
 iterO K (fun z=>F_71 N l t z.1 z.2.1 z.2.2.1 z.2.2.2.1 z.2.2.2.2.1 z.2.2.2.2.2) ([],(i:Int),C,Nm,R,ts)=some ts'∧TC t ts' 0 t.length∧ts'.length≤l.length:=by
 intro l2
 induction l2 with
 |nil=>
   intro i s K ts hd hP hK hT hti hil0;obtain⟨K,rfl⟩: ∃m,K=m+1:=⟨K-1,by omega⟩;have hP:s=t.length:=hP;subst hP;have hli:l.length≤i:=List.drop_eq_nil_iff.1 hd;refine⟨ts,?_,hT,by omega⟩;simp only[iterO,F_71];rw[if_neg (by simp;omega)]
 |cons p l2 ih=>
   intro i s K ts hd hP hK hT hti hil0;obtain⟨K,rfl⟩: ∃m,K=m+1:=⟨K-1,by omega⟩
   have hil:i<l.length:=by
    apply Nat.lt_of_not_le;intro h;rw[List.drop_eq_nil_of_le h]at hd;cases hd
   have hx:l[i]? =some p:=by
    rw[List.drop_eq_getElem_cons hil]at hd;rw[List.getElem?_eq_getElem hil,(List.cons.inj hd).1]
   have hd2:l.drop (i+1)=l2:=by
    rw[List.drop_eq_getElem_cons hil]at hd;exact(List.cons.inj hd).2
   obtain⟨p1,p2,p3,p4⟩:=p;obtain⟨n,c,h1,h2,h3,h4,h5⟩:=hP;try simp only at h1 h2 h3 h4
   subst h1 h2;obtain⟨ts',e,hts⟩:=tok_step (C:=C) (Nm:=Nm) (R:=R) hN ht hl hx h4.f.rng h4.nl (ts:=ts) Om
   have hT':TC t ts' 0 (s+n)∧ts'.length≤i+1:=by
    rcases hts with rfl|⟨x,rfl,g1,g2⟩
    ·exact⟨hT.mono Om,by omega⟩
    exact⟨TC.snoc g1 h4.n1 h4.nl g2 hT,by simp;omega⟩
   obtain⟨ts2,e2,g⟩:=ih (i+1) (s+n) K ts' hd2 h5 (by simp only[List.length_cons]at hK;omega) hT'.1 hT'.2 Om;refine⟨ts2,?_,g⟩;simp only[iterO];rw[e];exact e2
theorem join_loop(ht:t.length≤4096){ts:List Tok}(hl:ts.length≤5000): ∀(l2:List Tok) (i s K e:Nat),ts.drop i=l2→TC t l2 s e→l2.length<K→
 iterO K (fun z=>F_64 N t ts z.1 z.2) ((i:Int),(s:Int))=some (.inl ()):=by
 intro l2
 induction l2 with
 |nil=>
   intro i s K e hd hT hK;obtain⟨K,rfl⟩: ∃m,K=m+1:=⟨K-1,by omega⟩;have hli:ts.length≤i:=List.drop_eq_nil_iff.1 hd;simp only[iterO,F_64];rw[if_neg (by simp;omega)]
 |cons x l2 ih=>
   intro i s K e hd hT hK;obtain⟨K,rfl⟩: ∃m,K=m+1:=⟨K-1,by omega⟩
   have hil:i<ts.length:=by
    apply Nat.lt_of_not_le;intro h;rw[List.drop_eq_nil_of_le h]at hd;cases hd
   have hx:ts[i]? =some x:=by
    rw[List.drop_eq_getElem_cons hil]at hd;rw[List.getElem?_eq_getElem hil,(List.cons.inj hd).1]
   have hd2:ts.drop (i+1)=l2:=by
    rw[List.drop_eq_getElem_cons hil]at hd;exact(List.cons.inj hd).2
   obtain⟨x1,x2,x3,x4,x5⟩:=x;obtain⟨a,n,h1,h2,h3,h4,h5,h6⟩:=hT;try simp only at h1 h5
   subst h1 h5;have hml:=mid_len h4;have e1:w64 ((t.length:Int)-(a:Int))=((t.length-a:Nat):Int):=by rw[w64,wrap64]<;>omega
   have e2:w64 ((a:Int)+(n:Int))=((a+n:Nat):Int):=by rw[w64,wrap64]<;>omega
   have st:F_64 N t ts (i:Int) (s:Int)=some (.inl (((i+1:Nat):Int),((a+n:Nat):Int))):=by
    unfold F_64;rw[if_pos (by simpa using hil),idx_of hx];simp only[bind,Option.bind_some];rw[hml,e1,e2,if_neg (by simp;omega),if_neg (by simp;omega),if_neg (by simp;omega),if_neg (by simp;omega),slc_mid h4];simp only[Option.bind_some,bne_self_eq_false,Bool.false_eq_true,if_false];rw[w64_succ Om]
   simp only[iterO];rw[st];exact ih (i+1) (a+n) K e hd2 h6 (by simp only[List.length_cons]at hK;omega)
theorem PC.get{most:Nat}: ∀{l:List Pc} {s e:Nat},PC t C R most l s e→ ∀{j:Nat} {p:Pc},l[j]? =some p→ ∃(s' n c:Nat),p.1=(s':Int)∧p.2.1=(n:Int)∧C[c]? =some p.2.2.2∧NX t R (c:Int) s' most n p.2.2.1
 | [],_,_,_,j,p,h=>by simp at h
 |q::l,s,e,⟨n,c,h1,h2,h3,h4,h5⟩,0,p,h=>by
   have h:q=p:=by simpa using h
   subst h;exact⟨s,n,c,h1,h2,h3,h4⟩
 |q::l,s,e,⟨n,c,h1,h2,h3,h4,h5⟩,j+1,p,h=>PC.get h5 (by simpa using h)
theorem NX.shift{c:Int}{s most n:Nat}{r:Int}(hs:s≤t.length)(h:NX (t.drop s) R c 0 most n r):NX t R c s most n r:=by
 have hl:(t.drop s).length=t.length-s:=List.length_drop ..;have hg: ∀i,i<t.length-s→(t.drop s)[i]? =t[s+i]? :=fun i _=>by rw[List.getElem?_drop]
 have loc: ∀(x:Nd) (k:Nat),k≤t.length-s→(En (t.drop s) x 0 (0+k)↔En t x s (s+k)):=fun x k hk=>by
  have:=En.loc hg hl x (Nat.zero_le _) hk;rw[Nat.zero_add];exact this
 have hnl:=h.nl;refine⟨h.n1,h.nm,by omega,h.f.congr fun x _=>?_,h.one,fun k hk hkm x hx hc hE=>?_⟩
 ·rw[loc x.2.1 n Om]
 have:=hE.up.2 hs;exact h.mx k hk hkm x hx hc ((loc x.2.1 k Om).2 hE)
end
theorem munchJoin_true{b t:LI}{m:Int}(htb: ∀x∈t,0≤x∧x<256): ∃N,F_29 N b t m=some true:=by
 refine⟨9400000000000000000,?_⟩;have ha:F_179 9400000000000000000=some true:=by kernel_rfl
 generalize hN':(9400000000000000000:Nat)=N at ha ⊢;have hN:9400000000000000000≤N:=by omega
 clear hN';unfold F_29;rw[ha];simp only[bind,Option.bind_some,Bool.not_true,Bool.false_eq_true,if_false];by_cases hb:b.length≤300
 case neg=>
  rw[if_pos (by simp;omega)];rfl
 by_cases ht:t.length≤12
 case neg=>
  rw[if_neg (by simp;omega),decide_eq_true Om];rfl
 rw[if_neg (by simp;omega),decide_eq_false Om];simp only[Option.bind_some,Bool.false_eq_true,if_false];obtain⟨⟨C,Nm,R,a,e⟩,hr,hs⟩:=rread_has hN (b:=b) Om;rw[hr];simp only[Option.bind_some]
 cases he:eOk errIds e with
 |true=>rfl
 |false=>
   have hs:RS C Nm R:=hs he;have hsr:=hs.r;have hR1: ∀r∈R,r.1.length≤1000:=fun r hr=>by have:=(hs.ok r hr).l;omega
   have hR2: ∀r∈R,TOk r.2.1:=fun r hr=>⟨(hs.ok r hr).t,(hs.ok r hr).c,(hs.ok r hr).q⟩;obtain⟨l,hl,hP⟩:=cut_code (N:=N) (Nm:=Nm) (R:=R) (t:=t) Om Om htb Om hR1 hR2 hs.c1 hs.bg (most:=48) Om Om;have hl:F_94 N C Nm R t 48=some (l,0):=hl;have hle:=hP.le;rw[if_neg Bool.false_ne_true,hl];simp only[Option.bind_some];rw[show eOk errIds 0=false from rfl,if_neg Bool.false_ne_true];simp only[Option.bind_some];by_cases h0:l.length=0
   ·have hl0:l= []:=List.eq_nil_of_length_eq_zero h0;subst hl0;have hP:0=t.length:=hP;rw[if_pos Sm];simp[←hP]
   rw[if_neg (by simp;exact fun h=>h0 (by rw[h];rfl))];have e1:IntKind.wrap .u64 (l.length:Int)=(l.length:Int):=by rw[wrapU64]<;>omega
   have hu:0≤IntKind.wrap .u64 m:=by
    simp only[IntKind.wrap,IntKind.signed,IntKind.bits];simp;omega
   rw[e1];generalize IntKind.wrap .u64 m=u at hu
   obtain⟨j,hj,hjl⟩: ∃j:Nat,IntKind.wrap .i64 (u.tmod (l.length:Int))=(j:Int)∧j<l.length:=by
    have e2:u.tmod (l.length:Int)=u %(l.length:Int):=Int.tmod_eq_emod_of_nonneg hu;have g1:=Int.emod_nonneg u (show(l.length:Int)≠0 by omega);have g2:=Int.emod_lt_of_pos u (show(0:Int)<(l.length:Int) by omega);refine⟨(u %(l.length:Int)).toNat,?_,by omega⟩;rw[e2,wrap64]<;>omega
   have hx:l[j]? =some l[j]:=List.getElem?_eq_getElem hjl;generalize l[j]=p at hx;obtain⟨s,n,c,p1,p2,p3,p4⟩:=hP.get hx;obtain⟨q1,q2,q3,q4⟩:=p;try simp only at p1 p2 p3 p4
   subst p1 p2;have hnl:=p4.nl;have hn1:=p4.n1;have hcl:=hs.c;have enz:nz (l.length:Int)=some ():=by unfold nz;rw[if_neg Om]
   rw[enz,hj,idx_of hx];simp only[Option.bind_some];rw[if_neg Sm,decide_eq_false Om];simp only[Option.bind_some,Bool.false_eq_true,if_false]
   have esl:slc t (s:Int) (t.length:Int)=some (t.drop s):=by
    unfold slc;rw[if_pos Om];simp
   rw[esl];simp only[Option.bind_some];rw[cond_code Om Om,plc_at hs.nd p3];simp only[Option.bind_some];have hdl:(t.drop s).length=t.length-s:=List.length_drop ..;obtain⟨n',r',e3,hX⟩:=next_code (N:=N) (C:=C) (Nm:=Nm) (R:=R) (t:=t.drop s) Om Om (fun x hx=>htb x (List.mem_of_mem_drop hx)) Om hR1 hR2 (c:=(c:Int)) (a:=0) (most:=48) Om Om Om;have e3:F_95 N C Nm R (c:Int) (t.drop s) 0 48=some ((n':Int),r'):=e3;obtain⟨rfl,rfl⟩:=p4.uniq (hX.shift Om);rw[e3];simp only[Option.bind_some,bne_self_eq_false,Bool.false_eq_true,if_false];obtain⟨ts,k1,k2,k3⟩:=toks_loop (N:=N) (Nm:=Nm) Om Om (l:=l) Om l 0 0 N [] rfl hP Om (Nat.le_refl 0) Sm Om;have k1:iterO N (fun z=>F_71 N l t z.1 z.2.1 z.2.2.1 z.2.2.2.1 z.2.2.2.2.1 z.2.2.2.2.2) ([],0,C,Nm,R,[])=some ts:=k1
   have eT:F_19 N C Nm R [] l t=some (l,ts):=by
    unfold F_19;rw[k1];rfl
   rw[eT];simp only[Option.bind_some];have j1:=join_loop (N:=N) (t:=t) Om (ts:=ts) Om ts 0 0 N t.length rfl k2 Om;have j1:iterO N (fun z=>F_64 N t ts z.1 z.2) (0,0)=some (.inl ()):=j1;rw[j1];try simp only
   rw[decide_eq_true Om];rfl
end Go.Proofs.YtnkednnnkifenaaGreatDoor
