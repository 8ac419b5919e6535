import Derived.Test.YtchjfkdljnmmgaaGreatDoorProductAlikeP1
namespace Go.Proofs.YtchjfkdljnmmgaaGreatDoor
open Go Go.Eng
set_option maxRecDepth 100000
theorem upto_succ(n:Nat):upto (n+1)=upto n++ [(n:Int)]:=by simp[upto,List.range_succ]
theorem rg_upto: ∀m:Nat,RG (upto m) m
 |0=> .nil
 |m+1=>by rw[upto_succ];exact(rg_upto m).new
theorem RG.full{P:List Int}{m:Nat}(h:RG P m):m=P.length→P=upto m:=by
 induction h with
 |nil=>intro _;rfl
 | @old P m x h hx ih=>
   intro q;have:=h.le;simp at q;omega
 | @new P m h ih=>
   intro q;rw[upto_succ,ih (by simpa using q)]
theorem pt_upto{n:Nat}{s:Int}(h:0≤s∧s<n):pt (upto n) s=s:=by
 have hl:s.toNat<(upto n).length:=by rw[upto_len];omega
 unfold pt;rw[getD_of (List.getElem?_eq_getElem hl),upto_get];omega
section
variable {N:Nat}{rows:List (List Int)}{rule entry P:List Int}{m:Nat}
theorem mgRows_len:(mgRows P m rows).length=m:=by simp[mgRows]
theorem mgRule_len:(mgRule P m rule).length=m:=by simp[mgRule]
theorem Cls.pos(h:Rt rows rule entry)(hC:Cls rows rule P m):pt P 0=0∧1≤m:=by
 have:=hC.len;have hn:=h.n1;have hf:=hC.rg.first (by omega);exact⟨by unfold pt;exact getD_of hf.1,hf.2⟩
theorem Cls.ex(hC:Cls rows rule P m){v:Int}(hv:0≤v∧v<m): ∃s:Int,(0≤s∧s<(rows.length:Int))∧pt P s=v:=by
 obtain⟨r1,r2⟩:=hC.rep (v:=v.toNat) (by omega);exact⟨_,⟨by omega,r1⟩,by rw[r2];omega⟩
theorem mg_sz(hs:Sz rows rule entry)(h:Rt rows rule entry)(hC:Cls rows rule P m):Sz (mgRows P m rows) (mgRule P m rule) (mgEntry P entry):=by
 have hml:=hC.rg.le;have hl:=hC.len;have hn2:=h.n2;have he:=h.e2;refine⟨fun r hr=>?_,by rw[mgRows_len];omega,by rw[mgRule_len];omega,by simp only[mgEntry,List.length_map];omega⟩;obtain⟨v,hv,rfl⟩:=List.mem_map.1 hr;obtain⟨r1,_⟩:=hC.rep (List.mem_range.1 hv);rw[List.length_map];have:=(row_nxt hs (s:=((P.idxOf (v:Int):Nat):Int)) (by omega)).1;rwa[Int.toNat_natCast]at this
theorem mg_right(hs:Sz rows rule entry)(h:Rt rows rule entry)(hC:Cls rows rule P m):Rt (mgRows P m rows) (mgRule P m rule) (mgEntry P entry):=by
 have hml:=hC.rg.le;have hl:=hC.len;have hn2:=h.n2;obtain⟨h0,h1⟩:=hC.pos h;have hrow0:=mg_row hs h hC (s:=0) (by have:=h.n1;omega);rw[h0]at hrow0;refine⟨by rw[mgRows_len];exact h1,by rw[mgRows_len];omega,by rw[mgRows_len,mgRule_len],by simpa[mgEntry]using h.e1,by simpa[mgEntry]using h.e2,fun r hr x hx=>?_,fun x hx=>?_,fun x hx=>?_,?_,?_⟩
 ·rw[mgRows_len];obtain⟨v,hv,rfl⟩:=List.mem_map.1 hr;obtain⟨r1,_⟩:=hC.rep (List.mem_range.1 hv);obtain⟨y,hy,rfl⟩:=List.mem_map.1 hx;obtain⟨row,q1,q2,q3,q4⟩:=row_nat h (i:=P.idxOf (v:Int)) (by omega);rw[q2]at hy;exact hC.pt_rng (q4 y hy)
 ·obtain⟨v,hv,rfl⟩:=List.mem_map.1 hx;obtain⟨r1,_⟩:=hC.rep (List.mem_range.1 hv);have hru:=h.ru;have hrl:P.idxOf (v:Int)<rule.length:=by omega
  rw[getD_of (List.getElem?_eq_getElem hrl)];exact h.rul _ (List.getElem_mem hrl)
 ·rw[mgRows_len];obtain⟨y,hy,rfl⟩:=List.mem_map.1 hx;exact hC.pt_rng (h.ent y hy)
 ·have:=hrow0.1;rw[show((0:Int)).toNat=0 by rfl]at this;rw[this,getD_of h.r0,List.map_replicate,h0]
 have:=hrow0.2;rw[show((0:Int)).toNat=0 by rfl]at this;rw[this,getD_of h.u0]
theorem mg_nxt(hs:Sz rows rule entry)(h:Rt rows rule entry)(hC:Cls rows rule P m){s c:Int}(hr:0≤s∧s<(rows.length:Int))(hc:0≤c∧c<256):nxt (mgRows P m rows) (pt P s) c=pt P (nxt rows s c):=by
 have h1:=(mg_row hs h hC hr).1;have h2:=(row_nxt hs hr).2 c.toNat (by omega);rw[show((c.toNat:Nat):Int)=c by omega]at h2;show((mgRows P m rows).getD (pt P s).toNat []).getD c.toNat 0=_;rw[getD_of h1];refine getD_of ?_;rw[List.getElem?_map,h2];rfl
theorem mg_rul(hs:Sz rows rule entry)(h:Rt rows rule entry)(hC:Cls rows rule P m){s:Int}(hr:0≤s∧s<(rows.length:Int)):(mgRule P m rule).getD (pt P s).toNat 0=rule.getD s.toNat 0:=getD_of (mg_row hs h hC hr).2
theorem foldl_rng(hs:Sz rows rule entry)(h:Rt rows rule entry): ∀{t:List Int} {s:Int},Byt t→0≤s∧s<(rows.length:Int)→0≤t.foldl (nxt rows) s∧t.foldl (nxt rows) s<(rows.length:Int)
 | [],_,_,hr=>hr
 |c::t,s,hb,hr=>foldl_rng hs h (t:=t) (fun x hx=>hb x (by simp[hx])) (nxt_rng hs h hr (hb c (by simp)))
theorem mg_foldl(hs:Sz rows rule entry)(h:Rt rows rule entry)(hC:Cls rows rule P m): ∀{t:List Int} {s:Int},Byt t→0≤s∧s<(rows.length:Int)→t.foldl (nxt (mgRows P m rows)) (pt P s)=pt P (t.foldl (nxt rows) s)
 | [],_,_,_=>rfl
 |c::t,s,hb,hr=>by
   have hc:=hb c (by simp);rw[List.foldl_cons,List.foldl_cons,mg_nxt hs h hC hr hc];exact mg_foldl hs h hC (fun x hx=>hb x (by simp[hx])) (nxt_rng hs h hr hc)
theorem mg_alk(hs:Sz rows rule entry)(h:Rt rows rule entry)(hC:Cls rows rule P m){a b:Int}(ha:0≤a∧a<(rows.length:Int))(hb:0≤b∧b<(rows.length:Int)):Alk (mgRows P m rows) (mgRule P m rule) (pt P a) (pt P b)↔Alk rows rule a b:=by
 unfold Alk;constructor
 ·intro q t ht;have:=q t ht;rwa[mg_foldl hs h hC ht ha,mg_foldl hs h hC ht hb,mg_rul hs h hC (foldl_rng hs h ht ha),mg_rul hs h hC (foldl_rng hs h ht hb)]at this
 intro q t ht;rw[mg_foldl hs h hC ht ha,mg_foldl hs h hC ht hb,mg_rul hs h hC (foldl_rng hs h ht ha),mg_rul hs h hC (foldl_rng hs h ht hb)];exact q t ht
theorem cls_upto{n:Nat}(hn:rows.length=n)(hd: ∀a b:Int,0≤a∧a<(n:Int)→0≤b∧b<(n:Int)→Alk rows rule a b→a=b):Cls rows rule (upto n) n:=by
 refine⟨rg_upto n,by rw[upto_len,hn],fun i k hi hk=>?_⟩;have h1:(upto n)[i]? =some (i:Int):=by rw[List.getElem?_eq_getElem (by rw[upto_len];omega),upto_get]
 have h2:(upto n)[k]? =some (k:Int):=by rw[List.getElem?_eq_getElem (by rw[upto_len];omega),upto_get]
 rw[h1,h2,Option.some.injEq];constructor
 ·intro q;rw[q];exact .refl _
 intro q;exact hd _ _ (by omega) (by omega) q
theorem mg_cls(hs:Sz rows rule entry)(h:Rt rows rule entry)(hC:Cls rows rule P m):Cls (mgRows P m rows) (mgRule P m rule) (upto m) m:=by
 refine cls_upto mgRows_len fun a b ha hb hk=>?_;obtain⟨x,hx,rfl⟩:=hC.ex ha;obtain⟨y,hy,rfl⟩:=hC.ex hb;exact(hC.pt_iff hx hy).2 ((mg_alk hs h hC hx hy).1 hk)
theorem mg_rch(hs:Sz rows rule entry)(h:Rt rows rule entry)(hC:Cls rows rule P m){s:Int}(hr:Rch rows entry s):Rch (mgRows P m rows) (mgEntry P entry) (pt P s):=by
 induction hr with
 |zero=>rw[(hC.pos h).1];exact .zero
 |ent hx=>exact .ent (List.mem_map_of_mem hx)
 | @step s y hr hy ih=>
   refine ih.step ?_;rw[getD_of (mg_row hs h hC (hr.rng h)).1];exact List.mem_map_of_mem hy
theorem mg_lv(hs:Sz rows rule entry)(h:Rt rows rule entry)(hC:Cls rows rule P m){s:Int}(hl:Lv rows rule s):Lv (mgRows P m rows) (mgRule P m rule) (pt P s):=by
 induction hl with
 |here a b hr=>
   have hp:=hC.pt_rng ⟨a,b⟩;exact .here hp.1 (by rw[mgRows_len];exact hp.2) (by rw[mg_rul hs h hC ⟨a,b⟩];exact hr)
 |step a b hy _ ih=>
   have hp:=hC.pt_rng ⟨a,b⟩;refine .step hp.1 (by rw[mgRows_len];exact hp.2) ?_ ih;rw[getD_of (mg_row hs h hC ⟨a,b⟩).1];exact List.mem_map_of_mem hy
theorem kp_full(hl:(kp rows rule entry).length=rows.length):kp rows rule entry=upto rows.length:=by
 unfold kp at hl ⊢;refine lst_all fun j hj=>?_;unfold lst at hl;rw[List.length_map]at hl;have:=List.length_filter_eq_length_iff.1 (hl.trans List.length_range.symm);exact this j (List.mem_range.2 hj)
theorem kp_all(h:Rt rows rule entry)(hk: ∀x:Int,0<x→x<(rows.length:Int)→Rch rows entry x∧Lv rows rule x):(kp rows rule entry).length=rows.length:=by
 have: ∀x∈upto rows.length,x∈kp rows rule entry:=fun x hx=>by
  have hr:=(rg_upto rows.length).mem.1 hx;rw[mem_kp h];by_cases h0:x=0
  ·exact .inl h0
  exact .inr (hk x (by omega) hr.2)
 have hnd:(upto rows.length).Nodup:=by
  unfold upto List.Nodup;rw[List.pairwise_map];exact(List.nodup_range (n:=rows.length)).imp fun hne q=>hne (by omega)
 have h1:=nodup_len hnd this;rw[upto_len]at h1;have h2:=(kp_acc (rows:=rows) (rule:=rule) (entry:=entry)).len;omega
theorem mg_kp(hs:Sz rows rule entry)(h:Rt rows rule entry)(hC:Cls rows rule P m)(hk:(kp rows rule entry).length=rows.length):(kp (mgRows P m rows) (mgRule P m rule) (mgEntry P entry)).length=(mgRows P m rows).length:=by
 refine kp_all (mg_right hs h hC) fun v hv0 hv1=>?_;rw[mgRows_len]at hv1;obtain⟨s,hs',rfl⟩:=hC.ex (v:=v) ⟨by omega,hv1⟩;have hm:s∈kp rows rule entry:=by rw[kp_full hk];exact(rg_upto _).mem.2 hs'
 rcases(mem_kp h).1 hm with rfl|⟨q1,q2⟩
 ·rw[(hC.pos h).1]at hv0;omega
 exact⟨mg_rch hs h hC q1,mg_lv hs h hC q2⟩
def Lst(rows:List (List Int))(rule entry:List Int):Prop:=Rt rows rule entry∧(kp rows rule entry).length=rows.length∧Cls rows rule (upto rows.length) rows.length
noncomputable abbrev tRows(rows:List (List Int))(rule entry:List Int):=reRows (kp rows rule entry) rows
noncomputable abbrev tRule(rows:List (List Int))(rule entry:List Int):=reRule (kp rows rule entry) rule
noncomputable abbrev tEntry(rows:List (List Int))(rule entry:List Int):=reEntry (kp rows rule entry) entry
theorem t_right(h:Rt rows rule entry):Rt (tRows rows rule entry) (tRule rows rule entry) (tEntry rows rule entry):=reO_right h kp_acc (kp_zero h)
theorem t_sz(hs:Sz rows rule entry)(h:Rt rows rule entry):Sz (tRows rows rule entry) (tRule rows rule entry) (tEntry rows rule entry):=reO_sz hs h kp_acc
theorem t_kp(h:Rt rows rule entry):(kp (tRows rows rule entry) (tRule rows rule entry) (tEntry rows rule entry)).length=(tRows rows rule entry).length:=by rw[kp_re h,upto_len]
theorem least_spec(hN:4294967296≤N)(hs:Sz rows rule entry)(h:Rt rows rule entry)(hC:Cls (tRows rows rule entry) (tRule rows rule entry) P m):
 F_73 N rows rule entry=some (mgRows P m (tRows rows rule entry),mgRule P m (tRule rows rule entry),mgEntry P (tEntry rows rule entry)):=by
 unfold F_73;simp only[trim_spec hN hs h,merge_spec hN (t_sz hs h) (t_right h) hC,bind,Option.bind_some]
theorem least_lst(hs:Sz rows rule entry)(h:Rt rows rule entry)(hC:Cls (tRows rows rule entry) (tRule rows rule entry) P m):
 Lst (mgRows P m (tRows rows rule entry)) (mgRule P m (tRule rows rule entry)) (mgEntry P (tEntry rows rule entry)):=by
 refine⟨mg_right (t_sz hs h) (t_right h) hC,mg_kp (t_sz hs h) (t_right h) hC (t_kp h),?_⟩;have:=mg_cls (t_sz hs h) (t_right h) hC;rwa[mgRows_len]
end
open Go Go.Eng
set_option maxRecDepth 100000
section
variable {N:Nat}{rows:List (List Int)}{rule entry:List Int}
def SeenM(S:List (Int×Int))(M:List (List Int×Bool)):Prop:=M.length=S.length∧ ∀x y:Int,mget M [x,y]=if(x,y)∈S then some true else none
theorem SeenM.get{S:List (Int×Int)}{M:List (List Int×Bool)}(h:SeenM S M)(x y:Int):(mget M [x,y]).getD false=decide ((x,y)∈S):=by
 rw[h.2 x y];by_cases q:(x,y)∈S<;>simp[q]
theorem SeenM.add{S:List (Int×Int)}{M:List (List Int×Bool)}{x y:Int}(h:SeenM S M)(hn:(x,y)∉S):SeenM (S++ [(x,y)]) (mset M [x,y] true):=by
 refine⟨?_,fun a b=>?_⟩
 ·rw[mset_len (by rw[h.2 x y,if_neg hn]),h.1];simp
 rw[mget_mset_g];by_cases he:x=a∧y=b
 ·obtain⟨rfl,rfl⟩:=he;simp
 have:(([x,y]:List Int)== [a,b])=false:=by
  rw[beq_eq_false_iff_ne];intro q;injection q with q1 q2;injection q2 with q2 _;exact he ⟨q1,q2⟩
 rw[this];simp only[Bool.false_eq_true,if_false];rw[h.2 a b]
 have e:(a,b)∈S++ [(x,y)]↔(a,b)∈S:=by
  rw[List.mem_append];constructor
  ·rintro(q|q)
   ·exact q
   simp at q;exact absurd ⟨q.1.symm,q.2.symm⟩ he
  exact .inl
 simp only[e]
def flat(Q:List ((Int×Int)×List Int)):List (Int×Int×List Int):=Q.map fun p=>(p.1.1,p.1.2,p.2)
theorem least_lang{P:List Int}{m:Nat}(hs:Sz rows rule entry)(h:Rt rows rule entry)(hC:Cls (tRows rows rule entry) (tRule rows rule entry) P m)(cond:Int){text:List Int}(ht:Byt text):
 (mgRule P m (tRule rows rule entry)).getD (stt (mgRows P m (tRows rows rule entry)) (mgEntry P (tEntry rows rule entry)) cond text).toNat 0=rule.getD (stt rows entry cond text).toNat 0:=by
 have hb:beg (mgEntry P (tEntry rows rule entry)) cond=pt P (beg (tEntry rows rule entry) cond):=by
  unfold beg;have hl:(mgEntry P (tEntry rows rule entry)).length=(tEntry rows rule entry).length:=by simp[mgEntry]
  rw[hl];split
  ·rename_i hc;have hcl:cond.toNat<(tEntry rows rule entry).length:=by omega
   rw[getD_of (List.getElem?_eq_getElem hcl)];refine getD_of ?_;rw[mgEntry,List.getElem?_map,List.getElem?_eq_getElem hcl];rfl
  exact(hC.pos (t_right h)).1.symm
 have e1:stt (mgRows P m (tRows rows rule entry)) (mgEntry P (tEntry rows rule entry)) cond text=pt P (stt (tRows rows rule entry) (tEntry rows rule entry) cond text):=by
  unfold stt;rw[hb];exact mg_foldl (t_sz hs h) (t_right h) hC ht (beg_rng (t_right h) cond)
 rw[e1,mg_rul (t_sz hs h) (t_right h) hC (stt_rng (t_sz hs h) (t_right h) cond ht)];obtain⟨e2,e3⟩:=sttT hs h cond ht;rw[show stt (tRows rows rule entry) (tEntry rows rule entry) cond text=_ from e2];exact ruleT h e3
theorem lst_rch(h:Lst rows rule entry){s:Int}(hr:0≤s∧s<(rows.length:Int)):Rch rows entry s:=by
 have hm:s∈kp rows rule entry:=by rw[kp_full h.2.1];exact(rg_upto _).mem.2 hr
 rcases(mem_kp h.1).1 hm with rfl|⟨q,_⟩
 ·exact .zero
 exact q
end
open Go Go.Eng
set_option maxRecDepth 100000
structure Iso(f:Int→Int)(rows:List (List Int))(rule entry:List Int)(rows':List (List Int))(rule' entry':List Int):Prop where
 n:rows'.length=rows.length
 rng: ∀s:Int,0≤s∧s<(rows.length:Int)→0≤f s∧f s<(rows.length:Int)
 inj: ∀a b:Int,0≤a∧a<(rows.length:Int)→0≤b∧b<(rows.length:Int)→f a=f b→a=b
 z:f 0=0
 row: ∀s:Int,0≤s∧s<(rows.length:Int)→rows'.getD (f s).toNat []=(rows.getD s.toNat []).map f
 rul: ∀s:Int,0≤s∧s<(rows.length:Int)→rule'.getD (f s).toNat 0=rule.getD s.toNat 0
 ent:entry'=entry.map f
section
variable {N:Nat}{rows rows':List (List Int)}{rule entry rule' entry':List Int}{f:Int→Int}
theorem Iso.insAll(hI:Iso f rows rule entry rows' rule' entry'): ∀{xs acc:List Int},(∀x∈acc,0≤x∧x<(rows.length:Int))→(∀x∈xs,0≤x∧x<(rows.length:Int))→insAll (acc.map f) (xs.map f)=(insAll acc xs).map f
 | [],_,_,_=>rfl
 |x::xs,acc,h1,h2=>by
   have hx:=h2 x (by simp)
   have e:ins (acc.map f) (f x)=(ins acc x).map f:=by
    unfold ins;by_cases hm:x∈acc
    ·rw[if_pos hm,if_pos (List.mem_map_of_mem hm)]
    rw[if_neg hm,if_neg]
    ·simp
    intro hc;obtain⟨y,hy,he⟩:=List.mem_map.1 hc;exact hm (hI.inj y x (h1 y hy) hx he▸hy)
   show Go.Proofs.YtchjfkdljnmmgaaGreatDoor.insAll (ins (acc.map f) (f x)) (xs.map f)=(Go.Proofs.YtchjfkdljnmmgaaGreatDoor.insAll (ins acc x) xs).map f;rw[e];refine hI.insAll (fun y hy=>?_) (fun y hy=>h2 y (by simp[hy]));rcases mem_ins.1 hy with hy|rfl
   ·exact h1 y hy
   exact hx
theorem Iso.bfs(hI:Iso f rows rule entry rows' rule' entry')(h:Rt rows rule entry): ∀(k i:Nat) (acc:List Int),(∀x∈acc,0≤x∧x<(rows.length:Int))→bfs rows' k i (acc.map f)=(bfs rows k i acc).map f
 |0,_,_,_=>rfl
 |k+1,i,acc,ha=>by
   by_cases hlt:i<acc.length
   ·have hlt':i<(acc.map f).length:=by simpa using hlt
    have hs:=ha _ (List.getElem_mem hlt);obtain⟨r,_,r2,r3,r4⟩:=row_of h hs;simp only[Go.Proofs.YtchjfkdljnmmgaaGreatDoor.bfs,dif_pos hlt,dif_pos hlt',List.getElem_map];rw[hI.row _ hs,hI.insAll ha (by rw[r2];exact r4)];refine hI.bfs h k (i+1) _ fun y hy=>?_;rcases mem_insAll.1 hy with hy|hy
    ·exact ha y hy
    rw[r2]at hy;exact r4 y hy
   rw[bfs_done hlt,bfs_done (by simpa using hlt)]
theorem Iso.ord(hI:Iso f rows rule entry rows' rule' entry')(h:Rt rows rule entry):ord rows' entry'=(ord rows entry).map f:=by
 unfold Go.Proofs.YtchjfkdljnmmgaaGreatDoor.ord;have e:=hI.insAll (xs:=entry) (acc:=[0]) (fun x hx=>by simp at hx;subst hx;have:=h.n1;omega) h.ent;rw[List.map_cons,List.map_nil,hI.z]at e;rw[hI.n,hI.ent,e];exact hI.bfs h _ _ _ (acc0 h).rng
theorem Iso.pl(hI:Iso f rows rule entry rows' rule' entry'){o:List Int}(ho: ∀x∈o,0≤x∧x<(rows.length:Int)){x:Int}(hx:0≤x∧x<(rows.length:Int)):pl (o.map f) (f x)=pl o x:=by
 unfold Go.Proofs.YtchjfkdljnmmgaaGreatDoor.pl
 have hm:f x∈o.map f↔x∈o:=by
  constructor
  ·intro q;obtain⟨y,hy,he⟩:=List.mem_map.1 q;exact hI.inj y x (ho y hy) hx he▸hy
  exact fun q=>List.mem_map_of_mem q
 have hi: ∀l:List Int,(∀y∈l,0≤y∧y<(rows.length:Int))→(l.map f).idxOf (f x)=l.idxOf x:=by
  intro l
  induction l with
  |nil=>intro _;rfl
  |cons y l ih=>
    intro hl;rw[List.map_cons,List.idxOf_cons,List.idxOf_cons,ih fun z hz=>hl z (by simp[hz])]
    have:(f y==f x)=(y==x):=by
     rw[Bool.eq_iff_iff,beq_iff_eq,beq_iff_eq];exact⟨fun q=>hI.inj y x (hl y (by simp)) hx q,fun q=>by rw[q]⟩
    rw[this]
 by_cases q:x∈o
 ·rw[if_pos (hm.2 q),if_pos q,hi o ho]
 rw[if_neg (fun r=>q (hm.1 r)),if_neg q]
theorem Iso.canon(hI:Iso f rows rule entry rows' rule' entry')(h:Rt rows rule entry):
 reRows (Go.Proofs.YtchjfkdljnmmgaaGreatDoor.ord rows' entry') rows'=reRows (Go.Proofs.YtchjfkdljnmmgaaGreatDoor.ord rows entry) rows∧reRule (Go.Proofs.YtchjfkdljnmmgaaGreatDoor.ord rows' entry') rule'=reRule (Go.Proofs.YtchjfkdljnmmgaaGreatDoor.ord rows entry) rule∧reEntry (Go.Proofs.YtchjfkdljnmmgaaGreatDoor.ord rows' entry') entry'=reEntry (Go.Proofs.YtchjfkdljnmmgaaGreatDoor.ord rows entry) entry:=by
 have ho:=(ord_props h).1.rng;rw[hI.ord h];generalize Go.Proofs.YtchjfkdljnmmgaaGreatDoor.ord rows entry=o at ho;refine⟨?_,?_,?_⟩
 ·unfold reRows;rw[List.map_map];refine List.map_congr_left fun s hs=>?_;obtain⟨r,_,r2,r3,r4⟩:=row_of h (ho s hs);show List.map (Go.Proofs.YtchjfkdljnmmgaaGreatDoor.pl (o.map f)) (rows'.getD (f s).toNat [])=_;rw[hI.row s (ho s hs),List.map_map,r2];exact List.map_congr_left fun y hy=>hI.pl ho (r4 y hy)
 ·unfold reRule;rw[List.map_map];exact List.map_congr_left fun s hs=>hI.rul s (ho s hs)
 unfold reEntry;rw[hI.ent,List.map_map];exact List.map_congr_left fun y hy=>hI.pl ho (h.ent y hy)
theorem Iso.nxt(hI:Iso f rows rule entry rows' rule' entry')(hs:Sz rows rule entry){s c:Int}(hr:0≤s∧s<(rows.length:Int))(hc:0≤c∧c<256):nxt rows' (f s) c=f (nxt rows s c):=by
 have h2:=(row_nxt hs hr).2 c.toNat (by omega);rw[show((c.toNat:Nat):Int)=c by omega]at h2;show(rows'.getD (f s).toNat []).getD c.toNat 0=_;rw[hI.row s hr];refine getD_of ?_;rw[List.getElem?_map,h2];rfl
theorem Iso.foldl(hI:Iso f rows rule entry rows' rule' entry')(hs:Sz rows rule entry)(h:Rt rows rule entry): ∀{t:List Int} {s:Int},Byt t→0≤s∧s<(rows.length:Int)→t.foldl (Go.Proofs.YtchjfkdljnmmgaaGreatDoor.nxt rows') (f s)=f (t.foldl (Go.Proofs.YtchjfkdljnmmgaaGreatDoor.nxt rows) s)
 | [],_,_,_=>rfl
 |c::t,s,hb,hr=>by
   have hc:=hb c (by simp);rw[List.foldl_cons,List.foldl_cons,hI.nxt hs hr hc];exact hI.foldl hs h (fun x hx=>hb x (by simp[hx])) (nxt_rng hs h hr hc)
def Lang(rows:List (List Int))(rule entry:List Int)(rows':List (List Int))(rule' entry':List Int):Prop:=
 entry'.length=entry.length∧ ∀cond t,Byt t→rule'.getD (stt rows' entry' cond t).toNat 0=rule.getD (stt rows entry cond t).toNat 0
theorem Lang.symm(h:Lang rows rule entry rows' rule' entry'):Lang rows' rule' entry' rows rule entry:=⟨h.1.symm,fun c t ht=>(h.2 c t ht).symm⟩
theorem Lang.trans{rows'':List (List Int)}{rule'' entry'':List Int}(h:Lang rows rule entry rows' rule' entry')(h':Lang rows' rule' entry' rows'' rule'' entry''):Lang rows rule entry rows'' rule'' entry'':=
 ⟨h'.1.trans h.1,fun c t ht=>(h'.2 c t ht).trans (h.2 c t ht)⟩
def Rel2(rows:List (List Int))(rule:List Int)(rows':List (List Int))(rule':List Int)(i j:Int):Prop:= ∀t,Byt t→rule.getD (t.foldl (nxt rows) i).toNat 0=rule'.getD (t.foldl (nxt rows') j).toNat 0
theorem Rel2.step{i j c:Int}(h:Rel2 rows rule rows' rule' i j)(hc:0≤c∧c<256):Rel2 rows rule rows' rule' (nxt rows i c) (nxt rows' j c):=fun t ht=>h (c::t) fun x hx=>by
 rcases List.mem_cons.1 hx with rfl|hx
 ·exact hc
 exact ht x hx
theorem zero_fold(hs:Sz rows rule entry)(h:Rt rows rule entry): ∀{t:List Int},Byt t→t.foldl (nxt rows) 0=0
 | [],_=>rfl
 |c::t,hb=>by
   have hc:=hb c (by simp);have h0:0≤(0:Int)∧(0:Int)<(rows.length:Int):=by have:=h.n1;omega
   rw[List.foldl_cons,row0 h (nxt_mem hs h0 hc)];exact zero_fold hs h fun x hx=>hb x (by simp[hx])
theorem rel_zero(hs:Sz rows rule entry)(h:Rt rows rule entry)(hs':Sz rows' rule' entry')(h':Rt rows' rule' entry'):Rel2 rows rule rows' rule' 0 0:=fun t ht=>by
 rw[zero_fold hs h ht,zero_fold hs' h' ht];show rule.getD 0 0=rule'.getD 0 0;rw[getD_of h.u0,getD_of h'.u0]
theorem beg_get{c:Nat}(hc:c<entry.length):beg entry (c:Int)=entry[c]:=by
 unfold beg;rw[if_pos (by omega),Int.toNat_natCast];exact getD_of (List.getElem?_eq_getElem hc)
theorem rel_ex(hs:Sz rows rule entry)(h:Rt rows rule entry)(hs':Sz rows' rule' entry')(h':Rt rows' rule' entry')(hL:Lang rows rule entry rows' rule' entry'){s:Int}(hr:Rch rows entry s):
 ∃j:Int,(0≤j∧j<(rows'.length:Int))∧Rel2 rows rule rows' rule' s j:=by
 induction hr with
 |zero=>exact⟨0,by have:=h'.n1;omega,rel_zero hs h hs' h'⟩
 |ent hx=>
   obtain⟨c,hc,rfl⟩:=List.getElem_of_mem hx;have hc':c<entry'.length:=by rw[hL.1];exact hc
   refine⟨entry'[c],h'.ent _ (List.getElem_mem hc'),fun t ht=>?_⟩;have:=hL.2 (c:Int) t ht;unfold stt at this;rw[beg_get hc,beg_get hc']at this;exact this.symm
 | @step s y hr hy ih=>
   obtain⟨j,hj,hR⟩:=ih;have hsr:=hr.rng h;obtain⟨hl,hn⟩:=row_nxt hs hsr;obtain⟨c,hc,rfl⟩:=List.getElem_of_mem hy;have e:=hn c (by omega);rw[List.getElem?_eq_getElem hc]at e;rw[Option.some.inj e];exact⟨_,nxt_rng hs' h' hj (c:=(c:Int)) (by omega),hR.step (by omega)⟩
theorem lst_alk(h:Lst rows rule entry){a b:Int}(ha:0≤a∧a<(rows.length:Int))(hb:0≤b∧b<(rows.length:Int))(hk:Alk rows rule a b):a=b:=by
 have:=(h.2.2.pt_iff ha hb).2 hk;rwa[pt_upto ha,pt_upto hb]at this
theorem lang_len(hs:Sz rows rule entry)(h:Lst rows rule entry)(hs':Sz rows' rule' entry')(h':Lst rows' rule' entry')(hL:Lang rows rule entry rows' rule' entry'):rows.length≤rows'.length:=by
 have ex:=fun(s:Int) (hr:0≤s∧s<(rows.length:Int))=>rel_ex hs h.1 hs' h'.1 hL (lst_rch h hr);let f:Int→Int:=fun s=>if hr:0≤s∧s<(rows.length:Int)then Classical.choose (ex s hr)else 0
 have hf: ∀s,(hr:0≤s∧s<(rows.length:Int))→(0≤f s∧f s<(rows'.length:Int))∧Rel2 rows rule rows' rule' s (f s):=fun s hr=>by
  have:f s=Classical.choose (ex s hr):=by simp only[f,hr,and_self,dif_pos]
  rw[this];exact Classical.choose_spec (ex s hr)
 have hm:=fun x=>(rg_upto rows.length).mem (x:=x)
 have hnd:((upto rows.length).map f).Nodup:=by
  unfold List.Nodup;rw[List.pairwise_map];refine List.Pairwise.imp_of_mem (fun{a b} ha hb hne he=>hne ?_) ((List.pairwise_map.2 ((List.nodup_range (n:=rows.length)).imp fun hne q=>hne (by omega)):(upto rows.length).Pairwise (· ≠ ·)));have ha':=(hm a).1 ha;have hb':=(hm b).1 hb;refine lst_alk h ha' hb' fun t ht=>?_;rw[(hf a ha').2 t ht,(hf b hb').2 t ht,he]
 have:=nodup_len (m:=upto rows'.length) hnd fun x hx=>by
  obtain⟨s,hs,rfl⟩:=List.mem_map.1 hx;exact(rg_upto _).mem.2 (hf s ((hm s).1 hs)).1
 rwa[List.length_map,upto_len,upto_len]at this
theorem lang_iso(hs:Sz rows rule entry)(h:Lst rows rule entry)(hs':Sz rows' rule' entry')(h':Lst rows' rule' entry')(hL:Lang rows rule entry rows' rule' entry'): ∃f,Iso f rows rule entry rows' rule' entry':=by
 have hn:rows'.length=rows.length:=Nat.le_antisymm (lang_len hs' h' hs h hL.symm) (lang_len hs h hs' h' hL);have ex:=fun(s:Int) (hr:0≤s∧s<(rows.length:Int))=>rel_ex hs h.1 hs' h'.1 hL (lst_rch h hr);let f:Int→Int:=fun s=>if hr:0≤s∧s<(rows.length:Int)then Classical.choose (ex s hr)else 0
 have hf: ∀s,(hr:0≤s∧s<(rows.length:Int))→(0≤f s∧f s<(rows'.length:Int))∧Rel2 rows rule rows' rule' s (f s):=fun s hr=>by
  have:f s=Classical.choose (ex s hr):=by simp only[f,hr,and_self,dif_pos]
  rw[this];exact Classical.choose_spec (ex s hr)
 have uniq: ∀s j,(0≤s∧s<(rows.length:Int))→(0≤j∧j<(rows'.length:Int))→Rel2 rows rule rows' rule' s j→f s=j:=fun s j hr hj hR=>
  lst_alk h' (hf s hr).1 hj fun t ht=>by rw[←(hf s hr).2 t ht,hR t ht]
 have h0:0≤(0:Int)∧(0:Int)<(rows.length:Int):=by have:=h.1.n1;omega
 refine⟨f,hn,fun s hr=>by rw[←hn];exact(hf s hr).1,fun a b ha hb he=>lst_alk h ha hb fun t ht=>by rw[(hf a ha).2 t ht,(hf b hb).2 t ht,he],uniq 0 0 h0 (by omega) (rel_zero hs h.1 hs' h'.1),fun s hr=>?_,fun s hr=>?_,?_⟩
 ·obtain⟨a1,a2⟩:=row_nxt hs hr;obtain⟨b1,b2⟩:=row_nxt hs' (hf s hr).1;refine List.ext_getElem? fun c=>?_;by_cases hc:c<256
  ·rw[b2 c hc,List.getElem?_map,a2 c hc];have hx:=nxt_rng hs h.1 hr (c:=(c:Int)) (by omega);have hy:=nxt_rng hs' h'.1 (hf s hr).1 (c:=(c:Int)) (by omega);rw[Option.map_some,uniq _ _ hx hy ((hf s hr).2.step (by omega))]
  rw[List.getElem?_eq_none (by omega),List.getElem?_eq_none (by rw[List.length_map];omega)]
 ·have:=(hf s hr).2 [] fun x hx=>by simp at hx
  exact this.symm
 refine List.ext_getElem? fun c=>?_;by_cases hc:c<entry.length
 ·have hc':c<entry'.length:=by rw[hL.1];exact hc
  rw[List.getElem?_eq_getElem hc',List.getElem?_map,List.getElem?_eq_getElem hc,Option.map_some];refine congrArg some (uniq _ _ (h.1.ent _ (List.getElem_mem hc)) (h'.1.ent _ (List.getElem_mem hc')) fun t ht=>?_).symm;have:=hL.2 (c:Int) t ht;unfold stt at this;rw[beg_get hc,beg_get hc']at this;exact this.symm
 rw[List.getElem?_eq_none (by have:=hL.1;omega),List.getElem?_eq_none (by rw[List.length_map];omega)]
theorem lang_canon(hs:Sz rows rule entry)(h:Lst rows rule entry)(hs':Sz rows' rule' entry')(h':Lst rows' rule' entry')(hL:Lang rows rule entry rows' rule' entry'):
 reRows (ord rows' entry') rows'=reRows (ord rows entry) rows∧reRule (ord rows' entry') rule'=reRule (ord rows entry) rule∧reEntry (ord rows' entry') entry'=reEntry (ord rows entry) entry:=by
 obtain⟨f,hI⟩:=lang_iso hs h hs' h' hL;exact hI.canon h.1
end
open Go Go.Eng
set_option maxRecDepth 100000
open Go Go.Eng
set_option maxRecDepth 100000
section
variable {σ:Type}{nx:σ→Int→σ}{G Dm:σ→Prop}
def InG(nx:σ→Int→σ)(G:σ→Prop)(k:Nat)(s:σ):Prop:= ∃t,LG nx G s t∧t.length=k
def DistG(nx:σ→Int→σ)(G:σ→Prop)(s:σ)(k:Nat):Prop:=InG nx G k s∧ ∀j,j<k→ ¬InG nx G j s
theorem inG_zero{s:σ}:InG nx G 0 s↔G s:=by
 constructor
 ·rintro⟨t,h,hl⟩;obtain rfl:=List.length_eq_zero_iff.1 hl;exact h.2
 exact fun h=>⟨[],⟨fun y hy=>by simp at hy,h⟩,rfl⟩
theorem inG_succ{s:σ}{k:Nat}:InG nx G (k+1) s↔ ∃c:Int,(0≤c∧c<256)∧InG nx G k (nx s c):=by
 constructor
 ·rintro⟨t,h,hl⟩
  cases t with
  |nil=>simp at hl
  |cons c t=>
    obtain⟨h1,h2⟩:=lg_cons.1 h;exact⟨c,h1,t,h2,by simpa using hl⟩
 rintro⟨c,hc,t,h,hl⟩;exact⟨c::t,lg_cons.2 ⟨hc,h⟩,by simp[hl]⟩
theorem DistG.uniq{s:σ}{a b:Nat}(h:DistG nx G s a)(h':DistG nx G s b):a=b:=by
 rcases Nat.lt_trichotomy a b with hl|he|hl
 ·exact absurd h.1 (h'.2 a hl)
 ·exact he
 exact absurd h'.1 (h.2 b hl)
theorem distG_step{s:σ}{d:Nat}(h:DistG nx G s (d+1)): ∃c:Int,(0≤c∧c<256)∧DistG nx G (nx s c) d:=by
 obtain⟨c,hc,hl⟩:=inG_succ.1 h.1;exact⟨c,hc,hl,fun j hj hlj=>h.2 (j+1) (by omega) (inG_succ.2 ⟨c,hc,hlj⟩)⟩
theorem distG_chain(hD: ∀s c,Dm s→0≤c∧c<256→Dm (nx s c)): ∀{d:Nat} {s:σ},Dm s→DistG nx G s d→ ∃l:List σ,l.length=d+1∧l.Nodup∧ ∀y∈l,Dm y∧ ∃j,j≤d∧DistG nx G y j
 |0,s,hr,hd=>⟨[s],rfl,by simp,fun y hy=>by simp at hy;subst hy;exact⟨hr,0,Nat.le_refl _,hd⟩⟩
 |d+1,s,hr,hd=>by
   obtain⟨c,hc,hd'⟩:=distG_step hd;obtain⟨l,l1,l2,l3⟩:=distG_chain hD (hD s c hr hc) hd';refine⟨s::l,by simp[l1],List.nodup_cons.2 ⟨fun hm=>?_,l2⟩,fun y hy=>?_⟩
   ·obtain⟨_,j,hj,hdj⟩:=l3 s hm;have:=hd.uniq hdj;omega
   rcases List.mem_cons.1 hy with rfl|hy
   ·exact⟨hr,d+1,Nat.le_refl _,hd⟩
   obtain⟨a,j,hj,hdj⟩:=l3 y hy;exact⟨a,j,by omega,hdj⟩
structure DescG(nx:σ→Int→σ)(G:σ→Prop)(s0:σ)(D:Nat)(s:σ)(o:List Int):Prop where
 b:Byt o
 f:o.foldl nx s0=s
 l:o.length≤D
 d:DistG nx G s (D-o.length)
 k: ∀u,LG nx G s0 u→u.length=D→key o≤key (u.take o.length)
theorem DescG.start{s0:σ}{D:Nat}(h:DistG nx G s0 D):DescG nx G s0 D s0 []:=⟨fun z hz=>by simp at hz,rfl,by simp,by simpa using h,fun u _ _=>by simp⟩
theorem DescG.done{s0 s:σ}{D:Nat}{o:List Int}(h0:DistG nx G s0 D)(h:DescG nx G s0 D s o)(hl:o.length=D):BestG nx G s0 o∧G s:=by
 obtain⟨i1,i2,i3,i5,i6⟩:=h;rw[hl,Nat.sub_self]at i5;have hg:G s:=inG_zero.1 i5.1;refine⟨⟨⟨i1,i2▸hg⟩,fun u hu=>?_⟩,hg⟩;have hlu:D≤u.length:=Nat.le_of_not_lt fun hlt=>h0.2 _ hlt ⟨u,hu,rfl⟩;by_cases he:u.length=D
 ·have:=i6 u hu he;rw[hl,←he,List.take_length]at this;exact this
 have b1:=(key_bound i1).1;have b2:=(key_bound hu.1).2 (by omega);have b3:(257:Nat)^o.length≤257^(u.length-1):=Nat.pow_le_pow_right (by omega) (by omega);omega
theorem BestG.dist{s:σ}{g:List Int}(h:BestG nx G s g):DistG nx G s g.length:=by
 refine⟨⟨g,h.1,rfl⟩,fun j hj ⟨t,ht,hl⟩=>?_⟩;have b1:=(key_bound ht.1).1;have b2:=(key_bound h.1.1).2 (by omega);have b3:(257:Nat)^t.length≤257^(g.length-1):=Nat.pow_le_pow_right (by omega) (by omega);have:=h.2 t ht;omega
end
theorem nodup_lenG{α:Type}[BEq α][LawfulBEq α]: ∀{l m:List α},l.Nodup→(∀x∈l,x∈m)→l.length≤m.length
 | [],_,_,_=>by simp
 |x::l,m,hn,hs=>by
   obtain⟨h1,h2⟩:=List.nodup_cons.1 hn;have hx:=hs x (by simp);have:=nodup_lenG (l:=l) (m:=m.erase x) h2 (fun y hy=>(List.mem_erase_of_ne (show y≠x from fun e=>h1 (e▸hy))).2 (hs y (by simp[hy])));rw[List.length_erase_of_mem hx]at this;have:0<m.length:=List.length_pos_of_mem hx;simp;omega
section
variable {N:Nat}{rows:List (List Int)}{rule entry:List Int}
theorem rule_at(h:Rt rows rule entry){s:Int}(hr:0≤s∧s<rows.length):idx rule s=some (rule.getD s.toNat 0)∧ -1≤rule.getD s.toNat 0∧rule.getD s.toNat 0<48:=by
 have hru:=h.ru;have hl:s.toNat<rule.length:=by omega
 rw[List.getD,List.getElem?_eq_getElem hl];exact⟨idx_int hr.1 hl,h.rul _ (List.getElem_mem hl)⟩
theorem right_t(hN:4294967296≤N)(hs:Sz rows rule entry)(h:Rt rows rule entry):F_6 N rows rule entry=some true:=by
 obtain⟨b,hb,hbt⟩:=right_spec hN hs;rw[hbt.2 h]at hb;exact hb
theorem right_f(hN:4294967296≤N)(hs:Sz rows rule entry)(h: ¬Rt rows rule entry):F_6 N rows rule entry=some false:=by
 obtain⟨b,hb,hbt⟩:=right_spec hN hs
 cases b with
 |false=>exact hb
 |true=>exact absurd (hbt.1 rfl) h
end
structure Two where
 ra:List (List Int)
 ua:List Int
 ea:List Int
 rb:List (List Int)
 ub:List Int
 eb:List Int
structure Two.Ok(T:Two):Prop where
 sa:Sz T.ra T.ua T.ea
 ha:Rt T.ra T.ua T.ea
 sb:Sz T.rb T.ub T.eb
 hb:Rt T.rb T.ub T.eb
def Two.nx(T:Two)(p:Int×Int)(c:Int):Int×Int:=(nxt T.ra p.1 c,nxt T.rb p.2 c)
def Two.dm(T:Two)(p:Int×Int):Prop:=(0≤p.1∧p.1<T.ra.length)∧(0≤p.2∧p.2<T.rb.length)
def Two.ru(T:Two)(p:Int×Int):Int×Int:=(T.ua.getD p.1.toNat 0,T.ub.getD p.2.toNat 0)
def Two.bg(T:Two)(cond:Int):Int×Int:=(beg T.ea cond,beg T.eb cond)
variable {T:Two}
theorem Two.Ok.nx(h:T.Ok): ∀(p:Int×Int) (c:Int),T.dm p→0≤c∧c<256→T.dm (T.nx p c):=fun _ _ hp hc=>⟨nxt_rng h.sa h.ha hp.1 hc,nxt_rng h.sb h.hb hp.2 hc⟩
theorem Two.Ok.bg(h:T.Ok)(cond:Int):T.dm (T.bg cond):=⟨beg_rng h.ha cond,beg_rng h.hb cond⟩
theorem Two.Ok.len(h:T.Ok){l:List (Int×Int)}(hn:l.Nodup)(hr: ∀p∈l,T.dm p):l.length≤40000:=by
 have h1:=h.ha.n2;have h2:=h.hb.n2
 have hn':(l.map fun p:Int×Int=>p.1.toNat*200+p.2.toNat).Nodup:=by
  clear h1 h2
  induction l with
  |nil=>simp
  |cons x l ih=>
    obtain⟨hx,hn⟩:=List.nodup_cons.1 hn;rw[List.map_cons,List.nodup_cons];refine⟨fun hm=>?_,ih hn (fun p hp=>hr p (by simp[hp]))⟩;obtain⟨y,hy,he⟩:=List.mem_map.1 hm;have a:=hr x (by simp);have b:=hr y (by simp[hy]);have h1:=h.ha.n2;have h2:=h.hb.n2;unfold Two.dm at a b;obtain⟨x1,x2⟩:=x;obtain⟨y1,y2⟩:=y;simp only at he a b;have e1:y1=x1:=by omega
    have e2:y2=x2:=by omega
    subst e1 e2;exact hx hy
 have:=nodup_lenG (m:=List.range 40000) hn' (fun n hn=>by
  obtain⟨p,hp,rfl⟩:=List.mem_map.1 hn;have a:=hr p hp;unfold Two.dm at a;rw[List.mem_range];omega)
 simpa using this
open Go Go.Eng
set_option maxRecDepth 100000
def sn(S:List (Int×Int)):List ((Int×Int)×Int):=S.map fun p=>(p,1)
theorem sn_find(S:List (Int×Int))(p:Int×Int):((sn S).find? fun e=>e.1==p)=if p∈S then some (p,1)else none:=by
 unfold sn
 induction S with
 |nil=>rfl
 |cons q S ih=>
   rw[List.map_cons,List.find?_cons];by_cases h:q=p
   ·subst h;simp
   have e:(q==p)=false:=by simpa using h
   have e2: ¬p=q:=fun e=>h e.symm;simp only[e,ih,List.mem_cons,e2,false_or]
theorem sn_get(S:List (Int×Int))(p:Int×Int):(mget (sn S) p).getD 0=if p∈S then 1 else 0:=by
 unfold mget;rw[sn_find];split<;>rfl
theorem sn_fi{S:List (Int×Int)}{p:Int×Int}(h:p∉S):((sn S).findIdx? fun e=>e.1==p)=none:=by
 rw[List.findIdx?_eq_none_iff];intro x hx;obtain⟨q,hq,rfl⟩:=List.mem_map.1 hx;have: ¬q=p:=fun e=>h (e▸hq);simpa using this
theorem modify_len{α:Type}(f:α→α)(x:α): ∀(l:List α),(l++ [x]).modify l.length f=l++ [f x]
 | []=>rfl
 |y::l=>by simp only[List.cons_append,List.length_cons,List.modify_succ_cons,modify_len f x l]
theorem sn_set{S:List (Int×Int)}{p:Int×Int}(h:p∉S):mset (mset (sn S) p 0) p 1=sn (S++ [p]):=by
 have e1:mset (sn S) p (0:Int)=sn S++ [(p,0)]:=by unfold mset;rw[sn_fi h]
 rw[e1];unfold mset
 have e2:((sn S++ [(p,(0:Int))]).findIdx? fun e=>e.1==p)=some (sn S).length:=by
  rw[List.findIdx?_append,sn_fi h];simp
 rw[e2];simp only;rw[modify_len];simp[sn]
theorem slc_tl{α:Type}(x:α)(l:List α):slc (x::l) 1 (((x::l).length:Nat):Int)=some l:=by
 unfold slc;rw[if_pos ⟨by omega,by simp;omega,by omega⟩];simp
section
variable {N:Nat}{T:Two}
theorem next2_spec(hT:T.Ok){p:Int×Int}{c:Int}(hp:T.dm p)(hc:0≤c∧c<256):F_95 N T.ra T.ua T.ea T.rb T.ub T.eb p.1 p.2 c=some (T.nx p c):=by
 obtain⟨r1,a1,_,a3,_⟩:=nxt_get hT.sa hp.1 hc;obtain⟨r2,b1,_,b3,_⟩:=nxt_get hT.sb hp.2 hc;unfold F_95;simp only[a1,a3,b1,b3,bind,Option.bind_some];rfl
theorem entry_spec{rows:List (List Int)}{rule entry:List Int}(cond:Int):F_81 N rows rule entry cond=some (beg entry cond):=by
 unfold F_81 beg;by_cases h1:cond<0
 ·have: ¬(0≤cond∧cond<(entry.length:Int)):=by omega
  simp[h1,this]
 by_cases h2:cond≥(entry.length:Int)
 ·have: ¬(0≤cond∧cond<(entry.length:Int)):=by omega
  simp[h1,h2,this]
 have h3:0≤cond∧cond<(entry.length:Int):=by omega
 have hl:cond.toNat<entry.length:=by omega
 rw[if_pos h3,List.getD,List.getElem?_eq_getElem hl];simp only[h1,h2,decide_false,Bool.false_eq_true,if_false,bind,Option.bind_some,idx_int h3.1 hl];rfl
theorem begin2_spec(cond:Int):F_94 N T.ra T.ua T.ea T.rb T.ub T.eb cond=some (T.bg cond):=by
 unfold F_94;simp only[entry_spec,bind,Option.bind_some];rfl
theorem rules2_spec(hT:T.Ok){p:Int×Int}(hp:T.dm p):F_82 N T.ra T.ua T.ea T.rb T.ub T.eb p.1 p.2=some (T.ru p):=by
 unfold F_82;simp only[(rule_at hT.ha hp.1).1,(rule_at hT.hb hp.2).1,bind,Option.bind_some];rfl
def noT:Int×Int→Prop:=fun _=>False
theorem noT_ok(G:Int×Int→Prop):TrivOk T.nx G noT:=⟨fun _ _ h=>h,fun _ h=>h.elim⟩
theorem kids(hN:4294967296≤N)(hT:T.Ok){G:Int×Int→Prop}{s0 s:Int×Int}{t:List Int}{S:List (Int×Int)}{Q:List ((Int×Int)×List Int)}(hm:BMid T.nx G noT T.dm s0 s t 0 S Q):
 ∃S' Q',iterO N (fun q=>F_42 N T.ra T.ua T.ea T.rb T.ub T.eb (s,t) q.1 q.2.1 q.2.2) ((s,t)::Q,0,sn S)=some ((s,t)::Q',sn S')∧BMid T.nx G noT T.dm s0 s t 256 S' Q'∧Q'.length+S.length=Q.length+S'.length∧S.length≤S'.length:=by
 obtain⟨r,h1,S',Q',h2,h3,h4⟩:=loop_inv (f:=fun q=>F_42 N T.ra T.ua T.ea T.rb T.ub T.eb (s,t) q.1 q.2.1 q.2.2) (fun i (q:List ((Int×Int)×List Int)×List ((Int×Int)×Int))=>(q.1,(i:Int),q.2)) id (List.range 256)
  (fun i q=> ∃S' Q',q=((s,t)::Q',sn S')∧BMid T.nx G noT T.dm s0 s t i S' Q'∧Q'.length+S.length=Q.length+S'.length∧S.length≤S'.length) (N:=N) (s:=((s,t)::Q,sn S)) (by simp;omega)
  ⟨S,Q,rfl,hm,rfl,Nat.le_refl _⟩
  (fun i x q hx hI=>by
   obtain⟨hi,rfl⟩:=range_get hx;obtain⟨S1,Q1,rfl,hm1,e1,e2⟩:=hI;have hds:T.dm s:=hm1.rng s hm1.tb.2.2.2;have hn:=next2_spec (N:=N) hT hds (c:=(x:Int)) ⟨by omega,by omega⟩;have hdn:=hT.nx s x hds ⟨by omega,by omega⟩;unfold F_42;simp only[show((x:Int)<256) by omega,decide_true,if_true,hn,bind,Option.bind_some];rw[w64_succ (n:=x) (by omega)];by_cases hin:T.nx s x∈S1
   ·refine⟨((s,t)::Q1,sn S1),?_,S1,Q1,rfl,hm1.skip (.inl hin),e1,e2⟩;have:((mget (sn S1) (T.nx s x)).getD 0==0)=false:=by rw[sn_get,if_pos hin];rfl
    simp only[this,Bool.false_eq_true,if_false,Option.bind_some]
   have hm2:=hm1.push (noT_ok G) hi hin (fun h=>h) hdn;refine⟨((s,t)::(Q1++ [(T.nx s x,t++ [(x:Int)])]),sn (S1++ [T.nx s x])),?_,_,_,rfl,hm2,by simp;omega,by simp;omega⟩;have:((mget (sn S1) (T.nx s x)).getD 0==0)=true:=by rw[sn_get,if_neg hin];rfl
   have h0:(mget (sn S1) (T.nx s x)).getD 0=0:=by rw[sn_get,if_neg hin]
   have hS:=hT.len hm2.nd hm2.rng;have hq:=hm2.ql;have ht:=hm1.tb.2.2.1;simp only[List.length_append,List.length_singleton]at hS hq;unfold F_102;simp only[h0];rw[app_eq (by simp;omega)];simp only[Option.bind_some,List.nil_append];rw[app_eq (by simp;omega)];simp only[Option.bind_some];rw[app_eq (by simp;omega)];simp only[Option.bind_some,show w64 (0+1)=1 from rfl,sn_set hin,wrap8 hi];rfl)
  (fun q _=>by unfold F_42;simp)
 subst h2;simp only[List.length_range]at h3;exact⟨S',Q',h1,h3,h4⟩
def Found(T:Two)(G:Int×Int→Prop)(s0:Int×Int):(Int×Int×List Int) ⊕ Unit→Prop
 | .inl (p,q,t)=>BestG T.nx G s0 t∧(p,q)=t.foldl T.nx s0∧T.dm (p,q)
 | .inr ()=> ∀u,¬LG T.nx G s0 u
theorem search(hN:4294967296≤N)(hT:T.Ok){g:Int→Int→Bool}{f:List ((Int×Int)×List Int)×List ((Int×Int)×Int)→Option ((List ((Int×Int)×List Int)×List ((Int×Int)×Int)) ⊕ (Unit ⊕ ((Int×Int×List Int) ⊕ Unit)))}
 (f0: ∀m,f ([],m)=some (.inr (.inl ())))
 (f1: ∀(p:Int×Int) (t:List Int) Q m,T.dm p→f ((p,t)::Q,m)=if g (T.ru p).1 (T.ru p).2=true then some (.inr (.inr (.inl (p.1,p.2,t))))else(iterO N (fun q=>F_42 N T.ra T.ua T.ea T.rb T.ub T.eb (p,t) q.1 q.2.1 q.2.2) ((p,t)::Q,0,m)) >>= fun x=>slc x.1 1 (x.1.length:Int) >>= fun y=>some (.inl (y,x.2)))
 {s0:Int×Int} (h0:T.dm s0): ∃z,((iterO N f ([(s0,[])],mset ([]:List ((Int×Int)×Int)) s0 1)) >>= fun z=>match z with| .inr z=>some z| .inl _=>some (.inr ()))=some z∧Found T (fun p=>g (T.ru p).1 (T.ru p).2=true) s0 z:=by
 have hm0:mset ([]:List ((Int×Int)×Int)) s0 1=sn [s0]:=rfl;rw[hm0]
 obtain⟨r,h1,h2⟩:=iterO_while (f:=f) (fun q=> ∃S Q,q=(Q,sn S)∧BInv T.nx (fun p=>g (T.ru p).1 (T.ru p).2=true) noT T.dm s0 S Q) (fun q=>q.1.length+2*(40001-q.2.length))
  (fun r=>(r= .inl ()∧ ∀u,¬LG T.nx (fun p=>g (T.ru p).1 (T.ru p).2=true) s0 u)∨ ∃p t,r= .inr (.inl (p,t))∧BestG T.nx (fun p=>g (T.ru p).1 (T.ru p).2=true) s0 t.2∧(p,t.1)=t.2.foldl T.nx s0∧T.dm (p,t.1))
  (fun q hI=>by
   obtain⟨S,Q,rfl,hB⟩:=hI
   cases Q with
   |nil=>exact .inr ⟨_,f0 _,.inl ⟨rfl,hB.none (noT_ok _)⟩⟩
   |cons w Q=>
     obtain⟨p,t⟩:=w;have hp:T.dm p:=hB.rng p (hB.qs (p,t) (by simp));rw[f1 p t Q _ hp];by_cases hg:g (T.ru p).1 (T.ru p).2=true
     ·rw[if_pos hg];refine .inr ⟨_,rfl,.inr ⟨p.1,(p.2,t),rfl,hB.best (noT_ok _) hg,?_,hp⟩⟩;exact((hB.byt (p,t) (by simp)).2.1).symm
     rw[if_neg hg];obtain⟨S',Q',k1,k2,k3,k4⟩:=kids hN hT (hB.mid (noT_ok _) hg);have hS:=hT.len k2.nd k2.rng;refine .inl ⟨(Q',sn S'),?_,⟨S',Q',rfl,k2.done hg⟩,?_⟩
     ·rw[k1];simp only[bind,Option.bind_some];rw[slc_tl];rfl
     simp only[sn,List.length_map,List.length_cons];omega) (N:=N) (s:=([(s0,[])],sn [s0])) ⟨[s0],[(s0,[])],rfl,BInv.start h0⟩ (by simp[sn];omega)
 rw[h1];simp only[bind,Option.bind_some];rcases h2 with⟨rfl,h2⟩|⟨p,t,rfl,h2⟩
 ·exact⟨.inr (),rfl,h2⟩
 exact⟨.inl (p,t),rfl,h2⟩
theorem differ_find(hN:4294967296≤N)(hT:T.Ok)(cond:Int): ∃z,F_13 N T.ra T.ua T.ea T.rb T.ub T.eb cond=some z∧Found T (fun p=>((T.ru p).1 != (T.ru p).2)=true) (T.bg cond) z:=by
 obtain⟨z,h1,h2⟩:=search hN hT (g:=fun x y=>x != y) (f:=fun s=>F_76 N T.ra T.ua T.ea T.rb T.ub T.eb s.1 s.2) (fun m=>by unfold F_76;simp) (fun p t Q m hp=>by
  unfold F_76 F_109;have i0:idx ((p,t)::Q) 0=some (p,t):=rfl;simp only[List.length_cons,show(((Q.length+1:Nat):Int)>0) by omega,decide_true,if_true,i0,rules2_spec hT hp,bind,Option.bind_some]) (hT.bg cond)
 refine⟨z,?_,h2⟩;unfold F_13;rw[begin2_spec];simp only[bind,Option.bind_some]at h1 ⊢;exact h1
end
open Go Go.Eng
set_option maxRecDepth 100000
def cell(out:List (List Int))(p:Int×Int):Int:=(out.getD p.1.toNat []).getD p.2.toNat 0
def gk(asked:Int)(x y:Int):Bool:=if asked=0 then x != y else decide (x≥0)&&decide (y≥0)
structure Shp(a b:Nat)(out:List (List Int)):Prop where
 l:out.length=a
 r: ∀r∈out,r.length=b
theorem Shp.at{a b:Nat}{out:List (List Int)}(h:Shp a b out){p:Int×Int}(h1:0≤p.1∧p.1<a)(h2:0≤p.2∧p.2<b):
 ∃row,idx out p.1=some row∧idx row p.2=some (cell out p)∧row∈out∧row=out.getD p.1.toNat []:=by
 have hl:p.1.toNat<out.length:=by have:=h.l;omega
 have hw:=h.r _ (List.getElem_mem hl);have e1:out.getD p.1.toNat []=out[p.1.toNat]:=by rw[List.getD,List.getElem?_eq_getElem hl];rfl
 have hcl:p.2.toNat<out[p.1.toNat].length:=by omega
 have e2:cell out p=out[p.1.toNat][p.2.toNat]:=by unfold cell;rw[e1,List.getD,List.getElem?_eq_getElem hcl];rfl
 exact⟨out[p.1.toNat],idx_int h1.1 hl,by rw[e2];exact idx_int h2.1 hcl,List.getElem_mem hl,e1.symm⟩
section
variable {N:Nat}{T:Two}
def gP(T:Two)(asked:Int)(p:Int×Int):Prop:=gk asked (T.ru p).1 (T.ru p).2=true
instance (T:Two)(asked:Int)(p:Int×Int):Decidable (gP T asked p):=inferInstanceAs (Decidable (_=true))
end
open Go Go.Eng
set_option maxRecDepth 100000
section
variable {N:Nat}{T:Two}{G:Int×Int→Prop}
theorem gP0(p:Int×Int):gP T 0 p↔((T.ru p).1 != (T.ru p).2)=true:=Iff.rfl
inductive First(T:Two)(n:Nat):Option (Nat×List Int)→Prop
 |none:(∀c:Nat,c<n→ ∀u,¬LG T.nx (gP T 0) (T.bg (c:Int)) u)→First T n none
 |some (c:Nat) (t:List Int):c<n→(∀d:Nat,d<c→ ∀u,¬LG T.nx (gP T 0) (T.bg (d:Int)) u)→BestG T.nx (gP T 0) (T.bg (c:Int)) t→First T n (some (c,t))
theorem First.uniq{n:Nat}{a b:Option (Nat×List Int)}(h:First T n a)(h':First T n b):a=b:=by
 cases h with
 |none h1=>
   cases h' with
   |none _=>rfl
   |some c t h2 h3 h4=>exact absurd h4.1 (h1 c h2 t)
 |some c t h2 h3 h4=>
   cases h' with
   |none h1=>exact absurd h4.1 (h1 c h2 t)
   |some d u k2 k3 k4=>
     rcases Nat.lt_trichotomy c d with hl|he|hl
     ·exact absurd h4.1 (k3 c hl t)
     ·subst he;rw[h4.uniq k4]
     exact absurd k4.1 (h3 d hl u)
def dif(T:Two):Option (Nat×List Int)→Unit ⊕ (Int×List Int×Int×Int)
 |none=> .inl ()
 |some (c,t)=> .inr ((c:Int),t,(T.ru (t.foldl T.nx (T.bg (c:Int)))).1,(T.ru (t.foldl T.nx (T.bg (c:Int)))).2)
theorem imax_nat(a b:Nat):imax (a:Int) (b:Int)=((max a b:Nat):Int):=by
 unfold imax;split<;>omega
theorem right2_spec(hN:4294967296≤N)(sa:Sz T.ra T.ua T.ea)(sb:Sz T.rb T.ub T.eb): ∃b,F_77 N T.ra T.ua T.ea T.rb T.ub T.eb=some b∧(b=true↔T.Ok):=by
 unfold F_77;by_cases h1:Rt T.ra T.ua T.ea
 ·by_cases h2:Rt T.rb T.ub T.eb
  ·exact⟨true,by simp[right_t hN sa h1,right_t hN sb h2],by simp;exact⟨sa,h1,sb,h2⟩⟩
  exact⟨false,by simp[right_t hN sa h1,right_f hN sb h2],by simp;exact fun h=>h2 h.hb⟩
 exact⟨false,by simp[right_f hN sa h1],by simp;exact fun h=>h1 h.ha⟩
theorem right2_t(hN:4294967296≤N)(hT:T.Ok):F_77 N T.ra T.ua T.ea T.rb T.ub T.eb=some true:=by
 obtain⟨b,h1,h2⟩:=right2_spec hN hT.sa hT.sb;rw[h2.2 hT]at h1;exact h1
theorem differ_spec(hN:4294967296≤N)(hT:T.Ok): ∃z,First T (max T.ea.length T.eb.length) z∧F_16 N T.ra T.ua T.ea T.rb T.ub T.eb=some (dif T z):=by
 have hea:=hT.ha.e2;have heb:=hT.hb.e2;unfold F_16;simp only[right2_t hN hT,bind,Option.bind_some,Bool.not_true,Bool.false_eq_true,if_false]
 obtain⟨r,h1,h2⟩:=iterO_while (f:=fun s=>F_80 N T.ra T.ua T.ea T.rb T.ub T.eb s) (fun s=> ∃c:Nat,s=(c:Int)∧c≤max T.ea.length T.eb.length∧ ∀d:Nat,d<c→ ∀u,¬LG T.nx (gP T 0) (T.bg (d:Int)) u) (fun s=>10-s.toNat)
  (fun r=>(r= .inl ()∧First T (max T.ea.length T.eb.length) none)∨ ∃(c:Nat) (t:List Int),r= .inr (.inr ((c:Int),t,(T.ru (t.foldl T.nx (T.bg (c:Int)))).1,(T.ru (t.foldl T.nx (T.bg (c:Int)))).2))∧First T (max T.ea.length T.eb.length) (some (c,t)))
  (fun s hI=>by
   obtain⟨c,rfl,hc,hno⟩:=hI;unfold F_80;rw[imax_nat];by_cases hl:c<max T.ea.length T.eb.length
   ·obtain⟨z,z1,z2⟩:=differ_find (N:=N) hN hT (c:Int);simp only[show((c:Int)<((max T.ea.length T.eb.length:Nat):Int)) by omega,decide_true,if_true,z1,bind,Option.bind_some]
    cases z with
    |inl z=>
      obtain⟨p,q,t⟩:=z;obtain⟨k1,k2,k3⟩:=z2;have k4:=rules2_spec (N:=N) hT k3;simp only at k4;simp only[k4,Option.bind_some];exact .inr ⟨_,rfl,.inr ⟨c,t,by rw[←k2],.some c t hl hno k1⟩⟩
    |inr z=>
      simp only;rw[w64_succ (n:=c) (by omega)];refine .inl ⟨((c+1:Nat):Int),rfl,⟨c+1,rfl,by omega,fun d hd=>?_⟩,by omega⟩;by_cases e:d=c
      ·subst e;exact z2
      exact hno d (by omega)
   simp only[show¬((c:Int)<((max T.ea.length T.eb.length:Nat):Int)) by omega,decide_false,Bool.false_eq_true,if_false];exact .inr ⟨_,rfl,.inl ⟨rfl,.none fun d hd=>hno d (by omega)⟩⟩) (N:=N) (s:=0) ⟨0,rfl,by omega,fun d hd=>by omega⟩ (by simp;omega)
 rw[h1];rcases h2 with⟨rfl,h2⟩|⟨c,t,rfl,h2⟩
 ·exact⟨none,h2,rfl⟩
 exact⟨some (c,t),h2,rfl⟩
end
open Go Go.Eng
set_option maxRecDepth 100000
def exT:Two:=⟨md0r,md0l,md0m,md1r,md1l,md1m⟩
theorem ex_a:Sz md0r md0l md0m∧Rt md0r md0l md0m:=
 ⟨⟨of_decide_eq_true (by kernel_rfl),by decide,by decide,by decide⟩,⟨by decide,by decide,by decide,by decide,by decide,of_decide_eq_true (by kernel_rfl),by decide,by decide,by kernel_rfl,by decide⟩⟩
theorem ex_b:Sz md1r md1l md1m∧Rt md1r md1l md1m:=
 ⟨⟨of_decide_eq_true (by kernel_rfl),by decide,by decide,by decide⟩,⟨by decide,by decide,by decide,by decide,by decide,of_decide_eq_true (by kernel_rfl),by decide,by decide,by kernel_rfl,by decide⟩⟩
theorem ex_ok:exT.Ok:=⟨ex_a.1,ex_a.2,ex_b.1,ex_b.2⟩
theorem ex_best:BestG exT.nx (gP exT 0) (exT.bg ((0:Nat):Int)) [97]:=by
 refine⟨⟨fun c hc=>by simp at hc;omega,of_decide_eq_true (by kernel_rfl)⟩,fun u hu=>?_⟩;have k97:key [97]=98:=by decide
 rw[k97]
 match u,hu with
 | [],hu=>exact absurd hu.2 (of_decide_eq_true (by kernel_rfl:decide (¬gP exT 0 (exT.bg ((0:Nat):Int)))=true))
 | [c],hu=>
   have hc:=hu.1 c (by simp);have e:key [c]=c.toNat+1:=by simp[key]
   rw[e];refine Nat.succ_le_succ (Nat.le_of_not_lt fun hlt=>?_);have hall: ∀d∈List.range 97,¬gP exT 0 (exT.nx (exT.bg ((0:Nat):Int)) (d:Int)):=of_decide_eq_true (by kernel_rfl);have:=hall c.toNat (by simpa using hlt);rw[show((c.toNat:Nat):Int)=c by omega]at this;exact this hu.2
 |a::b::v,hu=>
   have h2:=(key_bound hu.1).2 (by simp);have h3:(257:Nat)^1≤257^((a::b::v).length-1):=Nat.pow_le_pow_right (by omega) (by simp);omega
theorem ex_differ{N:Nat}(hN:4294967296≤N):F_16 N md0r md0l md0m md1r md1l md1m=some (.inr (0,[97],0,-1)):=by
 obtain⟨z,h1,h2⟩:=differ_spec hN ex_ok;have:z=some (0,[97]):=h1.uniq (.some 0 [97] (by decide) (fun d hd=>by omega) ex_best);subst this;rw[show F_16 N md0r md0l md0m md1r md1l md1m=_ from h2]
 congr 1
theorem alive21{N:Nat}(hN:4294967296≤N):F_92 N=some true:=by
 unfold F_92;simp only[ex_differ hN,bind,Option.bind_some,beq_self_eq_true,if_true];rw[show bstr [97]=(⟨#[97]⟩:ByteArray)from rfl];simp
section
variable {N:Nat}{T:Two}
theorem alike_spec(hN:4294967296≤N)(hT:T.Ok){z:Option (Nat×List Int)}(hz:F_16 N T.ra T.ua T.ea T.rb T.ub T.eb=some (dif T z)):F_79 N T.ra T.ua T.ea T.rb T.ub T.eb=some z.isNone:=by
 unfold F_79;rw[hz]
 cases z with
 |none=>simp[dif,right2_t hN hT]
 |some z=>obtain⟨c,t⟩:=z;simp[dif]
end
open Go Go.Eng
set_option maxRecDepth 100000
section
variable {N:Nat}{T:Two}
theorem pair_fold(t:List Int): ∀(p:Int×Int),t.foldl T.nx p=(t.foldl (nxt T.ra) p.1,t.foldl (nxt T.rb) p.2):=by
 induction t with
 |nil=>exact fun _=>rfl
 |cons c t ih=>exact fun p=>ih (T.nx p c)
end
open Go Go.Eng
theorem equalI_spec{N:Nat}{a b:List Int}(hN:4294967296≤N)(ha:a.length<4294967296):F_26 N a b=some (decide (a=b)):=sameInts_spec hN ha
theorem equalR_spec{N:Nat}{a b:List (List Int)}(hN:4294967296≤N)(ha:a.length<4294967296):F_28 N a b=some (decide (a=b)):=by
 unfold F_28;by_cases h:a.length=b.length
 case neg=>
  have:((a.length:Int) != (b.length:Int))=true:=by simp;omega
  have hne:a≠b:=fun e=>h (by rw[e]);simp[this,hne]
 have e0:((a.length:Int) != (b.length:Int))=false:=by simp[h]
 simp only[e0,Bool.false_eq_true,if_false]
 rw[loop_any (List.range a.length) (fun i=>a.getD i [] != b.getD i []) false (by simp;omega) (fun i x hx=>by
  obtain⟨hi,rfl⟩:=range_get hx;have hib:x<b.length:=by omega
  unfold F_86;have g1:a.getD x []=a[x]:=by simp[List.getD,List.getElem?_eq_getElem hi]
  have g2:b.getD x []=b[x]:=by simp[List.getD,List.getElem?_eq_getElem hib]
  rw[g1,g2];simp only[show((x:Int)<(a.length:Int)) by omega,decide_true,if_true,idx_nat hi,idx_nat hib,bind,Option.bind_some];rw[w64_succ (by omega)]) (by simp[F_86])]
 by_cases c:((List.range a.length).any fun i=>a.getD i [] != b.getD i [])=true
 ·have:a≠b:=by
   obtain⟨i,_,hp⟩:=List.any_eq_true.1 c;intro e;simp[e]at hp
  rw[if_pos c];simp[this]
 have:a=b:=by
  apply List.ext_getElem h;intro i h1 h2;have h3:=List.any_eq_false.1 (by simpa using c:((List.range a.length).any fun i=>a.getD i [] != b.getD i [])=false) i (by simpa using h1);have g1:a.getD i []=a[i]:=by simp[List.getD,List.getElem?_eq_getElem h1]
  have g2:b.getD i []=b[i]:=by simp[List.getD,List.getElem?_eq_getElem h2]
  rw[g1,g2]at h3;simpa using h3
 rw[if_neg c];simp[this]
theorem codeSame_spec{N:Nat}{rows rows':List (List Int)}{rule entry rule' entry':List Int}(hN:4294967296≤N)(hs:Sz rows rule entry):
 F_100 N rows rule entry rows' rule' entry'=some (decide (rows=rows'∧rule=rule'∧entry=entry')):=by
 unfold F_100;simp only[equalR_spec hN hs.a,equalI_spec hN hs.b,equalI_spec hN hs.c,bind,Option.bind_some];by_cases h1:rows=rows'
 ·by_cases h2:rule=rule'
  ·by_cases h3:entry=entry'<;>simp[h1,h2,h3]
  simp[h1,h2]
 simp[h1]
open Go Go.Eng
set_option maxRecDepth 100000
section
variable {N:Nat}{rows rows':List (List Int)}{rule entry rule' entry':List Int}
theorem cls_ex2(hs:Sz rows rule entry)(h:Rt rows rule entry): ∃P m,Cls rows rule P m:=by
 obtain⟨P,m,_,h2⟩:=parts_spec (N:=4294967296) (Nat.le_refl _) hs h;exact⟨P,m,h2⟩
theorem Lang.canon(hs:Sz rows rule entry)(h:Rt rows rule entry):Lang rows rule entry (reRows (ord rows entry) rows) (reRule (ord rows entry) rule) (reEntry (ord rows entry) entry):=
 ⟨by simp[reEntry],fun cond t ht=>by
  obtain⟨h1,h2⟩:=stt_re hs h cond ht;rw[h1,rule_re h2]⟩
structure CL(N:Nat)(rows:List (List Int))(rule entry:List Int)(r:List (List Int))(u e:List Int):Prop where
 a:F_73 N rows rule entry=some (r,u,e)
 b:F_3 N r u e=some (reRows (ord r e) r,reRule (ord r e) u,reEntry (ord r e) e)
 s:Sz r u e
 l:Lst r u e
 g:Lang rows rule entry r u e
 s':Sz (reRows (ord r e) r) (reRule (ord r e) u) (reEntry (ord r e) e)
theorem cl_ex(hN:4294967296≤N)(hs:Sz rows rule entry)(h:Rt rows rule entry): ∃r u e,CL N rows rule entry r u e:=by
 obtain⟨P,m,hC⟩:=cls_ex2 (t_sz hs h) (t_right h);have hA:=least_lst hs h hC;have hAs:=mg_sz (t_sz hs h) (t_right h) hC;exact⟨_,_,_,least_spec hN hs h hC,canon_spec hN hAs hA.1,hAs,hA,⟨by simp[mgEntry,reEntry],fun c t ht=>least_lang hs h hC c ht⟩,re_sz hAs hA.1⟩
theorem cl_same{r r':List (List Int)}{u e u' e':List Int}(h:CL N rows rule entry r u e)(h':CL N rows' rule' entry' r' u' e'):
 (reRows (ord r e) r=reRows (ord r' e') r'∧reRule (ord r e) u=reRule (ord r' e') u'∧reEntry (ord r e) e=reEntry (ord r' e') e')↔Lang rows rule entry rows' rule' entry':=by
 constructor
 ·rintro⟨h1,h2,h3⟩;have k:=Lang.canon h.s h.l.1;have k':=Lang.canon h'.s h'.l.1;rw[h1,h2,h3]at k;exact(h.g.trans k).trans (h'.g.trans k').symm
 intro hL;obtain⟨c1,c2,c3⟩:=lang_canon h.s h.l h'.s h'.l ((h.g.symm.trans hL).trans h'.g);exact⟨c1.symm,c2.symm,c3.symm⟩
theorem first_lang{T:Two}(hT:T.Ok)(he:T.ea.length=T.eb.length){z:Option (Nat×List Int)}(hz:First T (max T.ea.length T.eb.length) z):
 Lang T.ra T.ua T.ea T.rb T.ub T.eb↔z=none:=by
 have key: ∀(c:Int) (t:List Int),gP T 0 (t.foldl T.nx (T.bg c))↔T.ub.getD (stt T.rb T.eb c t).toNat 0≠T.ua.getD (stt T.ra T.ea c t).toNat 0:=by
  intro c t;rw[gP0,pair_fold];simp only[bne_iff_ne];exact⟨fun h q=>h q.symm,fun h q=>h q.symm⟩
 cases hz with
 |none h0=>
   refine⟨fun _=>rfl,fun _=>⟨he.symm,fun c t ht=>?_⟩⟩;by_cases hc:0≤c∧c<(T.ea.length:Int)
   ·have:=h0 c.toNat (by omega) t;rw[show((c.toNat:Nat):Int)=c by omega]at this;have hn: ¬gP T 0 (t.foldl T.nx (T.bg c)):=fun hg=>this ⟨ht,hg⟩;rw[key]at hn;exact Classical.byContradiction hn
   have h1:beg T.ea c=0:=by unfold beg;rw[if_neg hc]
   have h2:beg T.eb c=0:=by unfold beg;rw[if_neg (by omega)]
   have:=rel_zero hT.sa hT.ha hT.sb hT.hb t ht;unfold stt;rw[h1,h2];exact this.symm
 |some c t hc _ hb=>
   refine⟨fun hL=>?_,fun h=>by cases h⟩;exact absurd (hL.2 (c:Int) t hb.1.1) ((key _ _).1 hb.1.2)
theorem best_len{T:Two}(hT:T.Ok){c:Int}{t:List Int}(h:BestG T.nx (gP T 0) (T.bg c) t):t.length<4294967296:=by
 obtain⟨l,l1,l2,l3⟩:=distG_chain hT.nx (hT.bg c) h.dist;have:=hT.len l2 fun y hy=>(l3 y hy).1;omega
theorem productAlike_true{ra:List (List Int)}{ua ea:List Int}{rb:List (List Int)}{ub eb:List Int}(hw: ∀r∈ra,r.length=256)(hw': ∀r∈rb,r.length=256): ∃N,F_53 N ra ua ea rb ub eb=some true:=by
 refine⟨4294967296,?_⟩;generalize hM:(4294967296:Nat)=N;have hN:4294967296≤N:=by omega
 unfold F_53;simp only[alive21 hN,bind,Option.bind_some,Bool.not_true,Bool.false_eq_true,if_false];by_cases g1:(ra.length:Int)>12
 ·simp[g1]
 by_cases g2:(rb.length:Int)>12
 ·simp[g1,g2]
 obtain⟨b,hb,hbt⟩:=right_any (rule:=ua) (entry:=ea) hN hw (by omega);obtain⟨b',hb',hbt'⟩:=right_any (rule:=ub) (entry:=eb) hN hw' (by omega);simp only[decide_eq_false g1,decide_eq_false g2,Bool.false_eq_true,if_false,hb,hb',Option.bind_some];by_cases h:Rt ra ua ea
 case neg=>
  have:b=false:=by
   cases b with
   |false=>rfl
   |true=>exact absurd (hbt.1 rfl) h
  subst this;simp
 by_cases h':Rt rb ub eb
 case neg=>
  have:b'=false:=by
   cases b' with
   |false=>rfl
   |true=>exact absurd (hbt'.1 rfl) h'
  subst this;cases b<;>simp
 obtain rfl:=hbt.2 h;obtain rfl:=hbt'.2 h';by_cases g3:(ea.length:Int)=(eb.length:Int)
 case neg=>simp[g3]
 have g3':((ea.length:Int) != (eb.length:Int))=false:=by simp[g3]
 have hs:=h.sz hw;have hs':=h'.sz hw';simp only[g3',Bool.not_true,Bool.false_eq_true,if_false,Option.bind_some];obtain⟨r,u,e,hA⟩:=cl_ex hN hs h;obtain⟨r',u',e',hB⟩:=cl_ex hN hs' h';have hT:(Two.mk ra ua ea rb ub eb).Ok:=⟨hs,h,hs',h'⟩;obtain⟨z,z1,z2⟩:=differ_spec hN hT;have a1:=alike_spec hN hT z2;have hL:=first_lang hT (show ea.length=eb.length by omega) z1;have hS:=cl_same hA hB;simp only at z2 a1 hL;rw[hL]at hS;simp only[hA.a,hA.b,hB.a,hB.b,Option.bind_some,codeSame_spec hN hA.s',z2]
 cases z1 with
 |none _=>
   simp only[dif];rw[decide_eq_true (hS.2 rfl)];simp[a1]
 |some c t _ _ hbest=>
   have hl:=best_len hT hbest;have hbt:=hbest.1.1;have hg:=(gP0 _).1 hbest.1.2;simp only[dif];rw[decide_eq_false fun q=>by cases hS.1 q];rw[run_spec hN hs h (c:Int) hbt hl,run_spec hN hs' h' (c:Int) hbt hl];rw[pair_fold]at hg ⊢
   have hg2:(ua.getD (stt ra ea (c:Int) t).toNat 0==ub.getD (stt rb eb (c:Int) t).toNat 0)=false:=Bool.eq_false_iff.2 fun q=>by
    have hg3:(ua.getD (stt ra ea (c:Int) t).toNat 0 != ub.getD (stt rb eb (c:Int) t).toNat 0)=true:=hg;rw[bne,q]at hg3;cases hg3
   simp only[Option.bind_some];show(if(ua.getD (stt ra ea (c:Int) t).toNat 0 != ua.getD (stt ra ea (c:Int) t).toNat 0)=true then _ else _:Option Bool).bind _=_;simp only[bne_self_eq_false,Bool.false_eq_true,if_false];show(if(ub.getD (stt rb eb (c:Int) t).toNat 0 != ub.getD (stt rb eb (c:Int) t).toNat 0)=true then _ else _:Option Bool).bind _=_;simp only[bne_self_eq_false,Bool.false_eq_true,if_false];show(some (ua.getD (stt ra ea (c:Int) t).toNat 0==ub.getD (stt rb eb (c:Int) t).toNat 0)).bind _=_;rw[hg2];simp[a1]
end
end Go.Proofs.YtchjfkdljnmmgaaGreatDoor
