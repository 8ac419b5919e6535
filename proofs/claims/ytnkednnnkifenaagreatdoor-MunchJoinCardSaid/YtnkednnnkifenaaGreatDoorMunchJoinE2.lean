import Derived.Test.YtnkednnnkifenaaGreatDoorMunchJoinE1
namespace Go.Eng
open Go
set_option maxRecDepth 100000
inductive Nd where
 |mk (kind:Int) (set:Int×Int×Int×Int) (kids:List Nd) (mn mx:Int) (text:BA):Nd
abbrev NdP:=Int×(Int×Int×Int×Int)×List Nd×Int×Int×BA
def Nd.un:Nd→NdP
 | .mk k s l a b t=>(k,s,l,a,b,t)
def Nd.of(p:NdP):Nd:= .mk p.1 p.2.1 p.2.2.1 p.2.2.2.1 p.2.2.2.2.1 p.2.2.2.2.2
abbrev eNP(e:Enc Nd):Enc NdP:=eP (eI .i64) (eP (eP (eI .u64) (eP (eI .u64) (eP (eI .u64) (eI .u64)))) (eP (eL e) (eP (eI .i64) (eP (eI .i64) eS))))
def eNU(e:Enc Nd):Enc Nd where
 n:=9
 rd ρ x cs:=(eNP e).rd ρ x.un cs
 len h:=(eNP e).len h
 one h:=(eNP e).one h
 up hl h:=(eNP e).up hl h
def eNF:Nat→Enc Nd
 |0=>{n:=9,rd:=fun _ _ _=>False,len:=fun h=>h.elim,one:=fun h=>h.elim,up:=fun _ h=>h}
 |d+1=>eNU (eNF d)
theorem eNF_n: ∀d,(eNF d).n=9
 |0=>rfl
 |_+1=>rfl
theorem rdL.imp{α:Type}{e f:Enc α}{ρ:View}(h: ∀x c,e.rd ρ x c→f.rd ρ x c): ∀{xs:List α} {cs:List Value},rdL e ρ xs cs→rdL f ρ xs cs
 | [],_,hr=>hr
 |_::_,_,⟨c,d,h1,h2,h3⟩=>⟨c,d,h1,h _ _ h2,rdL.imp h h3⟩
theorem RdSl.imp{α:Type}{e f:Enc α}{ρ:View}(h: ∀x c,e.rd ρ x c→f.rd ρ x c){v:Value}{xs:List α}(hr:RdSl ρ e v xs):RdSl ρ f v xs:=by
 rcases hr with hr|⟨b,o,cap,cs,h1,h2,h3,h4⟩
 ·exact .inl hr
 exact .inr ⟨b,o,cap,cs,h1,h2,rdL.imp h h3,h4⟩
theorem eNP_imp{e f:Enc Nd}{ρ:View}(h: ∀x c,e.rd ρ x c→f.rd ρ x c){p:NdP}{cs:List Value}(hr:(eNP e).rd ρ p cs):(eNP f).rd ρ p cs:=by
 obtain⟨c1,d1,h1,k1,c2,d2,h2,k2,c3,d3,h3,⟨v,hv,k3⟩,k4⟩:=hr;exact⟨c1,d1,h1,k1,c2,d2,h2,k2,c3,d3,h3,⟨v,hv,RdSl.imp h k3⟩,k4⟩
theorem eNF_mono{ρ:View}: ∀{d k:Nat},d≤k→ ∀{x:Nd} {c:List Value},(eNF d).rd ρ x c→(eNF k).rd ρ x c
 |0,_,_,_,_,h=>h.elim
 |_+1,_+1,hk,_,_,h=>eNP_imp (fun _ _ hh=>eNF_mono (Nat.le_of_succ_le_succ hk) hh) h
def eN:Enc Nd where
 n:=9
 rd ρ x cs:= ∃d,(eNF d).rd ρ x cs
 len h:=by obtain⟨d,h⟩:=h;rw[(eNF d).len h,eNF_n]
 one h:=by obtain⟨d,h⟩:=h;exact(eNF d).one h
 up hl h:=by obtain⟨d,h⟩:=h;exact⟨d,(eNF d).up hl h⟩
theorem rdL_deep{ρ:View}: ∀{xs:List Nd} {cs:List Value},rdL eN ρ xs cs→ ∃d,rdL (eNF d) ρ xs cs
 | [],_,h=>⟨0,h⟩
 |_::_,_,⟨c,d,h1,⟨k,h2⟩,h3⟩=>by
   obtain⟨m,h4⟩:=rdL_deep h3;exact⟨max k m,c,d,h1,eNF_mono (Nat.le_max_left ..) h2,h4.imp fun _ _ hh=>eNF_mono (Nat.le_max_right ..) hh⟩
theorem eN_iff{ρ:View}{x:Nd}{c:List Value}:eN.rd ρ x c↔(eNP eN).rd ρ x.un c:=by
 constructor
 ·rintro⟨d,h⟩
  match d,h with
  |d+1,h=>exact eNP_imp (f:=eN) (fun _ _ hh=>⟨d,hh⟩) h
 rintro⟨c1,d1,h1,k1,c2,d2,h2,k2,c3,d3,h3,⟨v,hv,k3⟩,k4⟩;rcases k3 with k3|⟨b,o,cap,cs,e1,e2,e3,e4⟩
 ·exact⟨1,c1,d1,h1,k1,c2,d2,h2,k2,c3,d3,h3,⟨v,hv,.inl k3⟩,k4⟩
 obtain⟨m,hm⟩:=rdL_deep e3;exact⟨m+1,c1,d1,h1,k1,c2,d2,h2,k2,c3,d3,h3,⟨v,hv,.inr ⟨b,o,cap,cs,e1,e2,hm,e4⟩⟩,k4⟩
theorem eN_un{ρ:View}{x:Nd}{c:List Value}(h:eN.rd ρ x c):(eNP eN).rd ρ x.un c:=eN_iff.1 h
theorem eN_mk{ρ:View}{p:NdP}{c:List Value}(h:(eNP eN).rd ρ p c):eN.rd ρ (Nd.of p) c:=eN_iff.2 h
mutual
def NdQ:Nd→Prop
 | .mk _ _ l _ _ t=>t.size≤maxLen∧NdQL l
def NdQL:List Nd→Prop
 | []=>True
 |x::l=>NdQ x∧NdQL l
end
theorem NdQ.text{x:Nd}(h:NdQ x):x.un.2.2.2.2.2.size≤maxLen:=by
 cases x;simp only[NdQ]at h;exact h.1
theorem NdQL.mem{x:Nd}: ∀{l:List Nd},NdQL l→x∈l→NdQ x
 |y::l,h,hx=>by
   simp only[NdQL]at h;rcases List.mem_cons.1 hx with rfl|hx
   ·exact h.1
   exact NdQL.mem h.2 hx
theorem NdQL.of: ∀{l:List Nd},(∀x∈l,NdQ x)→NdQL l
 | [],_=>by simp[NdQL]
 |x::l,h=>by
   simp only[NdQL];exact⟨h x (by simp),NdQL.of fun y hy=>h y (by simp[hy])⟩
theorem NdQ.kid{x y:Nd}(h:NdQ x)(hy:y∈x.un.2.2.1):NdQ y:=by
 cases x;simp only[NdQ]at h;exact h.2.mem hy
theorem NdQ.of{p:NdP}(h1:p.2.2.2.2.2.size≤maxLen)(h2: ∀y∈p.2.2.1,NdQ y):NdQ (Nd.of p):=by
 show NdQ (.mk _ _ _ _ _ _);simp only[NdQ];exact⟨h1,.of h2⟩
section
variable {P:Program}{E:Env}{w:World}{C:Cx}{ρ:View}{hs:List Hl}{d:Option Tmp}{ty:TypeId}{pos:String}{af:Array Edge}{g:Option (Nat×Bool)}
variable {α β:Type}{e:Enc α}{r:Enc β}{v:Value}{us cs:List Value}{xs:List (List α×β)}
def NSH(e:Enc α)(r:Enc β)(v:Value)(us:List Value)(xs:List (List α×β))(j:Nat):Hl where
 fp:=vblk v++(us.eraseIdx j).flatMap vblk
 P h:= ∃cs,(Arr v (1+r.n) cs).P h∧FamP e h (us.eraseIdx j) ((xs.map (·.1)).eraseIdx j)∧us.length=xs.length∧rdL (eP eH r) nov (us.zip (xs.map (·.2))) cs
 loc he hp:=by
  obtain⟨cs,h1,h2,h3,h4⟩:=hp;exact⟨cs,(Arr v (1+r.n) cs).loc (fun b hb=>he b (List.mem_append.2 (.inl hb))) h1,FamP.loc (fun b hb=>he b (List.mem_append.2 (.inr hb))) h2,h3,h4⟩
theorem Hp.stake{j:Nat}{u:Value}{x:List α×β}(H:Hp C w ρ (NS e r v us xs::hs))(hu:us[j]? =some u)(hx:xs[j]? =some x): ∃c,rdL e ρ x.1 c∧Hp C w ρ (Arr u e.n c::NSH e r v us xs j::hs):=by
 obtain⟨cs,h1,h2,h3⟩:=H.head;obtain⟨u',c,g1,_,g2,g3⟩:=fam_us h2 hx;obtain rfl:=Option.some.inj (hu.symm.trans g1);refine⟨c,rdL.up (nov_le ρ) g3,H.conv ?_ fun h hh=>?_⟩
 ·simp only[fps_cons,NS,NSH,Arr];rw[←List.append_assoc];refine List.Perm.append_right _ ?_;refine((perm_erase vblk hu).append_left (vblk v)).trans ?_;rw[←List.append_assoc,←List.append_assoc];exact(List.perm_append_comm).append_right _
 rcases List.mem_cons.1 hh with rfl|hh
 ·exact g2
 rcases List.mem_cons.1 hh with rfl|hh
 ·exact⟨cs,h1,h2.erase j,by simpa using h2.len,h3⟩
 exact H.all h (by simp[hh])
theorem E_stSu{T:TypeId}{x y:Operand}{by_ b o:Nat}{i:Int}{z u:Value}{a:List α×β}{y':List α}{c:List Value}{ys:List (List α×β)}(hf:Flat e)(H:Hp C w ρ (Arr u e.n c::NSH e r v us xs i.toNat::hs))(hx:idx xs i=some a)(hty:Ty P T 1 by_ z false)(hi:IdxOk v i (1+r.n) b o)
 (hxe:ev E x=some (.pointer (some ⟨b,o,none⟩))) (hy:ev E y=some u) (hr:rdL e ρ y' c) (hs1:setI xs i (y',a.2)=some ys):
 Eff P E ⟨d,.store T x y,ty,pos,af,g⟩ w (fun v' w'=>v'=undef∧Hp C w' ρ (NS e r v (us.set i.toNat u) ys::hs)):=by
 obtain⟨_,_,rfl⟩:=setI_some hs1;obtain⟨h0,hlt,hx'⟩:=idx_some hx;obtain⟨cs,h1,h2,h3,h4⟩:=H.tail.head;have hu:=arr_cells H.head;have hlen:i.toNat<us.length:=by omega
 have hlen4:=h4.len;have hn:(eP eH r).n=1+r.n:=rfl;rw[hn]at hlen4;have hzl:(us.zip (xs.map (·.2))).length=us.length:=by simp;omega
 have hcl:i.toNat*(1+r.n)+(1+r.n)≤cs.length:=by
  rw[hlen4,hzl];have:=Nat.mul_le_mul_right (1+r.n) (show i.toNat+1≤us.length by omega);rwa[Nat.add_mul,Nat.one_mul]at this
 have H2:Hp C w ρ (Arr v (1+r.n) cs::Arr u e.n c::Fm e (us.eraseIdx i.toNat) ((xs.map (·.1)).eraseIdx i.toNat)::hs):=H.conv (by
  simp only[fps_cons,NSH,Arr,Fm,List.append_assoc]
  exact List.perm_append_comm_assoc _ _ _) fun h hh=>by
   rcases List.mem_cons.1 hh with rfl|hh
   ·exact h1
   rcases List.mem_cons.1 hh with rfl|hh
   ·exact H.head
   rcases List.mem_cons.1 hh with rfl|hh
   ·exact h2
   exact H.all h (by simp[hh])
 refine(E_stAu (k:=0) (j:=0) (c:=[u]) H2 rfl hty hi hxe hy hu.1 rfl (one_cons hu.2 one_nil) (by omega)).mono fun _ w' Hw=>⟨Hw.1,?_⟩;replace Hw:=Hw.2;have Hw:Hp C w' ρ (Arr v (1+r.n) (setC cs (i.toNat*(1+r.n)+0) [u])::Arr u e.n c::Fm e (us.eraseIdx i.toNat) ((xs.map (·.1)).eraseIdx i.toNat)::hs):=Hw;have hset:(us.set i.toNat u)[i.toNat]? =some u:=List.getElem?_set_self hlen;have her:(us.set i.toNat u).eraseIdx i.toNat=us.eraseIdx i.toNat:=by rw[List.eraseIdx_set_eq]
 have hmap:(xs.set i.toNat (y',a.2)).map (·.1)=(xs.map (·.1)).set i.toNat y':=by rw[List.map_set]
 have hmap2:(xs.set i.toNat (y',a.2)).map (·.2)=xs.map (·.2):=by
  rw[List.map_set];apply List.ext_getElem?;intro q;by_cases hq:i.toNat=q
  ·subst hq;rw[List.getElem?_set_self (by simpa using hlt),List.getElem?_map,hx'];rfl
  rw[List.getElem?_set_ne hq]
 refine Hw.conv ?_ fun h hh=>?_
 ·simp only[fps_cons,NS,Arr,Fm];rw[←List.append_assoc,←List.append_assoc];refine List.Perm.append_right _ ?_;have:=((perm_erase vblk hset).append_left (vblk v)).symm;rw[her,←List.append_assoc]at this;exact this
 rcases List.mem_cons.1 hh with rfl|hh
 ·refine⟨_,Hw.head,?_,?_⟩
  ·rw[hmap];exact FamP.put Hw.tail.tail.head hlen (by simpa using hlt) Hw.tail.head (rdL.flat hf hr)
  rw[hmap2];have hil:i.toNat<(us.zip (xs.map (·.2))).length:=by rw[hzl];exact hlen
  have hg0:(us.zip (xs.map (·.2)))[i.toNat]? =some (us[i.toNat],a.2):=by
   rw[List.getElem?_zip_eq_some];exact⟨List.getElem?_eq_getElem hlen,by rw[List.getElem?_map,hx'];rfl⟩
  have hg:=h4.get hg0;rw[hn]at hg;obtain⟨c1,c2,q1,⟨q2,q3⟩,q4⟩:=hg;subst q2;rw[←setC_in (n:=1+r.n) (by simp) hcl,q1];have e1:setC ([us[i.toNat]]++c2) 0 [u]= [u]++c2:=by simp[setC]
  rw[e1];have:=rdL.set (x:=(u,a.2)) h4 hil (c:=[u]++c2) ⟨[u],c2,rfl,⟨rfl,hu.2⟩,q4⟩
  have e2:(us.zip (xs.map (·.2))).set i.toNat (u,a.2)=(us.set i.toNat u).zip (xs.map (·.2)):=by
   apply List.ext_getElem?;intro q;by_cases hq:i.toNat=q
   ·subst hq;rw[List.getElem?_set_self hil];symm;rw[List.getElem?_zip_eq_some];exact⟨hset,by rw[List.getElem?_map,hx'];rfl⟩
   rw[List.getElem?_set_ne hq];simp only[List.zip,List.getElem?_zipWith,List.getElem?_set_ne hq]
  rwa[e2]at this
 exact Hw.all h (by simp[hh])
theorem Hp.nilNS(e:Enc α)(r:Enc β)(H:Hp C w ρ hs):Hp C w ρ (NS e r (.slice none 0 0) [] []::hs):=
 (H.nilArr (1+r.n)).conv (by simp[fps_cons,NS,Arr,vblk]) fun h hh=>by
  rcases List.mem_cons.1 hh with rfl|hh
  ·exact⟨[],.inl ⟨rfl,rfl⟩,rfl,rfl⟩
  exact H.all h hh
theorem Hp.sfrz(hen:0<e.n)(H:Hp C w ρ (NS e r v us xs::hs)): ∃ρ',View.le ρ ρ'∧Hp C w ρ' hs∧RdSl ρ' (eP (eL e) r) v xs:=by
 obtain⟨ρ',hl,H',hp⟩:=H.freeze;exact⟨ρ',hl,H',ns_rd hen hl hp⟩
end
open Go Go.Proofs Go.Sort
def sortI(xs:List Int):Option (List Int):=if xs.length<4611686018427387904 then some (xs.mergeSort fun x y=>decide (x≤y))else none
theorem rdLI{ρ:View}: ∀{xs:List Int} {cs:List Value},rdL (eI .i64) ρ xs cs↔cs=xs.map (Value.int .i64)
 | [],cs=>by simp[rdL]
 |x::xs,cs=>by
   constructor
   ·rintro⟨c,d,rfl,h1,h2⟩;obtain rfl:=rdLI.1 h2;obtain rfl:c= [_]:=h1;rfl
   rintro rfl;exact⟨[_],_,rfl,rfl,rdLI.2 rfl⟩
section
variable {P:Program}{ren:Shelf.Ren}{w:World}{C:Cx}{ρ:View}{hs:List Hl}
theorem c_sortI(L:Lays.n189 P ren){f:FuncId}(hf:ren.f 189=f){v:Value}{c:List Value}{xs ys:List Int}(H:Hp C w ρ (Arr v 1 c::hs))(hr:rdL (eI .i64) ρ xs c)(hF:sortI xs=some ys):
 Calls P f [v].toArray w (Rets fun u w'=>u= .tuple [].toArray∧rdL (eI .i64) ρ ys (ys.map (Value.int .i64))∧Hp C w' ρ (Arr v 1 (ys.map (Value.int .i64))::hs)):=by
 subst hf;unfold sortI at hF;split at hF
 ·rename_i h3;obtain rfl:=(Option.some.inj hF).symm;obtain rfl:=rdLI.1 hr;rcases H.all _ (List.mem_cons_self ..)with⟨rfl,hn⟩|⟨b,o,len,cap,cur,T,rfl,a1,a2,a3,a4,a5⟩
  ·have hx:xs= []:=by simpa using hn
   subst hx;refine(Any.slices_Sort_int_none L none 0 w).mono fun e w' he=>?_;obtain⟨rfl,rfl⟩:=he;exact⟨_,rfl,rfl,rdLI.2 rfl,by simpa using H⟩
  have hlen:len=xs.length:=by simp at a1;omega
  subst hlen;have a4':w.heap[b]? =some (.cells cur T (0,0)):=a4;have hblk:b<w.heap.size:=lt_of_hv a4
  have hH:Holds (Value.int .i64) w b o xs.toArray:=by
   intro j hj;simp only[List.size_toArray]at hj
   have hg:cur[o+j]? =some (Value.int .i64 xs.toArray[j]!):=by
    have h7:=congrArg (fun l:List Value=>l[j]?) a5;simp only[List.getElem?_take,List.getElem?_drop,List.length_map,if_pos hj,Array.getElem?_toList,List.getElem?_map]at h7;rw[h7,List.getElem?_eq_getElem hj,getElem!_pos xs.toArray j (by simpa using hj)];simp
   refine⟨?_,?_⟩
   ·simp[World.cell?,a4',hg]
   simp[World.frozen?,a4']
  refine(Any.slices_Sort_int L b o cap xs w hH hblk h3).mono fun e w' he=>?_;obtain⟨rfl,n,os,rfl⟩:=he;have hpl:(xs.mergeSort fun x y=>decide (x≤y)).length=xs.length:=List.length_mergeSort xs;generalize(xs.mergeSort fun x y=>decide (x≤y))=d' at hpl;refine⟨_,rfl,rfl,rdLI.2 rfl,?_⟩
  have hwb:(grow (putRow (Value.int .i64) (Sort.ahead w n) b o d'.toArray) os).heap[b]? =some (.cells (putCells (Value.int .i64) o d'.toArray cur) T (0,0)):=by
   simp only[grow,putRow,mapBlock,Sort.ahead];rw[Array.getElem?_append_left (by simpa using hblk),Array.getElem?_modify,if_pos rfl];show Option.map _ w.heap[b]? =_;rw[a4'];rfl
  refine H.upd (k:=0) (h':=Arr (.slice (some ⟨b,o,none⟩) xs.length cap) 1 (d'.map (Value.int .i64))) rfl rfl ⟨rfl,Nat.le_add_right _ _⟩ rfl (by simp[grow,putRow,mapBlock,Sort.ahead]) (fun b' hb' hn=>?_) (by simp[Arr,vblk]) (fun b' hb'=> .inl hb') (fun b' hb'=>?_) ?_
  ·have hne:b≠b':=fun e=>hn (by simp[Arr,vblk,e]);simp only[grow,putRow,mapBlock,Sort.ahead];rw[Array.getElem?_append_left (by simpa using hb'),Array.getElem?_modify,if_neg hne]
  ·simp[Arr,vblk]at hb';subst hb';simp[grow,putRow,mapBlock,Sort.ahead];omega
  refine .inr ⟨b,o,xs.length,cap,putCells (Value.int .i64) o d'.toArray cur,T,rfl,by simp[hpl],a2,by simpa[putCells]using a3,hwb,?_⟩;apply List.ext_getElem?;intro j;simp only[List.length_map,hpl,List.getElem?_take,List.getElem?_drop,Array.getElem?_toList,List.getElem?_map];have a1':xs.length=xs.length*1:=by omega
  by_cases hj:j<xs.length
  ·rw[if_pos hj];have hl5:=congrArg List.length a5;simp only[List.length_map,List.length_take,List.length_drop,Array.length_toList]at hl5;have hc:o+j<cur.size:=by omega
   have hz:j<d'.length:=by omega
   simp[putCells,Array.getElem?_eq_getElem hc,hz]
  rw[if_neg hj,List.getElem?_eq_none (by omega)];rfl
 cases hF
end
def MR{α β:Type}(e:Enc β)(ρ:View):List (α×Value)→List (α×β)→Prop
 | [],[]=>True
 |p::l,q::m=>p.1=q.1∧(∃cs:List Value,p.2= .agg cs.toArray∧e.rd ρ q.2 cs)∧MR e ρ l m
 |_,_=>False
section
variable {α β:Type}{e:Enc β}{ρ ρ':View}
theorem MR.nil:MR (α:=α) e ρ [] []:=trivial
theorem MR.up(hl:View.le ρ ρ'): ∀{l:List (α×Value)} {m:List (α×β)},MR e ρ l m→MR e ρ' l m
 | [],[],_=>trivial
 |_::_,_::_,⟨h1,⟨cs,h2,h3⟩,h4⟩=>⟨h1,⟨cs,h2,e.up hl h3⟩,MR.up hl h4⟩
 | [],_::_,h=>h.elim
 |_::_,[],h=>h.elim
theorem MR.len: ∀{l:List (α×Value)} {m:List (α×β)},MR e ρ l m→l.length=m.length
 | [],[],_=>rfl
 |_::_,_::_,⟨_,_,h4⟩=>by simp[MR.len h4]
 | [],_::_,h=>h.elim
 |_::_,[],h=>h.elim
variable [BEq α]
theorem mget_cons{γ:Type}(p:α×γ)(l:List (α×γ))(k:α):mget (p::l) k=if p.1==k then some p.2 else mget l k:=by
 unfold mget;rw[List.find?_cons];cases p.1==k<;>rfl
theorem MR.get(k:α){z:β}{zs:List Value}(hz:e.rd ρ z zs): ∀{l:List (α×Value)} {m:List (α×β)},MR e ρ l m→ ∃cs:List Value,(mget l k).getD (.agg zs.toArray)= .agg cs.toArray∧(mget l k).isSome=(mget m k).isSome∧e.rd ρ ((mget m k).getD z) cs
 | [],[],_=>⟨zs,rfl,rfl,hz⟩
 |p::l,q::m,⟨h1,⟨cs,h2,h3⟩,h4⟩=>by
   rw[mget_cons,mget_cons,h1]
   cases q.1==k with
   |true=>exact⟨cs,h2,rfl,h3⟩
   |false=>exact MR.get k hz h4
 | [],_::_,h=>h.elim
 |_::_,[],h=>h.elim
theorem mset_cons{γ:Type}(p:α×γ)(l:List (α×γ))(k:α)(v:γ):mset (p::l) k v=if p.1==k then(k,v)::l else p::mset l k v:=by
 unfold mset;rw[List.findIdx?_cons]
 cases p.1==k with
 |true=>rfl
 |false=>
   simp only[Bool.false_eq_true,if_false]
   cases l.findIdx? fun e=>e.1==k with
   |none=>rfl
   |some i=>rfl
theorem MR.set{k:α}{x:β}{cs:List Value}(hx:e.rd ρ x cs): ∀{l:List (α×Value)} {m:List (α×β)},MR e ρ l m→MR e ρ (mset l k (.agg cs.toArray)) (mset m k x)
 | [],[],_=>⟨rfl,⟨cs,rfl,hx⟩,trivial⟩
 |p::l,q::m,⟨h1,h2,h4⟩=>by
   rw[mset_cons,mset_cons,h1]
   cases q.1==k with
   |true=>exact⟨rfl,⟨cs,rfl,hx⟩,h4⟩
   |false=>exact⟨h1,h2,MR.set hx h4⟩
 | [],_::_,h=>h.elim
 |_::_,[],h=>h.elim
end
end Go.Eng
namespace Go.Eng
open Go
abbrev iV(x:Int):Value:= .int .i64 x
abbrev uV(x:Int):Value:= .int .u64 x
abbrev pV(b k:Nat):Value:= .pointer (some ⟨b,k,none⟩)
theorem oi{α:Type _}{a b:α}(h:some a=some b):a=b:=Option.some.inj h
theorem J{α:Sort _}{a:α}:a=a:=rfl
section
variable {P:Program}{ops:Array Oper}{Q:Exit→Act→World→Prop}{n:FN}{E:Env}{w:World}{ro:Option Nat}{d:Option Tmp}{ty:TypeId}{pos:String}{af:Array Edge}
theorem qm{rest:List Oper}{x:Operand}{v:Value}(hx:ev E x=some v)(hd:inN n d=true)(h:WL P ops Q rest n (putE E d v) w):WL P ops Q (⟨d,.move x,ty,pos,af,none⟩::rest) n E w:=nq (Q_move hx) rfl hd h
theorem qa{x:Operand}{v:Value}{y:Code}(hx:ev E x=some v)(hd:inN n d=true)(h:CW ro P y Q n (putE E d v) w):WL P ops (Exit.then (y.wpIn (Fx ro) 0 P Q) Q) [⟨d,.assign x,ty,pos,af,none⟩] n E w:=nq (Q_assign hx) rfl hd (WL_nil (x_then h))
theorem sr{y:Code}{id:Nat}{l:List Oper}(h:WL P l.toArray (Exit.then (y.wpIn (Fx ro) 0 P Q) Q) l n E w)(hn:l.all nodef=true:=by kernel_rfl):CW ro P (.seq (.region id l.toArray false) y) Q n E w:=C_seq (R_nd h hn)
theorem xs{y:Code}{id:Nat}{l:List Oper}(h:WL P l.toArray (Exit.then (y.wpIn (Fx ro) 0 P Q) Q) l n E w)(hn:l.all nodef=true:=by kernel_rfl):XX (Exit.then ((Code.seq (.region id l.toArray false) y).wpIn (Fx ro) 0 P Q) Q) .normal n E w:=x_then (C_seq (R_nd h hn))
end
end Go.Eng
namespace Go.Eng
open Go
abbrev nS:Value:= .slice none 0 0
abbrev K5:=eI .i64
abbrev K4:=eI .u64
abbrev K6:=eL K5
abbrev K7:=eA 256 K5
abbrev K8:=eP K4 (eP K4 (eP K4 K4))
abbrev K9:=eP K6 (eP K8 (eP K5 K5))
abbrev sV(b k l c:Nat):Value:= .slice (some ⟨b,k,none⟩) l c
abbrev ln{α:Type _}(l:List α):Int:=l.length
abbrev vR{ρ:View}:=View.le_refl ρ
abbrev LI:=List Int
theorem Om{p:Prop}(h:p:=by omega):p:=h
theorem mm{α:Type _}{a b:α}{l:List α}(h:a∈l):a∈b::l:=List.mem_cons_of_mem _ h
theorem ms{α:Type _}{a:α}{l:List α}:a∈a::l:=List.mem_cons_self ..
theorem tF{P:Program}{f:FuncId}{fn:Func}{c:Code}(h:P.funcs[f]? =some fn)(hn:(fn.name== "runtime.NumGoroutine")=false:=by kernel_rfl)(hb:fn.body=some c:=by exact rfl):HasFn P f:=⟨fn,c,h,hn,hb⟩
theorem tK{P:Program}{T:TypeId}{n bytes:Nat}{zero:Value}{agg:Bool}(h1:(P.info? T).map (fun i=>(i.size,i.bytes,i.zero))=some (n,bytes,some zero):=by kernel_rfl)(h2:(P.underlying T).map (fun d=>match d with| .struct _| .array _ _=>true|_=>false)=some agg:=by kernel_rfl):Ty P T n bytes zero agg:=⟨h1,h2⟩
theorem Dc{p:Prop}(h:p:=by decide):p:=h
theorem Sm{p:Prop}(h:p:=by simp):p:=h
theorem fJ{β:Sort _}{α:Sort _}{f:β→α}: ∀x,f x=f x:=fun _=>rfl
theorem nM{p:Prop}:true=false→p:=fun h=>nomatch h
theorem Fr.sb{n:FN}{a:Act}{E E':Env}(h:Fr n a E)(hs:subE E' E:=by repeat (first|exact trivial|refine⟨rfl,?_⟩)):Fr n a E':=h.sub hs
theorem Ci{P:Program}{Q:Exit→Act→World→Prop}{n:FN}{E:Env}{w:World}{ro:Option Nat}{c:Operand}{b:Bool}{x y:Code}{α:Type}{X Y Z:Option α}(hF:(if b=true then X else Y)=Z)(hc:ev E c=some (.bool b))(h1:X=Z→CW ro P x Q n E w)(h2:Y=Z→CW ro P y Q n E w):CW ro P (.cond c x y) Q n E w:=C_cond hc (fun hb=>h1 (itT hb hF)) (fun hb=>h2 (itF hb hF))
section
variable {P:Program}{ops:Array Oper}{Q:Exit→Act→World→Prop}{n:FN}{E:Env}{w:World}{ro:Option Nat}{d:Option Tmp}{ins:Op}{ty:TypeId}{pos:String}{af:Array Edge}{rest:List Oper}{v:Value}{post:Value→World→Prop}{S:World→Prop}{r:Ord}{i j:Nat}{b:Bool}
theorem nQ(hq:Qv P E ⟨d,ins,ty,pos,af,none⟩ v w)(h:WL P ops Q rest n (putE E d v) w)(hd:inN n d=true:=by exact rfl):WL P ops Q (⟨d,ins,ty,pos,af,none⟩::rest) n E w:=nq hq rfl hd h
theorem nE(he:Eff P E ⟨d,ins,ty,pos,af,none⟩ w post)(h: ∀v w',post v w'→WL P ops Q rest n (putE E d v) w')(hd:inN n d=true:=by exact rfl):WL P ops Q (⟨d,ins,ty,pos,af,none⟩::rest) n E w:=ne he rfl hd h
theorem gQ(hq:Qv P E ⟨d,ins,ty,pos,af,some (j,b)⟩ v w)(h:WL P ops Q rest n (putE E d v) w)(hj:gd ops E j=some b:=by exact rfl)(hd:inN n d=true:=by exact rfl):WL P ops Q (⟨d,ins,ty,pos,af,some (j,b)⟩::rest) n E w:=gq hq rfl hj hd h
theorem gE(he:Eff P E ⟨d,ins,ty,pos,af,some (j,b)⟩ w post)(h: ∀v w',post v w'→WL P ops Q rest n (putE E d v) w')(hj:gd ops E j=some b:=by exact rfl)(hd:inN n d=true:=by exact rfl):WL P ops Q (⟨d,ins,ty,pos,af,some (j,b)⟩::rest) n E w:=ge he rfl hj hd h
theorem gS(h:WL P ops Q rest n (putE E d undef) w)(hj:gd ops E j=some (!b):=by exact rfl)(hd:inN n d=true:=by exact rfl):WL P ops Q (⟨d,ins,ty,pos,af,some (j,b)⟩::rest) n E w:=gs rfl hj (by cases b<;>rfl) hd h
theorem qM{x:Operand}(hx:ev E x=some v)(h:WL P ops Q rest n (putE E d v) w)(hd:inN n d=true:=by exact rfl):WL P ops Q (⟨d,.move x,ty,pos,af,none⟩::rest) n E w:=nq (Q_move hx) rfl hd h
theorem qA{x:Operand}{y:Code}(hx:ev E x=some v)(h:CW ro P y Q n (putE E d v) w)(hd:inN n d=true:=by exact rfl):WL P ops (Exit.then (y.wpIn (Fx ro) 0 P Q) Q) [⟨d,.assign x,ty,pos,af,none⟩] n E w:=qa hx hd h
theorem wt{y:Code}(h:CW ro P y Q n E w):WL P ops (Exit.then (y.wpIn (Fx ro) 0 P Q) Q) [] n E w:=WL_nil (x_then h)
theorem dQ(hi:ops[i]? =some ⟨d,ins,ty,pos,af,none⟩)(hq: ∀w',S w'→Qv P E ⟨d,ins,ty,pos,af,none⟩ v w')(h:DL P ops S Q r n (putE E d v) w)(hd:inN n d=true:=by exact rfl):DL P ops S Q (.take i r) n E w:=dq hi hq rfl hd h
theorem dE(hi:ops[i]? =some ⟨d,ins,ty,pos,af,none⟩)(he:Eff P E ⟨d,ins,ty,pos,af,none⟩ w post)(h: ∀v w',post v w'→S w'∧DL P ops S Q r n (putE E d v) w')(hd:inN n d=true:=by exact rfl):DO P ops S Q i r n E w:=de hi he rfl hd h
theorem dB{K:Option Nat}(hi:ops[i]? =some ⟨d,ins,ty,pos,af,none⟩)(he:Eff P E ⟨d,ins,ty,pos,af,none⟩ w post)(h: ∀v w',post v w'→ ∃S',S' w'∧DL P ops S' Q r n (putE E d v) w')(hd:inN n d=true:=by exact rfl):DL P ops S Q (.bar i K r) n E w:=db hi he rfl hd h
theorem fc{f:FuncId}{fn:Func}{c:Code}{args:List Value}{R:Ending→World→Prop}(n:Nat)(hf:P.funcs[f]? =some fn)(hb:fn.body=some c)(h:CW none P c (bodyPost P fn R) (FN.of n) (argE 0 args) w)(hnt:fn.ntmps=n:=by exact rfl)(hn:args.length≤n:=by simp):Calls P f args.toArray w R:=fn_calls' hf hb hnt hn h
end
abbrev Q1(x0 x1 x2 x3 x4:Int)(x5:Value)(x6 x7:Int)(x8:BA):List Value:=[iV x0,uV x1,uV x2,uV x3,uV x4,x5,iV x6,iV x7,.string x8]
abbrev Q3(x0 x1 x2 x3 x4:Int)(x5:Value)(x6 x7:Int)(x8:BA):Value:= .agg #[iV x0,uV x1,uV x2,uV x3,uV x4,x5,iV x6,iV x7,.string x8]
abbrev Q4:List Value:=[.int .u8 111,.int .u8 110,.int .u8 32,.int .u8 109,.int .u8 97,.int .u8 105,.int .u8 110,.int .u8 32,.int .u8 47,.int .u8 97,.int .u8 43,.int .u8 47,.int .u8 32,.int .u8 101,.int .u8 109,.int .u8 105,.int .u8 116,.int .u8 32,.int .u8 120]
abbrev Q5(x0:Int):List Value:=[iV x0,uV x0,uV x0,uV x0,uV x0,nS,iV x0,iV x0,.string ByteArray.empty]
abbrev Q6(x0 x1 x2:Int)(x3:BA):List Value:=[iV x0,iV x1,iV x2,.string x3]
abbrev Q7(x0:BA):List Value:=[.string x0,.string (⟨#[32]⟩:BA)]
abbrev Q8(x0:BA)(x1 x2:Int):List Value:=[.string x0,iV x1,iV x2,.nilIface]
abbrev Q9(x0:Int)(x1 x2:BA)(x3:Int)(x4:Value):List Value:=[iV x0,.string x1,.string x2,iV x3,x4]
end Go.Eng
