import Derived.Test.YtnkednnnkifenaaGreatDoorNfaFilesE1
namespace Go.Eng
open Go
set_option maxRecDepth 100000
section
variable {P:Program}{E:Env}{w:World}{C:Cx}{ρ:View}{hs:List Hl}{d:Option Tmp}{ty:TypeId}{pos:String}{af:Array Edge}{g:Option (Nat×Bool)}
variable {α β:Type}{e:Enc α}{r:Enc β}{v:Value}{us cs:List Value}{xs:List (List α×β)}
def NSH(e:Enc α)(r:Enc β)(v:Value)(us:List Value)(xs:List (List α×β))(j:Nat):Hl where
 fp:=vblk v++(us.eraseIdx j).flatMap vblk
 P h:= ∃cs,(Arr v (1+r.n) cs).P h∧FamP e h (us.eraseIdx j) ((xs.map (·.1)).eraseIdx j)∧us.length=xs.length∧rdL (eP eH r) nov (us.zip (xs.map (·.2))) cs
 loc he hp:=by
  obtain⟨cs,h1,h2,h3,h4⟩:=hp;exact⟨cs,(Arr v (1+r.n) cs).loc (fun b hb=>he b (List.mem_append.2 (.inl hb))) h1,FamP.loc (fun b hb=>he b (List.mem_append.2 (.inr hb))) h2,h3,h4⟩
theorem Hp.stake{j:Nat}{u:Value}{x:List α×β}(H:Hp C w ρ (NS e r v us xs::hs))(hu:us[j]? =some u)(hx:xs[j]? =some x): ∃c,rdL e ρ x.1 c∧Hp C w ρ (Arr u e.n c::NSH e r v us xs j::hs):=by
 obtain⟨cs,h1,h2,h3⟩:=H.head;obtain⟨u',c,g1,_,g2,g3⟩:=fam_us h2 hx;obtain rfl:=Option.some.inj (hu.symm.trans g1);refine⟨c,rdL.up (nov_le ρ) g3,H.conv ?_ fun h hh=>?_⟩
 ·simp only[fps_cons,NS,NSH,Arr];rw[←List.append_assoc];refine List.Perm.append_right _ ?_;refine((perm_erase vblk hu).append_left (vblk v)).trans ?_;rw[←List.append_assoc,←List.append_assoc];exact(List.perm_append_comm).append_right _
 rcases List.mem_cons.1 hh with rfl|hh
 ·exact g2
 rcases List.mem_cons.1 hh with rfl|hh
 ·exact⟨cs,h1,h2.erase j,by simpa using h2.len,h3⟩
 exact H.all h (by simp[hh])
theorem E_stSu{T:TypeId}{x y:Operand}{by_ b o:Nat}{i:Int}{z u:Value}{a:List α×β}{y':List α}{c:List Value}{ys:List (List α×β)}(hf:Flat e)(H:Hp C w ρ (Arr u e.n c::NSH e r v us xs i.toNat::hs))(hx:idx xs i=some a)(hty:Ty P T 1 by_ z false)(hi:IdxOk v i (1+r.n) b o)
 (hxe:ev E x=some (.pointer (some ⟨b,o,none⟩))) (hy:ev E y=some u) (hr:rdL e ρ y' c) (hs1:setI xs i (y',a.2)=some ys):
 Eff P E ⟨d,.store T x y,ty,pos,af,g⟩ w (fun v' w'=>v'=undef∧Hp C w' ρ (NS e r v (us.set i.toNat u) ys::hs)):=by
 obtain⟨_,_,rfl⟩:=setI_some hs1;obtain⟨h0,hlt,hx'⟩:=idx_some hx;obtain⟨cs,h1,h2,h3,h4⟩:=H.tail.head;have hu:=arr_cells H.head;have hlen:i.toNat<us.length:=by omega
 have hlen4:=h4.len;have hn:(eP eH r).n=1+r.n:=rfl;rw[hn]at hlen4;have hzl:(us.zip (xs.map (·.2))).length=us.length:=by simp;omega
 have hcl:i.toNat*(1+r.n)+(1+r.n)≤cs.length:=by
  rw[hlen4,hzl];have:=Nat.mul_le_mul_right (1+r.n) (show i.toNat+1≤us.length by omega);rwa[Nat.add_mul,Nat.one_mul]at this
 have H2:Hp C w ρ (Arr v (1+r.n) cs::Arr u e.n c::Fm e (us.eraseIdx i.toNat) ((xs.map (·.1)).eraseIdx i.toNat)::hs):=H.conv (by
  simp only[fps_cons,NSH,Arr,Fm,List.append_assoc]
  exact List.perm_append_comm_assoc _ _ _) fun h hh=>by
   rcases List.mem_cons.1 hh with rfl|hh
   ·exact h1
   rcases List.mem_cons.1 hh with rfl|hh
   ·exact H.head
   rcases List.mem_cons.1 hh with rfl|hh
   ·exact h2
   exact H.all h (by simp[hh])
 refine(E_stAu (k:=0) (j:=0) (c:=[u]) H2 rfl hty hi hxe hy hu.1 rfl (one_cons hu.2 one_nil) (by omega)).mono fun _ w' Hw=>⟨Hw.1,?_⟩;replace Hw:=Hw.2;have Hw:Hp C w' ρ (Arr v (1+r.n) (setC cs (i.toNat*(1+r.n)+0) [u])::Arr u e.n c::Fm e (us.eraseIdx i.toNat) ((xs.map (·.1)).eraseIdx i.toNat)::hs):=Hw;have hset:(us.set i.toNat u)[i.toNat]? =some u:=List.getElem?_set_self hlen;have her:(us.set i.toNat u).eraseIdx i.toNat=us.eraseIdx i.toNat:=by rw[List.eraseIdx_set_eq]
 have hmap:(xs.set i.toNat (y',a.2)).map (·.1)=(xs.map (·.1)).set i.toNat y':=by rw[List.map_set]
 have hmap2:(xs.set i.toNat (y',a.2)).map (·.2)=xs.map (·.2):=by
  rw[List.map_set];apply List.ext_getElem?;intro q;by_cases hq:i.toNat=q
  ·subst hq;rw[List.getElem?_set_self (by simpa using hlt),List.getElem?_map,hx'];rfl
  rw[List.getElem?_set_ne hq]
 refine Hw.conv ?_ fun h hh=>?_
 ·simp only[fps_cons,NS,Arr,Fm];rw[←List.append_assoc,←List.append_assoc];refine List.Perm.append_right _ ?_;have:=((perm_erase vblk hset).append_left (vblk v)).symm;rw[her,←List.append_assoc]at this;exact this
 rcases List.mem_cons.1 hh with rfl|hh
 ·refine⟨_,Hw.head,?_,?_⟩
  ·rw[hmap];exact FamP.put Hw.tail.tail.head hlen (by simpa using hlt) Hw.tail.head (rdL.flat hf hr)
  rw[hmap2];have hil:i.toNat<(us.zip (xs.map (·.2))).length:=by rw[hzl];exact hlen
  have hg0:(us.zip (xs.map (·.2)))[i.toNat]? =some (us[i.toNat],a.2):=by
   rw[List.getElem?_zip_eq_some];exact⟨List.getElem?_eq_getElem hlen,by rw[List.getElem?_map,hx'];rfl⟩
  have hg:=h4.get hg0;rw[hn]at hg;obtain⟨c1,c2,q1,⟨q2,q3⟩,q4⟩:=hg;subst q2;rw[←setC_in (n:=1+r.n) (by simp) hcl,q1];have e1:setC ([us[i.toNat]]++c2) 0 [u]= [u]++c2:=by simp[setC]
  rw[e1];have:=rdL.set (x:=(u,a.2)) h4 hil (c:=[u]++c2) ⟨[u],c2,rfl,⟨rfl,hu.2⟩,q4⟩
  have e2:(us.zip (xs.map (·.2))).set i.toNat (u,a.2)=(us.set i.toNat u).zip (xs.map (·.2)):=by
   apply List.ext_getElem?;intro q;by_cases hq:i.toNat=q
   ·subst hq;rw[List.getElem?_set_self hil];symm;rw[List.getElem?_zip_eq_some];exact⟨hset,by rw[List.getElem?_map,hx'];rfl⟩
   rw[List.getElem?_set_ne hq];simp only[List.zip,List.getElem?_zipWith,List.getElem?_set_ne hq]
  rwa[e2]at this
 exact Hw.all h (by simp[hh])
theorem Hp.nilNS(e:Enc α)(r:Enc β)(H:Hp C w ρ hs):Hp C w ρ (NS e r (.slice none 0 0) [] []::hs):=
 (H.nilArr (1+r.n)).conv (by simp[fps_cons,NS,Arr,vblk]) fun h hh=>by
  rcases List.mem_cons.1 hh with rfl|hh
  ·exact⟨[],.inl ⟨rfl,rfl⟩,rfl,rfl⟩
  exact H.all h hh
theorem Hp.sfrz(hen:0<e.n)(H:Hp C w ρ (NS e r v us xs::hs)): ∃ρ',View.le ρ ρ'∧Hp C w ρ' hs∧RdSl ρ' (eP (eL e) r) v xs:=by
 obtain⟨ρ',hl,H',hp⟩:=H.freeze;exact⟨ρ',hl,H',ns_rd hen hl hp⟩
end
open Go Go.Proofs Go.Sort
def sortI(xs:List Int):Option (List Int):=if xs.length<4611686018427387904 then some (xs.mergeSort fun x y=>decide (x≤y))else none
theorem rdLI{ρ:View}: ∀{xs:List Int} {cs:List Value},rdL (eI .i64) ρ xs cs↔cs=xs.map (Value.int .i64)
 | [],cs=>by simp[rdL]
 |x::xs,cs=>by
   constructor
   ·rintro⟨c,d,rfl,h1,h2⟩;obtain rfl:=rdLI.1 h2;obtain rfl:c= [_]:=h1;rfl
   rintro rfl;exact⟨[_],_,rfl,rfl,rdLI.2 rfl⟩
section
variable {P:Program}{ren:Shelf.Ren}{w:World}{C:Cx}{ρ:View}{hs:List Hl}
theorem c_sortI(L:Lays.n189 P ren){f:FuncId}(hf:ren.f 189=f){v:Value}{c:List Value}{xs ys:List Int}(H:Hp C w ρ (Arr v 1 c::hs))(hr:rdL (eI .i64) ρ xs c)(hF:sortI xs=some ys):
 Calls P f [v].toArray w (Rets fun u w'=>u= .tuple [].toArray∧rdL (eI .i64) ρ ys (ys.map (Value.int .i64))∧Hp C w' ρ (Arr v 1 (ys.map (Value.int .i64))::hs)):=by
 subst hf;unfold sortI at hF;split at hF
 ·rename_i h3;obtain rfl:=(Option.some.inj hF).symm;obtain rfl:=rdLI.1 hr;rcases H.all _ (List.mem_cons_self ..)with⟨rfl,hn⟩|⟨b,o,len,cap,cur,T,rfl,a1,a2,a3,a4,a5⟩
  ·have hx:xs= []:=by simpa using hn
   subst hx;refine(Any.slices_Sort_int_none L none 0 w).mono fun e w' he=>?_;obtain⟨rfl,rfl⟩:=he;exact⟨_,rfl,rfl,rdLI.2 rfl,by simpa using H⟩
  have hlen:len=xs.length:=by simp at a1;omega
  subst hlen;have a4':w.heap[b]? =some (.cells cur T (0,0)):=a4;have hblk:b<w.heap.size:=lt_of_hv a4
  have hH:Holds (Value.int .i64) w b o xs.toArray:=by
   intro j hj;simp only[List.size_toArray]at hj
   have hg:cur[o+j]? =some (Value.int .i64 xs.toArray[j]!):=by
    have h7:=congrArg (fun l:List Value=>l[j]?) a5;simp only[List.getElem?_take,List.getElem?_drop,List.length_map,if_pos hj,Array.getElem?_toList,List.getElem?_map]at h7;rw[h7,List.getElem?_eq_getElem hj,getElem!_pos xs.toArray j (by simpa using hj)];simp
   refine⟨?_,?_⟩
   ·simp[World.cell?,a4',hg]
   simp[World.frozen?,a4']
  refine(Any.slices_Sort_int L b o cap xs w hH hblk h3).mono fun e w' he=>?_;obtain⟨rfl,n,os,rfl⟩:=he;have hpl:(xs.mergeSort fun x y=>decide (x≤y)).length=xs.length:=List.length_mergeSort xs;generalize(xs.mergeSort fun x y=>decide (x≤y))=d' at hpl;refine⟨_,rfl,rfl,rdLI.2 rfl,?_⟩
  have hwb:(grow (putRow (Value.int .i64) (Sort.ahead w n) b o d'.toArray) os).heap[b]? =some (.cells (putCells (Value.int .i64) o d'.toArray cur) T (0,0)):=by
   simp only[grow,putRow,mapBlock,Sort.ahead];rw[Array.getElem?_append_left (by simpa using hblk),Array.getElem?_modify,if_pos rfl];show Option.map _ w.heap[b]? =_;rw[a4'];rfl
  refine H.upd (k:=0) (h':=Arr (.slice (some ⟨b,o,none⟩) xs.length cap) 1 (d'.map (Value.int .i64))) rfl rfl ⟨rfl,Nat.le_add_right _ _⟩ rfl (by simp[grow,putRow,mapBlock,Sort.ahead]) (fun b' hb' hn=>?_) (by simp[Arr,vblk]) (fun b' hb'=> .inl hb') (fun b' hb'=>?_) ?_
  ·have hne:b≠b':=fun e=>hn (by simp[Arr,vblk,e]);simp only[grow,putRow,mapBlock,Sort.ahead];rw[Array.getElem?_append_left (by simpa using hb'),Array.getElem?_modify,if_neg hne]
  ·simp[Arr,vblk]at hb';subst hb';simp[grow,putRow,mapBlock,Sort.ahead];omega
  refine .inr ⟨b,o,xs.length,cap,putCells (Value.int .i64) o d'.toArray cur,T,rfl,by simp[hpl],a2,by simpa[putCells]using a3,hwb,?_⟩;apply List.ext_getElem?;intro j;simp only[List.length_map,hpl,List.getElem?_take,List.getElem?_drop,Array.getElem?_toList,List.getElem?_map];have a1':xs.length=xs.length*1:=by omega
  by_cases hj:j<xs.length
  ·rw[if_pos hj];have hl5:=congrArg List.length a5;simp only[List.length_map,List.length_take,List.length_drop,Array.length_toList]at hl5;have hc:o+j<cur.size:=by omega
   have hz:j<d'.length:=by omega
   simp[putCells,Array.getElem?_eq_getElem hc,hz]
  rw[if_neg hj,List.getElem?_eq_none (by omega)];rfl
 cases hF
end
open Go
set_option maxRecDepth 100000
def MR{α β:Type}(e:Enc β)(ρ:View):List (α×Value)→List (α×β)→Prop
 | [],[]=>True
 |p::l,q::m=>p.1=q.1∧(∃cs:List Value,p.2= .agg cs.toArray∧e.rd ρ q.2 cs)∧MR e ρ l m
 |_,_=>False
section
variable {α β:Type}{e:Enc β}{ρ ρ':View}
theorem MR.nil:MR (α:=α) e ρ [] []:=trivial
theorem MR.up(hl:View.le ρ ρ'): ∀{l:List (α×Value)} {m:List (α×β)},MR e ρ l m→MR e ρ' l m
 | [],[],_=>trivial
 |_::_,_::_,⟨h1,⟨cs,h2,h3⟩,h4⟩=>⟨h1,⟨cs,h2,e.up hl h3⟩,MR.up hl h4⟩
 | [],_::_,h=>h.elim
 |_::_,[],h=>h.elim
theorem MR.len: ∀{l:List (α×Value)} {m:List (α×β)},MR e ρ l m→l.length=m.length
 | [],[],_=>rfl
 |_::_,_::_,⟨_,_,h4⟩=>by simp[MR.len h4]
 | [],_::_,h=>h.elim
 |_::_,[],h=>h.elim
variable [BEq α]
theorem mget_cons{γ:Type}(p:α×γ)(l:List (α×γ))(k:α):mget (p::l) k=if p.1==k then some p.2 else mget l k:=by
 unfold mget;rw[List.find?_cons];cases p.1==k<;>rfl
theorem MR.get(k:α){z:β}{zs:List Value}(hz:e.rd ρ z zs): ∀{l:List (α×Value)} {m:List (α×β)},MR e ρ l m→ ∃cs:List Value,(mget l k).getD (.agg zs.toArray)= .agg cs.toArray∧(mget l k).isSome=(mget m k).isSome∧e.rd ρ ((mget m k).getD z) cs
 | [],[],_=>⟨zs,rfl,rfl,hz⟩
 |p::l,q::m,⟨h1,⟨cs,h2,h3⟩,h4⟩=>by
   rw[mget_cons,mget_cons,h1]
   cases q.1==k with
   |true=>exact⟨cs,h2,rfl,h3⟩
   |false=>exact MR.get k hz h4
 | [],_::_,h=>h.elim
 |_::_,[],h=>h.elim
theorem mset_cons{γ:Type}(p:α×γ)(l:List (α×γ))(k:α)(v:γ):mset (p::l) k v=if p.1==k then(k,v)::l else p::mset l k v:=by
 unfold mset;rw[List.findIdx?_cons]
 cases p.1==k with
 |true=>rfl
 |false=>
   simp only[Bool.false_eq_true,if_false]
   cases l.findIdx? fun e=>e.1==k with
   |none=>rfl
   |some i=>rfl
theorem MR.set{k:α}{x:β}{cs:List Value}(hx:e.rd ρ x cs): ∀{l:List (α×Value)} {m:List (α×β)},MR e ρ l m→MR e ρ (mset l k (.agg cs.toArray)) (mset m k x)
 | [],[],_=>⟨rfl,⟨cs,rfl,hx⟩,trivial⟩
 |p::l,q::m,⟨h1,h2,h4⟩=>by
   rw[mset_cons,mset_cons,h1]
   cases q.1==k with
   |true=>exact⟨rfl,⟨cs,rfl,hx⟩,h4⟩
   |false=>exact⟨h1,h2,MR.set hx h4⟩
 | [],_::_,h=>h.elim
 |_::_,[],h=>h.elim
end
end Go.Eng
namespace Go.Eng
open Go
abbrev iV(x:Int):Value:= .int .i64 x
abbrev uV(x:Int):Value:= .int .u64 x
abbrev pV(b k:Nat):Value:= .pointer (some ⟨b,k,none⟩)
theorem oi{α:Type _}{a b:α}(h:some a=some b):a=b:=Option.some.inj h
theorem J{α:Sort _}{a:α}:a=a:=rfl
section
variable {P:Program}{ops:Array Oper}{Q:Exit→Act→World→Prop}{n:FN}{E:Env}{w:World}{ro:Option Nat}{d:Option Tmp}{ty:TypeId}{pos:String}{af:Array Edge}
theorem qm{rest:List Oper}{x:Operand}{v:Value}(hx:ev E x=some v)(hd:inN n d=true)(h:WL P ops Q rest n (putE E d v) w):WL P ops Q (⟨d,.move x,ty,pos,af,none⟩::rest) n E w:=nq (Q_move hx) rfl hd h
theorem qa{x:Operand}{v:Value}{y:Code}(hx:ev E x=some v)(hd:inN n d=true)(h:CW ro P y Q n (putE E d v) w):WL P ops (Exit.then (y.wpIn (Fx ro) 0 P Q) Q) [⟨d,.assign x,ty,pos,af,none⟩] n E w:=nq (Q_assign hx) rfl hd (WL_nil (x_then h))
theorem sr{y:Code}{id:Nat}{l:List Oper}(h:WL P l.toArray (Exit.then (y.wpIn (Fx ro) 0 P Q) Q) l n E w)(hn:l.all nodef=true:=by kernel_rfl):CW ro P (.seq (.region id l.toArray false) y) Q n E w:=C_seq (R_nd h hn)
theorem xs{y:Code}{id:Nat}{l:List Oper}(h:WL P l.toArray (Exit.then (y.wpIn (Fx ro) 0 P Q) Q) l n E w)(hn:l.all nodef=true:=by kernel_rfl):XX (Exit.then ((Code.seq (.region id l.toArray false) y).wpIn (Fx ro) 0 P Q) Q) .normal n E w:=x_then (C_seq (R_nd h hn))
end
end Go.Eng
