import Derived.Test.YtfokmjocophnoaaGreatDoorRulesCheckE2
namespace Go.Cr
open Go Go.Eng
section
variable {P:Program}{n:Nat}{rc:RC}
inductive Stp(P:Program)(n:Nat)(all:List Oper)(rc:RC)(o:Oper)(ps:List Nat)(s s':DS)(c:CV):Prop where
 |q0 (k:kindK P o.op=0) (hw:(wK all o).f s.T=some true) (hu:isU c=false) (hc:(pureK P o.op).f s.T=c) (e:s'=⟨(pdK n o.dst).f c s.T,s.h,s.pd,s.bs,s.ws,s.q⟩)
 |s0 (k:kindK P o.op<2) (hw:(wK all o).f s.T=some false) (hc:c=undC) (e:s'=⟨(pdK n o.dst).f c s.T,s.h,s.pd,s.bs,s.ws,s.q⟩)
 |q1 (k:kindK P o.op=1) (hw:(wK all o).f s.T=some true) (hu:isU c=false) (hc:(loadK P o.op).f s.T s.h=c) (e:s'=⟨(pdK n o.dst).f c s.T,s.h,s.pd,s.bs,(loadK P o.op,s.T,c,ps)::s.ws,s.q⟩)
 |q2 (h':HS) (k:kindK P o.op=2) (hw:(wK all o).f s.T=some true) (hc:(effK P o.op).f rc s.T (mergeP s.pd s.h)= .ok c h') (e:s'=⟨(pdK n o.dst).f c s.T,h',[],h'::s.bs,s.ws,s.q⟩)
 |s2 (k:kindK P o.op=2) (hw:(wK all o).f s.T=some false) (hc:c=undC) (e:s'=⟨(pdK n o.dst).f c s.T,mergeP s.pd s.h,[],mergeP s.pd s.h::s.bs,s.ws,s.q⟩)
 |q3 (co:CO) (k:kindK P o.op=3) (hg:o.guard=none) (ha:alcK P o.op=some co) (hc:c= .p s.q 0) (e:s'=⟨(pdK n o.dst).f c s.T,s.h,(s.q,co)::s.pd,s.bs,s.ws,s.q+1⟩)
theorem alc_kind{op:Op}{co:CO}(h:alcK P op=some co):kindK P op=3:=by cases op<;>first|rfl|cases h
theorem dstep_spec{all:List Oper}{o:Oper}{ps:List Nat}{s s':DS}(h:(dstep P n all o ps).f rc s= .ok s'): ∃c,Stp P n all rc o ps s s' c:=by
 unfold dstep at h;split at h
 ·rename_i hk;simp only at h;split at h
  ·rename_i hw
   cases hu:isU ((pureK P o.op).f s.T)with
   |true=>rw[hu]at h;cases h
   |false=>
     rw[hu]at h;simp only[cond_false,Dr.ok.injEq]at h;exact⟨_,.q0 hk hw hu rfl h.symm⟩
  ·rename_i hw;simp only[Dr.ok.injEq]at h;exact⟨_,.s0 (by omega) hw rfl h.symm⟩
  cases h
 ·rename_i hk;simp only at h;split at h
  ·rename_i hw
   cases hu:isU ((loadK P o.op).f s.T s.h)with
   |true=>rw[hu]at h;cases h
   |false=>
     rw[hu]at h;simp only[cond_false,Dr.ok.injEq]at h;exact⟨_,.q1 hk hw hu rfl h.symm⟩
  ·rename_i hw;simp only[Dr.ok.injEq]at h;exact⟨_,.s0 (by omega) hw rfl h.symm⟩
  cases h
 ·rename_i hk;simp only at h;split at h
  ·rename_i hw;split at h
   ·cases h
   rename_i v h1 he;simp only[Dr.ok.injEq]at h;exact⟨v,.q2 h1 hk hw he h.symm⟩
  ·rename_i hw;simp only[Dr.ok.injEq]at h;exact⟨_,.s2 hk hw rfl h.symm⟩
  cases h
 split at h
 ·rename_i co ha hg;simp only[Dr.ok.injEq]at h;exact⟨_,.q3 co (alc_kind ha) hg ha rfl h.symm⟩
 cases h
theorem draw_seq{all:List Oper}: ∀(l:List Oper) (pss:List (List Nat)) (s s':DS),(drawK P n all l pss).f rc s= .ok s'→ ∃S:Nat→DS,S 0=s∧S l.length=s'∧(∀(i:Nat) (o:Oper),l[i]? =some o→ ∃ps c,pss[i]? =some ps∧Stp P n all rc o ps (S i) (S (i+1)) c)∧s'.q=s.q+flts P l
 | [],pss,s,s',h=>by
   have h':Dr.ok s= .ok s':=h;simp only[Dr.ok.injEq]at h';subst h';exact⟨fun _=>s,rfl,rfl,fun i o hi=>by simp at hi,rfl⟩
 |o::l,[],s,s',h=>by
   have h':Dr.no= .ok s':=h;cases h'
 |o::l,ps::pss,s,s',h=>by
   have h':(match(dstep P n all o ps).f rc s with| .no=>Dr.no| .ok s'=>(drawK P n all l pss).f rc s')= .ok s':=h;split at h'
   ·cases h'
   rename_i s1 hs1;obtain⟨S,h1,h2,h3,h4⟩:=draw_seq l pss s1 s' h';obtain⟨c,hc⟩:=dstep_spec hs1;refine⟨fun i=>match i with|0=>s|i+1=>S i,rfl,h2,fun i o' hi=>?_,?_⟩
   ·cases i with
    |zero=>
      simp only[List.getElem?_cons_zero,Option.some.injEq]at hi;subst hi;exact⟨ps,c,by simp,by simpa[h1]using hc⟩
    |succ i=>
      obtain⟨ps',c',h5,h6⟩:=h3 i o' (by simpa using hi);exact⟨ps',c',by simpa using h5,h6⟩
   have e:flts P (o::l)=bif Nat.beq (kindK P o.op) 3 then Nat.succ (flts P l)else flts P l:=rfl;rw[h4,e]
   have hk3: ∀{k:Nat},kindK P o.op=k→k≠3→Nat.beq (kindK P o.op) 3=false:=fun{k} h5 h6=>by
    cases hb:Nat.beq (kindK P o.op) 3 with
    |false=>rfl
    |true=>exact absurd (h5.symm.trans (Nat.eq_of_beq_eq_true hb)) h6
   cases hc with
   |q0 k _ _ _ e=>rw[e,hk3 k (by omega)];rfl
   |s0 k _ _ e=>rw[e,hk3 rfl (by omega)];rfl
   |q1 k _ _ _ e=>rw[e,hk3 k (by omega)];rfl
   |q2 _ k _ _ e=>rw[e,hk3 k (by omega)];rfl
   |s2 k _ _ e=>rw[e,hk3 k (by omega)];rfl
   |q3 co k _ _ _ e=>
     rw[e,k];show s.q+1+flts P l=s.q+(flts P l+1);omega
structure TR(P:Program)(n:Nat)(ops:Array Oper)(rc:RC)(h0:HS)(T0:FT)(q0:Nat)(pss:List (List Nat))(S:Nat→DS):Prop where
 z:S 0=⟨T0,h0,[],[],[],q0⟩
 st: ∀(i:Nat) (o:Oper),ops[i]? =some o→ ∃ps c,pss[i]? =some ps∧Stp P n ops.toList rc o ps (S i) (S (i+1)) c
variable {ops:Array Oper}{h0:HS}{T0:FT}{q0:Nat}{pss:List (List Nat)}{S:Nat→DS}
theorem Stp.T{all:List Oper}{o:Oper}{ps:List Nat}{s s':DS}{c:CV}(h:Stp P n all rc o ps s s' c):s'.T=(pdK n o.dst).f c s.T:=by
 cases h<;>(rename_i e;rw[e])
theorem Stp.len{all:List Oper}{o:Oper}{ps:List Nat}{s s':DS}{c:CV}(h:Stp P n all rc o ps s s' c):s'.bs.length=s.bs.length+(if kindK P o.op=2 then 1 else 0):=by
 cases h with
 |q0 k _ _ _ e=>rw[e,if_neg (by omega)];rfl
 |s0 k _ _ e=>rw[e,if_neg (by omega)];rfl
 |q1 k _ _ _ e=>rw[e,if_neg (by omega)];rfl
 |q2 _ k _ _ e=>rw[e,if_pos k];rfl
 |s2 k _ _ e=>rw[e,if_pos k];rfl
 |q3 co k _ _ _ e=>rw[e,if_neg (by omega)];rfl
theorem Stp.q{all:List Oper}{o:Oper}{ps:List Nat}{s s':DS}{c:CV}(h:Stp P n all rc o ps s s' c):s'.q=s.q+(if kindK P o.op=3 then 1 else 0):=by
 cases h with
 |q0 k _ _ _ e=>rw[e,if_neg (by omega)];rfl
 |s0 k _ _ e=>rw[e,if_neg (by omega)];rfl
 |q1 k _ _ _ e=>rw[e,if_neg (by omega)];rfl
 |q2 _ k _ _ e=>rw[e,if_neg (by omega)];rfl
 |s2 k _ _ e=>rw[e,if_neg (by omega)];rfl
 |q3 co k _ _ _ e=>rw[e,if_pos k]
theorem Stp.bs{all:List Oper}{o:Oper}{ps:List Nat}{s s':DS}{c:CV}(h:Stp P n all rc o ps s s' c):(s'.bs=s.bs∧s'.h=s.h∧kindK P o.op≠2)∨(s'.bs=s'.h::s.bs∧s'.pd= []∧kindK P o.op=2):=by
 cases h with
 |q0 k _ _ _ e=>rw[e];exact .inl ⟨rfl,rfl,by omega⟩
 |s0 k _ _ e=>rw[e];exact .inl ⟨rfl,rfl,by omega⟩
 |q1 k _ _ _ e=>rw[e];exact .inl ⟨rfl,rfl,by omega⟩
 |q2 _ k _ _ e=>rw[e];exact .inr ⟨rfl,rfl,k⟩
 |s2 k _ _ e=>rw[e];exact .inr ⟨rfl,rfl,k⟩
 |q3 co k _ _ _ e=>rw[e];exact .inl ⟨rfl,rfl,by omega⟩
theorem Stp.ws{all:List Oper}{o:Oper}{ps:List Nat}{s s':DS}{c:CV}(h:Stp P n all rc o ps s s' c): ∀x∈s.ws,x∈s'.ws:=by
 cases h with
 |q1 k _ _ _ e=>rw[e];exact fun x hx=>List.mem_cons_of_mem _ hx
 |q0 k _ _ _ e=>rw[e];exact fun x hx=>hx
 |s0 k _ _ e=>rw[e];exact fun x hx=>hx
 |q2 _ k _ _ e=>rw[e];exact fun x hx=>hx
 |s2 k _ _ e=>rw[e];exact fun x hx=>hx
 |q3 co k _ _ _ e=>rw[e];exact fun x hx=>hx
theorem TR.op(H:TR P n ops rc h0 T0 q0 pss S){i:Nat}(hi:i<ops.size): ∃o ps c,ops[i]? =some o∧pss[i]? =some ps∧Stp P n ops.toList rc o ps (S i) (S (i+1)) c:=by
 have e:ops[i]? =some ops[i]:=by simp[hi]
 obtain⟨ps,c,h1,h2⟩:=H.st i _ e;exact⟨_,ps,c,e,h1,h2⟩
theorem TR.mono(H:TR P n ops rc h0 T0 q0 pss S){i j:Nat}(hij:i≤j)(hj:j≤ops.size):(S i).bs.length≤(S j).bs.length∧(S i).q≤(S j).q∧(∀x∈(S i).ws,x∈(S j).ws)∧ ∃x,(S j).bs=x++(S i).bs:=by
 induction j with
 |zero=>
   obtain rfl:i=0:=by omega
   exact⟨Nat.le_refl _,Nat.le_refl _,fun _ h=>h,[],rfl⟩
 |succ j ih=>
   rcases Nat.lt_or_ge j i with hlt|hge
   ·obtain rfl:i=j+1:=by omega
    exact⟨Nat.le_refl _,Nat.le_refl _,fun _ h=>h,[],rfl⟩
   obtain⟨h1,h2,h3,x,h4⟩:=ih hge (by omega);obtain⟨o,ps,c,_,_,hs⟩:=H.op (show j<ops.size by omega);refine⟨?_,?_,fun x hx=>hs.ws x (h3 x hx),?_⟩
   ·rw[hs.len];omega
   ·rw[hs.q];omega
   rcases hs.bs with⟨h5,_⟩|⟨h5,_⟩
   ·exact⟨x,by rw[h5,h4]⟩
   exact⟨(S (j+1)).h::x,by rw[h5,h4];rfl⟩
theorem TR.head(H:TR P n ops rc h0 T0 q0 pss S): ∀(i:Nat),i≤ops.size→(S i).h=(S i).bs.headD h0
 |0,_=>by rw[H.z];rfl
 |i+1,hi=>by
   obtain⟨o,ps,c,_,_,hs⟩:=H.op (show i<ops.size by omega);rcases hs.bs with⟨h5,h6,_⟩|⟨h5,_⟩
   ·rw[h5,h6];exact H.head i (by omega)
   rw[h5];rfl
theorem TR.full(H:TR P n ops rc h0 T0 q0 pss S){i:Nat}(hi:i≤ops.size):(h0::(S ops.size).bs.reverse)[(S i).bs.length]? =some (S i).h:=by
 obtain⟨_,_,_,x,h4⟩:=H.mono hi (Nat.le_refl _);rw[h4,List.reverse_append,H.head i hi]
 cases hb:(S i).bs with
 |nil=>rfl
 |cons y r=>
   simp only[List.length_cons,List.getElem?_cons_succ,List.headD_cons,List.reverse_cons];rw[List.getElem?_append_left (by simp),List.getElem?_append_right (by simp)];simp
theorem TR.nth(H:TR P n ops rc h0 T0 q0 pss S): ∀(i:Nat),i≤ops.size→ ∀p,p<(S i).bs.length→ ∃j o,j<i∧ops[j]? =some o∧kindK P o.op=2∧(S j).bs.length=p
 |0,_,p,hp=>by rw[H.z]at hp;cases hp
 |i+1,hi,p,hp=>by
   obtain⟨o,ps,c,ho,_,hs⟩:=H.op (show i<ops.size by omega);rw[hs.len]at hp;by_cases hk:kindK P o.op=2
   ·rw[if_pos hk]at hp;by_cases e:p=(S i).bs.length
    ·exact⟨i,o,Nat.lt_succ_self _,ho,hk,e.symm⟩
    obtain⟨j,o',h1,h2⟩:=H.nth i (by omega) p (by omega);exact⟨j,o',by omega,h2⟩
   rw[if_neg hk]at hp;obtain⟨j,o',h1,h2⟩:=H.nth i (by omega) p (by omega);exact⟨j,o',by omega,h2⟩
theorem TR.pend(H:TR P n ops rc h0 T0 q0 pss S): ∀(i:Nat),i≤ops.size→(∀x∈(S i).pd,x.1<(S i).q∧ ∃j o,j<i∧ops[j]? =some o∧kindK P o.op=3∧(S j).q=x.1∧alcK P o.op=some x.2∧(S j).bs.length=(S i).bs.length)∧(S i).pd.Pairwise (fun x y=>x.1≠y.1)
 |0,_=>by rw[H.z];exact⟨fun x hx=>(by cases hx),List.Pairwise.nil⟩
 |i+1,hi=>by
   obtain⟨o,ps,c,ho,_,hs⟩:=H.op (show i<ops.size by omega);obtain⟨h1,h2⟩:=H.pend i (by omega);have hlen:=hs.len;have hq:=hs.q
   have up:kindK P o.op≠2→ ∀x∈(S i).pd,x.1<(S (i+1)).q∧ ∃j o,j<i+1∧ops[j]? =some o∧kindK P o.op=3∧(S j).q=x.1∧alcK P o.op=some x.2∧(S j).bs.length=(S (i+1)).bs.length:=by
    intro hk x hx;obtain⟨h3,j,o',h4,h5,h6,h7,h8,h9⟩:=h1 x hx;rw[if_neg hk]at hlen;exact⟨by omega,j,o',by omega,h5,h6,h7,h8,by omega⟩
   cases hs with
   |q0 k _ _ _ e=>have:=up (by omega);rw[e]at this ⊢;exact⟨this,h2⟩
   |s0 k _ _ e=>have:=up (by omega);rw[e]at this ⊢;exact⟨this,h2⟩
   |q1 k _ _ _ e=>have:=up (by omega);rw[e]at this ⊢;exact⟨this,h2⟩
   |q2 _ k _ _ e=>rw[e];exact⟨fun x hx=>(by cases hx),List.Pairwise.nil⟩
   |s2 k _ _ e=>rw[e];exact⟨fun x hx=>(by cases hx),List.Pairwise.nil⟩
   |q3 co k _ ha _ e=>
     have hup:=up (by omega);rw[if_neg (by omega)]at hlen;rw[if_pos k]at hq;have epd:(S (i+1)).pd=((S i).q,co)::(S i).pd:=by rw[e]
     rw[epd];refine⟨fun x hx=>?_,List.pairwise_cons.2 ⟨fun x hx=>?_,h2⟩⟩
     ·rcases List.mem_cons.1 hx with rfl|hx
      ·exact⟨by omega,i,o,Nat.lt_succ_self _,ho,k,rfl,ha,by omega⟩
      exact hup x hx
     have:=(h1 x hx).1;show(S i).q≠x.1;omega
theorem win_spec{x:OI}{i:Nat}{S:Nat→DS}: ∀(l:List OI) (j0:Nat),(∀(k:Nat) (y:OI),l[k]? =some y→(S (j0+k+1)).bs.length=(S (j0+k)).bs.length+(if y.kd=2 then 1 else 0))→ ∀(k:Nat) (y:OI),l[k]? =some y→y.kd=2→
 (j0+k<i→tb x.bm (j0+k)=false→(S (j0+k)).bs.length∈winK x i l j0 (S j0).bs.length)∧(i≤j0+k→tb y.bm i=false→(S (j0+k)).bs.length+1∈winK x i l j0 (S j0).bs.length)
 | [],_,_,k,y,hk,_=>by simp at hk
 |z::l,j0,hl,k,y,hk,h2=>by
   have e:winK x i (z::l) j0 (S j0).bs.length=bif Nat.beq z.kd 2 then(bif Nat.blt j0 i then(bif tb x.bm j0 then winK x i l (j0+1) ((S j0).bs.length+1)else(S j0).bs.length::winK x i l (j0+1) ((S j0).bs.length+1))else(bif tb z.bm i then winK x i l (j0+1) ((S j0).bs.length+1)else((S j0).bs.length+1)::winK x i l (j0+1) ((S j0).bs.length+1)))else winK x i l (j0+1) (S j0).bs.length:=rfl;rw[e];have h0:=hl 0 z (by simp);rw[Nat.add_zero]at h0
   have hl': ∀(k:Nat) (y:OI),l[k]? =some y→(S (j0+1+k+1)).bs.length=(S (j0+1+k)).bs.length+(if y.kd=2 then 1 else 0):=fun k y hk=>by
    have:=hl (k+1) y (by simpa using hk);rwa[show j0+(k+1)+1=j0+1+k+1 by omega,show j0+(k+1)=j0+1+k by omega]at this
   cases k with
   |zero=>
     simp only[List.getElem?_cons_zero,Option.some.injEq]at hk;subst hk;rw[h2];simp only[Nat.add_zero];refine⟨fun h3 h4=>?_,fun h3 h4=>?_⟩
     ·have:Nat.blt j0 i=true:=by rw[Nat.blt_eq];exact h3
      rw[this,h4];exact List.mem_cons_self ..
     have:Nat.blt j0 i=false:=by
      cases hb:Nat.blt j0 i with
      |false=>rfl
      |true=>rw[Nat.blt_eq]at hb;omega
     rw[this,h4];exact List.mem_cons_self ..
   |succ k=>
     have ih:=win_spec (x:=x) (i:=i) l (j0+1) hl' k y (by simpa using hk) h2;rw[show j0+1+k=j0+(k+1) by omega]at ih
     have key: ∀q,q∈winK x i l (j0+1) (S (j0+1)).bs.length→q∈(bif Nat.beq z.kd 2 then(bif Nat.blt j0 i then(bif tb x.bm j0 then winK x i l (j0+1) ((S j0).bs.length+1)else(S j0).bs.length::winK x i l (j0+1) ((S j0).bs.length+1))else(bif tb z.bm i then winK x i l (j0+1) ((S j0).bs.length+1)else((S j0).bs.length+1)::winK x i l (j0+1) ((S j0).bs.length+1)))else winK x i l (j0+1) (S j0).bs.length):=by
      intro q hq;by_cases hz:z.kd=2
      ·rw[if_pos hz]at h0;rw[h0]at hq;have:Nat.beq z.kd 2=true:=by rw[hz];rfl
       rw[this];simp only[cond_true]
       cases Nat.blt j0 i with
       |true=>
         simp only[cond_true]
         cases tb x.bm j0 with
         |true=>exact hq
         |false=>exact List.mem_cons_of_mem _ hq
       |false=>
         simp only[cond_false]
         cases tb z.bm i with
         |true=>exact hq
         |false=>exact List.mem_cons_of_mem _ hq
      rw[if_neg hz]at h0;rw[h0]at hq
      have:Nat.beq z.kd 2=false:=by
       cases hb:Nat.beq z.kd 2 with
       |false=>rfl
       |true=>exact absurd (Nat.eq_of_beq_eq_true hb) hz
      rw[this];exact hq
     exact⟨fun h3 h4=>key _ (ih.1 h3 h4),fun h3 h4=>key _ (ih.2 h3 h4)⟩
theorem wins_spec{all:List OI}: ∀(l:List OI) (i0 k:Nat) (x:OI),l[k]? =some x→(winsK all l i0)[k]? =some (bif Nat.beq x.kd 1 then winK x (i0+k) all 0 0 else [])
 | [],_,k,x,hk=>by simp at hk
 |z::l,i0,0,x,hk=>by
   simp only[List.getElem?_cons_zero,Option.some.injEq]at hk;subst hk;rfl
 |z::l,i0,k+1,x,hk=>by
   have:=wins_spec (all:=all) l (i0+1) k x (by simpa using hk);rw[show i0+1+k=i0+(k+1) by omega]at this;exact this
theorem chkP_spec{lk:LK}{T:FT}{v:CV}{bs:List HS}: ∀{ps:List Nat},chkP lk T v bs ps=true→ ∀p∈ps,∃b,bs[p]? =some b∧cvE (lk.f T b) v=true
 | [],_,p,hp=>by cases hp
 |q::ps,h,p,hp=>by
   have h':(match bs[q]? with|some b=>bif cvE (lk.f T b) v then chkP lk T v bs ps else false|none=>false)=true:=h;split at h'
   ·rename_i b hb
    cases hc:cvE (lk.f T b) v with
    |false=>rw[hc]at h';cases h'
    |true=>
      rw[hc]at h';rcases List.mem_cons.1 hp with rfl|hp
      ·exact⟨b,hb,hc⟩
      exact chkP_spec h' p hp
   cases h'
theorem chkW_spec{bs:List HS}: ∀{ws:List (LK×FT×CV×List Nat)},chkW bs ws=true→ ∀x∈ws,chkP x.1 x.2.1 x.2.2.1 bs x.2.2.2=true
 | [],_,x,hx=>by cases hx
 |y::ws,h,x,hx=>by
   have h':(bif chkP y.1 y.2.1 y.2.2.1 bs y.2.2.2 then chkW bs ws else false)=true:=h
   cases hc:chkP y.1 y.2.1 y.2.2.1 bs y.2.2.2 with
   |false=>rw[hc]at h';cases h'
   |true=>
     rw[hc]at h';rcases List.mem_cons.1 hx with rfl|hx
     ·exact hc
     exact chkW_spec h' x hx
theorem cvE1_eq{x y:CV}(h:cvE1 x y=true):x=y:=by
 have nb: ∀{a b:Nat},Nat.beq a b=true→a=b:=fun h=>Nat.eq_of_beq_eq_true h;have bb: ∀{a b:Bool},bEq a b=true→a=b:=fun{a b} h=>by cases a<;>cases b<;>first|rfl|cases h
 unfold cvE1 at h;split at h
 ·simp only[Bool.and_eq_true,ieq_eq,beq_iff_eq]at h;rw[keq_eq h.1,h.2]
 ·rw[bb h]
 ·rename_i a b
  have:a=b:=by
   clear nb bb
   induction a generalizing b with
   |nil=>cases b with
     |nil=>rfl
     |cons _ _=>cases h
   |cons c r ih=>
     cases b with
     |nil=>cases h
     |cons d r'=>
       have h':(bif Nat.beq c.toNat d.toNat then beqL r r' else false)=true:=h
       cases hc:Nat.beq c.toNat d.toNat with
       |false=>rw[hc]at h';cases h'
       |true=>
         rw[hc]at h';rw[ih _ h',UInt8.toNat_inj.1 (Nat.eq_of_beq_eq_true hc)]
  rw[this]
 ·simp only[Bool.and_eq_true]at h;rw[nb h.1,nb h.2]
 ·rfl
 ·simp only[Bool.and_eq_true]at h;rw[nb h.1.1.1.1.1,nb h.1.1.1.1.2,nb h.1.1.1.2,nb h.1.1.2,nb h.1.2,bb h.2]
 ·rfl
 ·rw[nb h]
 ·rfl
 ·rw[nb h]
 ·rw[nb h]
 ·rfl
 ·rfl
 ·simp only[Bool.and_eq_true]at h;rw[nb h.1,nb h.2.1,nb h.2.2]
 cases h
theorem cvEL_eq: ∀{x y:List CV},cvEL x y=true→x=y
 | [],[],_=>rfl
 | [],_::_,h=>by cases h
 |_::_,[],h=>by cases h
 |c::r,d::r',h=>by
   have h':(bif cvE1 c d then cvEL r r' else false)=true:=h
   cases hc:cvE1 c d with
   |false=>rw[hc]at h';cases h'
   |true=>
     rw[hc]at h';rw[cvE1_eq hc,cvEL_eq h']
theorem cvE_eq{x y:CV}(h:cvE x y=true):x=y:=by
 unfold cvE at h;split at h
 ·rw[cvEL_eq h]
 ·rw[cvEL_eq h]
 exact cvE1_eq h
end
open Go Go.Eng
section
variable {P:Program}{n:Nat}{rc:RC}{B:Base}{γ γ':Gh}{h h':HS}{w w' w1:World}
theorem Inv.adopt(I:Inv γ h w){k b sz:Nat}{o:CO}(hk:γ k=some (b,sz))(hnu: ¬Used γ h b)(ho:OR γ (hv w) k o):Inv γ (hput h k o) w:=by
 refine⟨I.dom,I.glob,fun i j c m m' hi hj hli hsj=>?_,fun j=>?_⟩
 ·rw[hget_hput]at hli hsj;by_cases e1:i=k<;>by_cases e2:j=k
  ·omega
  ·subst e1;rw[if_neg e2]at hsj;rw[hk]at hi;obtain⟨rfl,_⟩:=Prod.mk.inj (Option.some.inj hi);exact absurd ⟨j,m',hj,hsj⟩ hnu
  ·subst e2;rw[if_neg e1]at hli;rw[hk]at hj;obtain⟨rfl,_⟩:=Prod.mk.inj (Option.some.inj hj);exact absurd ⟨i,m,hi,some_of_live hli⟩ hnu
  rw[if_neg e1]at hli;rw[if_neg e2]at hsj;exact I.inj i j c m m' hi hj hli hsj
 rw[hget_hput];split
 ·rename_i e;subst e;exact ho
 exact I.rel j
theorem used_put{k b sz:Nat}{o:CO}(hk:γ k=some (b,sz)){f:CO→Bool}{b':Nat}(hu: ∃j m,γ j=some (b',m)∧f (hget (hput h k o) j)=true):(∃j m,γ j=some (b',m)∧f (hget h j)=true)∨b'=b:=by
 obtain⟨j,m,hj,hf⟩:=hu;rw[hget_hput]at hf;split at hf
 ·rename_i e;subst e;rw[hk]at hj;obtain⟨rfl,_⟩:=Prod.mk.inj (Option.some.inj hj);exact .inr rfl
 exact .inl ⟨j,m,hj,hf⟩
theorem Go1.adopt(G:Go1 B.γ B.h B.w γ h w){k b sz:Nat}{o:CO}(hk:γ k=some (b,sz))(hb:B.w.heap.size≤b):Go1 B.γ B.h B.w γ (hput h k o) w:=
 ⟨G.os,G.tape,G.out,G.size,G.le,G.nx,G.pres,fun b' hu=>(used_put (f:=live) hk hu).elim (G.own b') (fun e=> .inr (e▸hb)),fun b' hu=>(used_put (f:=some?) hk hu).elim (G.used b') (fun e=> .inr (e▸hb)),G.gnew⟩
theorem merge_ok: ∀(pd:List (Nat×CO)) {h:HS},Go1 B.γ B.h B.w γ h w→Inv γ h w→pd.Pairwise (fun x y=>x.1≠y.1)→(∀x∈pd,∃b m,γ x.1=some (b,m)∧OR γ (hv w) x.1 x.2∧ ¬Used γ h b∧B.w.heap.size≤b)→
 (∀x∈pd,∀y∈pd,x.1≠y.1→ ∀b m m',γ x.1=some (b,m)→γ y.1=some (b,m')→False)→
 Go1 B.γ B.h B.w γ (mergeP pd h) w∧Inv γ (mergeP pd h) w∧(mergeP pd h).nx=h.nx∧ ∀b,Used γ (mergeP pd h) b→Used γ h b∨ ∃x∈pd,∃m,γ x.1=some (b,m)
 | [],h,G,V,_,_,_=>⟨G,V,rfl,fun b hb=> .inl hb⟩
 |x::pd,h,G,V,hp,h1,h2=>by
   have e:mergeP (x::pd) h=mergeP pd (hput h x.1 x.2):=rfl;rw[e];obtain⟨b,m,g1,g2,g3,g4⟩:=h1 x (by simp);have V1:=V.adopt g1 g3 g2;have G1:=G.adopt (o:=x.2) g1 g4;rw[List.pairwise_cons]at hp
   obtain⟨r1,r2,r3,r4⟩:=merge_ok pd G1 V1 hp.2 (fun y hy=>by
    obtain⟨b',m',k1,k2,k3,k4⟩:=h1 y (by simp[hy]);refine⟨b',m',k1,k2,fun hu=>?_,k4⟩;rcases used_put (f:=some?) g1 hu with hu|rfl
    ·exact k3 hu
    exact h2 x (by simp) y (by simp[hy]) (hp.1 y hy) b' m m' g1 k1) (fun y hy z hz=>h2 y (by simp[hy]) z (by simp[hz]))
   refine⟨r1,r2,r3,fun b' hb'=>?_⟩;rcases r4 b' hb' with hu|⟨y,hy,m',k1⟩
   ·rcases used_put (f:=some?) g1 hu with hu|rfl
    ·exact .inl hu
    exact .inr ⟨x,by simp,m,g1⟩
   exact .inr ⟨y,by simp[hy],m',k1⟩
theorem alc_c{op:Op}{co:CO}(ha:alcK P op=some co): ∃t z,op= .alloc t∧zcs P t=some z∧co= .c (lenF z) (wrC z 0 .nil):=by
 cases op with
 |alloc t=>
   simp only[alcK]at ha;split at ha
   ·rename_i z hz;exact⟨t,z,rfl,hz,(Option.some.inj ha).symm⟩
   cases ha
 |_=>cases ha
structure DI(P:Program)(B:Base)(ops:Array Oper)(R:Nat→OI)(S:Nat→DS)(h0:HS)(n:Nat)(ds:List Nat)(L:Nat→Bool)(p:Nat)(H:HS)(γ:Gh)(w:World)(a:Act):Prop where
 at_:(h0::(S ops.size).bs.reverse)[p]? =some H
 cl: ∀i,L i=true→i<ops.size∧ ∀j,tb (R i).bm j=true→L j=true
 ef: ∀j,j<ops.size→(R j).kd=2→(L j=true↔(S j).bs.length<p)
 nx:h0.nx≤H.nx
 go:Go1 B.γ B.h B.w γ H w
 inv:Inv γ H w
 size:a.tmps.size=n
 defers:a.defers=marks ds
 dss: ∀D∈ds,hv w D=some (.deferred (some []))∧ ¬Used γ H D∧B.w.heap.size≤D
 nod:ds.Nodup
 fr: ∀k j,j≤ops.size→(∀i o,i<j→ops[i]? =some o→o.dst=some k→L i=true)→(∀i o,j≤i→ops[i]? =some o→o.dst=some k→L i=false)→SR γ (fget (S j).T k) (a.tmps.getD k undef)
 fn: ∀j,j<ops.size→(R j).kd=3→L j=false→γ (S j).q=none
 ff: ∀j o co,ops[j]? =some o→alcK P o.op=some co→L j=true→p≤(S j).bs.length→ ∃b m,γ (S j).q=some (b,m)∧OR γ (hv w) (S j).q co∧ ¬Used γ H b∧B.w.heap.size≤b∧b<w.heap.size
 fd: ∀j j' b m m',j<ops.size→j'<ops.size→(R j).kd=3→(R j').kd=3→j≠j'→L j=true→L j'=true→p≤(S j).bs.length→p≤(S j').bs.length→γ (S j).q=some (b,m)→γ (S j').q=some (b,m')→False
variable {ops:Array Oper}{R:Nat→OI}{S:Nat→DS}{h0 H:HS}{T0:FT}{q0:Nat}{pss:List (List Nat)}{ds:List Nat}{L:Nat→Bool}{p:Nat}{a:Act}
def setL(L:Nat→Bool)(i:Nat):Nat→Bool:=fun j=>if j=i then true else L j
theorem setL_ne{L:Nat→Bool}{i j:Nat}(h:j≠i):setL L i j=L j:=by simp[setL,h]
theorem setL_same{L:Nat→Bool}{i:Nat}:setL L i i=true:=by simp[setL]
theorem conf_w{x y:OI}{k:Nat}(h1:tb x.dm k=true)(h2:tb y.rm k=true∨tb y.dm k=true):conf x y=true:=by
 unfold conf;have:hit x.dm (Nat.lor y.rm y.dm)=true:=hit_of h1 (by rw[tb_lor];rcases h2 with h2|h2<;>rw[h2]<;>simp);rw[this];rfl
theorem conf_r{x y:OI}{k:Nat}(h1:tb y.dm k=true)(h2:tb x.rm k=true):conf x y=true:=by
 unfold conf;rw[hit_of h1 h2];simp
theorem conf_e{x y:OI}(h1:x.kd=2)(h2:y.kd=2):conf x y=true:=by
 unfold conf;rw[h1,h2];simp
theorem conf_a{x y:OI}(h1:x.kd=3)(h2:y.kd=2):conf x y=true:=by
 unfold conf;rw[h1,h2];simp
structure Rdy(ops:Array Oper)(R:Nat→OI)(L:Nat→Bool)(i:Nat):Prop where
 lt:i<ops.size
 un:L i=false
 be: ∀j,tb (R i).bm j=true→L j=true
theorem DI.closed(I:DI P B ops R S h0 n ds L p H γ w a)(C:Chk P ops R){i:Nat}{o:Oper}(hi:ops[i]? =some o)(hu:L i=false)(hb: ∀e∈o.after.toList,Region.binds .any e=true→L e.on=true):Rdy ops R L i:=by
 refine⟨(Array.getElem?_eq_some_iff.1 hi).1,hu,fun j hj=>?_⟩;obtain⟨e,h1,h2,h3⟩:=C.to i o j hi hj;have h4:=hb e h1 h2;rcases h3 with rfl|⟨_,h3⟩
 ·exact h4
 exact(I.cl e.on h4).2 j h3
theorem DI.reads(I:DI P B ops R S h0 n ds L p H γ w a)(C:Chk P ops R){i:Nat}(hr:Rdy ops R L i){t:Nat}(ht:tb (R i).rm t=true):SR γ (fget (S i).T t) (a.tmps.getD t undef):=by
 refine I.fr t i (Nat.le_of_lt hr.lt) (fun j o hj ho hd=>hr.be j (C.cf j i hj hr.lt (conf_w (C.dm j o t ho hd) (.inl ht)))) (fun j o hj ho hd=>?_)
 cases hL:L j with
 |false=>rfl
 |true=>
   have hlt:=(I.cl j hL).1;rcases Nat.lt_or_eq_of_le hj with hj|rfl
   ·have:=(I.cl j hL).2 i (C.cf i j hj hlt (conf_r (C.dm j o t ho hd) ht));rw[hr.un]at this;cases this
   rw[hr.un]at hL;cases hL
theorem DI.frame(I:DI P B ops R S h0 n ds L p H γ w a)(C:Chk P ops R){i:Nat}{o:Oper}{c:CV}{v:Value}(hr:Rdy ops R L i)(hi:ops[i]? =some o)(hT:(S (i+1)).T=(pdK n o.dst).f c (S i).T)(TRm: ∀j,j<ops.size→ ∀o',ops[j]? =some o'→ ∃c',(S (j+1)).T=(pdK n o'.dst).f c' (S j).T)
 (hl:Gh.le γ γ') (hv':SR γ' c v):
 ∀k j,j≤ops.size→(∀i' o',i'<j→ops[i']? =some o'→o'.dst=some k→setL L i i'=true)→(∀i' o',j≤i'→ops[i']? =some o'→o'.dst=some k→setL L i i'=false)→SR γ' (fget (S j).T k) ((a.put o.dst v).tmps.getD k undef):=by
 intro k j hj h1 h2;rw[put_getD];by_cases hd:o.dst=some k
 ·have hij:i<j:=by
   rcases Nat.lt_or_ge i j with hh|hh
   ·exact hh
   have:=h2 i o hh hi hd;rw[setL_same]at this;cases this
  have same: ∀m,i+1≤m→m≤j→fget (S m).T k=fget (S (i+1)).T k:=by
   intro m
   induction m with
   |zero=>intro hm;omega
   |succ m ih=>
     intro hm hmj;by_cases e:m=i
     ·subst e;rfl
     have hm':i<m:=by omega
     have hms:m<ops.size:=by omega
     have hom:ops[m]? =some ops[m]:=by simp[hms]
     obtain⟨c',hc'⟩:=TRm m hms _ hom;rw[hc',pd_get,if_neg,ih (by omega) (by omega)];rintro⟨hdm,_⟩;have h3:=h1 m _ (by omega) hom hdm;rw[setL_ne e]at h3;have h4:=(I.cl m h3).2 i (C.cf i m hm' hms (conf_w (C.dm i o k hi hd) (.inr (C.dm m _ k hom hdm))));rw[hr.un]at h4;cases h4
  rw[same j hij (Nat.le_refl _),hT,pd_get,I.size];by_cases hk:k<n
  ·rw[if_pos ⟨hd,hk⟩,if_pos ⟨hd,hk⟩];exact hv'
  rw[if_neg (fun hh=>hk hh.2),if_neg (fun hh=>hk hh.2)];refine(I.fr k i (Nat.le_of_lt hr.lt) (fun i' o' hi' ho' hd'=>?_) (fun i' o' hi' ho' hd'=>?_)).up hl
  ·have:=h1 i' o' (by omega) ho' hd';rwa[setL_ne (by omega)]at this
  rcases Nat.lt_or_eq_of_le hi' with hlt|rfl
  ·cases hL:L i' with
   |false=>rfl
   |true=>
     have h4:=(I.cl i' hL).2 i (C.cf i i' hlt (I.cl i' hL).1 (conf_w (C.dm i o k hi hd) (.inr (C.dm i' o' k ho' hd'))));rw[hr.un]at h4;cases h4
  exact hr.un
 rw[if_neg (fun hh=>hd hh.1)]
 have ne: ∀i' o',ops[i']? =some o'→o'.dst=some k→i'≠i:=fun i' o' ho' hd' e=>by
  subst e;rw[hi]at ho';obtain rfl:=Option.some.inj ho';exact hd hd'
 refine(I.fr k j hj (fun i' o' hi' ho' hd'=>?_) (fun i' o' hi' ho' hd'=>?_)).up hl
 ·have:=h1 i' o' hi' ho' hd';rwa[setL_ne (ne i' o' ho' hd')]at this
 have:=h2 i' o' hi' ho' hd';rwa[setL_ne (ne i' o' ho' hd')]at this
theorem DI.cl'(I:DI P B ops R S h0 n ds L p H γ w a){i:Nat}(hr:Rdy ops R L i): ∀j,setL L i j=true→j<ops.size∧ ∀k,tb (R j).bm k=true→setL L i k=true:=by
 intro j hj;by_cases e:j=i
 ·subst e
  exact⟨hr.lt,fun k hk=>by
   by_cases e:k=j
   ·subst e;exact setL_same
   rw[setL_ne e];exact hr.be k hk⟩
 rw[setL_ne e]at hj
 exact⟨(I.cl j hj).1,fun k hk=>by
  by_cases e:k=i
  ·subst e;exact setL_same
  rw[setL_ne e];exact(I.cl j hj).2 k hk⟩
theorem DI.quiet(I:DI P B ops R S h0 n ds L p H γ w a)(C:Chk P ops R)(D:TR P n ops rc h0 T0 q0 pss S){i:Nat}{o:Oper}{c:CV}{v:Value}(hr:Rdy ops R L i)(hi:ops[i]? =some o)(hT:(S (i+1)).T=(pdK n o.dst).f c (S i).T)(hk:kindK P o.op<2)(hv':SR γ c v):
 DI P B ops R S h0 n ds (setL L i) p H γ w (a.put o.dst v):=by
 have hkd:(R i).kd<2:=by rw[C.kd i o hi];exact hk
 have TRm: ∀j,j<ops.size→ ∀o',ops[j]? =some o'→ ∃c',(S (j+1)).T=(pdK n o'.dst).f c' (S j).T:=fun j _ o' ho'=>by
  obtain⟨_,c',_,hs⟩:=D.st j o' ho';exact⟨c',hs.T⟩
 have ne: ∀{j:Nat},2≤(R j).kd→j≠i:=fun hj e=>by subst e;omega
 refine⟨I.at_,I.cl' hr,fun j hj h2=>?_,I.nx,I.go,I.inv,put_size.trans I.size,put_defers.trans I.defers,I.dss,I.nod,I.frame C hr hi hT TRm (Gh.le_refl _) hv',fun j hj h3 hL=>?_,fun j o' co hj ha hL hp=>?_,fun j j' b m m' hj hj' h3 h3' hne hL hL'=>?_⟩
 ·rw[setL_ne (ne (by omega))];exact I.ef j hj h2
 ·rw[setL_ne (ne (by omega))]at hL;exact I.fn j hj h3 hL
 ·have:(R j).kd=3:=by rw[C.kd j o' hj];exact alc_kind ha
  rw[setL_ne (ne (by omega))]at hL;exact I.ff j o' co hj ha hL hp
 rw[setL_ne (ne (by omega))]at hL hL';exact I.fd j j' b m m' hj hj' h3 h3' hne hL hL'
theorem DI.place(I:DI P B ops R S h0 n ds L p H γ w a)(C:Chk P ops R)(D:TR P n ops rc h0 T0 q0 pss S){i:Nat}(hr:Rdy ops R L i)(hk:(R i).kd=2):(S i).bs.length=p∧(S i).h=H:=by
 have h1: ¬(S i).bs.length<p:=fun hh=>by
  have:=(I.ef i hr.lt hk).2 hh;rw[hr.un]at this;cases this
 have h2: ¬p<(S i).bs.length:=fun hh=>by
  obtain⟨j,o,hj,ho,hkj,hpj⟩:=D.nth i (Nat.le_of_lt hr.lt) p hh;have hlt:j<ops.size:=by have:=hr.lt;omega
  have hkd:(R j).kd=2:=by rw[C.kd j o ho];exact hkj
  have:=hr.be j (C.cf j i hj hr.lt (conf_e hkd hk));have:=(I.ef j hlt hkd).1 this;omega
 have h3:(S i).bs.length=p:=by omega
 have h4:=D.full (Nat.le_of_lt hr.lt);rw[h3,I.at_]at h4;exact⟨h3,(Option.some.inj h4).symm⟩
theorem DI.merge(I:DI P B ops R S h0 n ds L p H γ w a)(C:Chk P ops R)(D:TR P n ops rc h0 T0 q0 pss S){i:Nat}(hi:i≤ops.size)(hp:(S i).bs.length=p)(hl: ∀j,j<i→(R j).kd=3→L j=true):
 Go1 B.γ B.h B.w γ (mergeP (S i).pd H) w∧Inv γ (mergeP (S i).pd H) w∧(mergeP (S i).pd H).nx=H.nx∧
  (∀b,Used γ (mergeP (S i).pd H) b→Used γ H b∨ ∃j m,j<i∧(R j).kd=3∧(S j).bs.length=p∧L j=true∧γ (S j).q=some (b,m)∧ ∃cur ty,hv w b=some (.cells cur ty (0,0))):=by
 obtain⟨hpd,hpw⟩:=D.pend i hi
 have get: ∀x∈(S i).pd,∃j b m,j<i∧(R j).kd=3∧(S j).q=x.1∧(S j).bs.length=p∧L j=true∧γ x.1=some (b,m)∧OR γ (hv w) x.1 x.2∧ ¬Used γ H b∧B.w.heap.size≤b∧ ∃cur ty,hv w b=some (.cells cur ty (0,0)):=by
  intro x hx;obtain⟨_,j,o,h1,h2,h3,h4,h5,h6⟩:=hpd x hx;have hkd:(R j).kd=3:=by rw[C.kd j o h2];exact h3
  have hLj:=hl j h1 hkd;obtain⟨b,m,g1,g2,g3,g4,_⟩:=I.ff j o x.2 h2 h5 hLj (by omega);rw[h4]at g1 g2;refine⟨j,b,m,h1,hkd,h4,by omega,hLj,g1,g2,g3,g4,?_⟩;obtain⟨t,z,_,_,hco⟩:=alc_c h5;rw[hco]at g2;obtain⟨b',cur,ty,k1,k2,_⟩:=g2;rw[g1]at k1;obtain⟨rfl,_⟩:=Prod.mk.inj (Option.some.inj k1);exact⟨cur,ty,k2⟩
 obtain⟨r1,r2,r3,r4⟩:=merge_ok (S i).pd I.go I.inv hpw (fun x hx=>by
  obtain⟨j,b,m,_,_,_,_,_,g1,g2,g3,g4,_⟩:=get x hx
  exact⟨b,m,g1,g2,g3,g4⟩) (fun x hx y hy hne b m m' h1 h2=>by
  obtain⟨j,_,_,a1,a2,a3,a4,a5,_⟩:=get x hx;obtain⟨j',_,_,b1,b2,b3,b4,b5,_⟩:=get y hy;rw[←a3]at h1 hne;rw[←b3]at h2 hne;exact I.fd j j' b m m' (by omega) (by omega) a2 b2 (fun e=>hne (by rw[e])) a5 b5 (by omega) (by omega) h1 h2)
 refine⟨r1,r2,r3,fun b hb=>(r4 b hb).imp id ?_⟩;rintro⟨x,hx,m,hm⟩;obtain⟨j,b',m',a1,a2,a3,a4,a5,a6,_,_,_,a7⟩:=get x hx;rw[a6]at hm;obtain⟨rfl,rfl⟩:=Prod.mk.inj (Option.some.inj hm);exact⟨j,m',a1,a2,a4,a5,by rw[a3];exact a6,a7⟩
end
open Go Go.Eng
section
variable {P:Program}{n:Nat}{rc:RC}{B:Base}{γ γ':Gh}{h h':HS}{w w' w1:World}
variable {ops:Array Oper}{R:Nat→OI}{S:Nat→DS}{h0 H:HS}{T0:FT}{q0:Nat}{pss:List (List Nat)}{ds:List Nat}{L:Nat→Bool}{p:Nat}{a:Act}{Q:Exit→Act→World→Prop}{ro:Option Nat}
theorem TR.sT(D:TR P n ops rc h0 T0 q0 pss S): ∀j,j<ops.size→ ∀o',ops[j]? =some o'→ ∃c',(S (j+1)).T=(pdK n o'.dst).f c' (S j).T:=fun j _ o' ho'=>by
 obtain⟨_,c',_,hs⟩:=D.st j o' ho';exact⟨c',hs.T⟩
theorem TR.qlt(D:TR P n ops rc h0 T0 q0 pss S)(C:Chk P ops R){j:Nat}(hj:j<ops.size)(hk:(R j).kd=3):(S j).q+1=(S (j+1)).q:=by
 obtain⟨o,ps,c,ho,_,hs⟩:=D.op hj;rw[hs.q,if_pos (by rw[←C.kd j o ho];exact hk)]
theorem TR.qne(D:TR P n ops rc h0 T0 q0 pss S)(C:Chk P ops R){i j:Nat}(hi:i<ops.size)(hj:j<ops.size)(hki:(R i).kd=3)(hkj:(R j).kd=3)(hne:i≠j):(S i).q≠(S j).q:=by
 rcases Nat.lt_or_gt_of_ne hne with hlt|hlt
 ·have h1:=D.qlt C hi hki;have h2:=(D.mono (show i+1≤j by omega) (by omega)).2.1;omega
 have h1:=D.qlt C hj hkj;have h2:=(D.mono (show j+1≤i by omega) (by omega)).2.1;omega
theorem TR.bne(D:TR P n ops rc h0 T0 q0 pss S)(C:Chk P ops R){i j:Nat}(hi:i<ops.size)(hj:j<ops.size)(hki:(R i).kd=2)(hkj:(R j).kd=2)(hne:i≠j):(S i).bs.length≠(S j).bs.length:=by
 have st: ∀k,k<ops.size→(R k).kd=2→(S (k+1)).bs.length=(S k).bs.length+1:=fun k hk hkk=>by
  obtain⟨o,ps,c,ho,_,hs⟩:=D.op hk;rw[hs.len,if_pos (by rw[←C.kd k o ho];exact hkk)]
 rcases Nat.lt_or_gt_of_ne hne with hlt|hlt
 ·have h1:=st i hi hki;have h2:=(D.mono (show i+1≤j by omega) (by omega)).1;omega
 have h1:=st j hj hkj;have h2:=(D.mono (show j+1≤i by omega) (by omega)).1;omega
theorem DI.eff(I:DI P B ops R S h0 n ds L p H γ w a)(C:Chk P ops R)(D:TR P n ops rc h0 T0 q0 pss S)(hqN:(S ops.size).q≤h0.nx){i:Nat}{o:Oper}{c:CV}{v:Value}(hr:Rdy ops R L i)(hi:ops[i]? =some o)(hk:kindK P o.op=2)
 (hT:(S (i+1)).T=(pdK n o.dst).f c (S i).T) (hA:After γ (mergeP (S i).pd H) w c (S (i+1)).h v w'):
 ∃γ',DI P B ops R S h0 n ds (setL L i) (p+1) (S (i+1)).h γ' w' (a.put o.dst v):=by
 have hkd:(R i).kd=2:=by rw[C.kd i o hi];exact hk
 obtain⟨hp,hH⟩:=I.place C D hr hkd;have hlisted: ∀j,j<i→(R j).kd=3→L j=true:=fun j hj h3=>hr.be j (C.cf j i hj hr.lt (conf_a h3 hkd));obtain⟨G,V,hnx,hus⟩:=I.merge C D (Nat.le_of_lt hr.lt) hp hlisted;obtain⟨γ',g1,g2,g3⟩:=hA;obtain⟨_,_,c',_,hs⟩:=D.op hr.lt
 have hlen:(S (i+1)).bs.length=p+1:=by
  obtain⟨o',ps,c',ho',_,hs⟩:=D.op hr.lt;rw[hi]at ho';obtain rfl:=Option.some.inj ho';rw[hs.len,if_pos hk,hp]
 have hat:=D.full (show i+1≤ops.size by have:=hr.lt;omega);rw[hlen]at hat
 have free: ∀j o' co,ops[j]? =some o'→alcK P o'.op=some co→L j=true→p+1≤(S j).bs.length→ ∃b m,γ (S j).q=some (b,m)∧OR γ (hv w) (S j).q co∧ ¬Used γ (mergeP (S i).pd H) b∧B.w.heap.size≤b∧b<w.heap.size:=by
  intro j o' co hj ha hL hpj;obtain⟨b,m,k1,k2,k3,k4,k5⟩:=I.ff j o' co hj ha hL (by omega);refine⟨b,m,k1,k2,fun hu=>?_,k4,k5⟩;rcases hus b hu with hu|⟨j',m',e1,e2,e3,e4,e5,_⟩
  ·exact k3 hu
  have hjl:=(I.cl j hL).1;have hkj:(R j).kd=3:=by rw[C.kd j o' hj];exact alc_kind ha
  exact I.fd j j' b m m' hjl (by have:=hr.lt;omega) hkj e2 (fun e=>by subst e;omega) hL e4 (by omega) (by omega) k1 e5
 have ne: ∀{j:Nat},(R j).kd≠2→j≠i:=fun hj e=>by subst e;exact hj hkd
 refine⟨γ',hat,I.cl' hr,fun j hj h2=>?_,?_,G.trans g1,g2,put_size.trans I.size,put_defers.trans I.defers,fun d hd=>?_,I.nod,I.frame C hr hi hT D.sT g1.le (.inr g3),fun j hj h3 hL=>?_,fun j o' co hj ha hL hpj=>?_,fun j j' b m m' hj hj' h3 h3' hne hL hL' hpj hpj' hb hb'=>?_⟩
 ·by_cases e:j=i
  ·subst e;rw[setL_same,hp];simp
  rw[setL_ne e,I.ef j hj h2];have:=D.bne C hj hr.lt h2 hkd e;omega
 ·have:=g1.nx;have:=I.nx;omega
 ·obtain⟨k1,k2,k3⟩:=I.dss d hd;have hlt:d<w.heap.size:=lt_of_hv k1
  have hnu: ¬Used γ (mergeP (S i).pd H) d:=fun hu=>by
   rcases hus d hu with hu|⟨_,_,_,_,_,_,_,cur,ty,e6⟩
   ·exact k2 hu
   rw[k1]at e6;cases e6
  refine⟨(g1.pres d hlt (fun ho=>hnu ho.used)).trans k1,fun hu=>?_,k3⟩;rcases g1.used d hu with hu|hu
  ·exact hnu hu
  omega
 ·rw[setL_ne (ne (by omega))]at hL;have h4:=I.fn j hj h3 hL
  cases hg:γ' (S j).q with
  |none=>rfl
  |some x=>
    rcases g1.gnew _ _ hg with h5|h5
    ·rw[h4]at h5;cases h5
    have h6:=D.qlt C hj h3;have h7:=(D.mono (show j+1≤ops.size by omega) (Nat.le_refl _)).2.1;have:=I.nx;omega
 ·have hkj:(R j).kd=3:=by rw[C.kd j o' hj];exact alc_kind ha
  rw[setL_ne (ne (by omega))]at hL;obtain⟨b,m,k1,k2,k3,k4,k5⟩:=free j o' co hj ha hL hpj;have hsame:hv w' b=hv w b:=g1.pres b k5 (fun ho=>k3 ho.used);refine⟨b,m,g1.le _ _ k1,k2.up g1.le (fun b' m' hb'=>?_),fun hu=>?_,k4,by have:=g1.size;omega⟩
  ·rw[k1]at hb';obtain⟨rfl,_⟩:=Prod.mk.inj (Option.some.inj hb');exact hsame
  rcases g1.used b hu with hu|hu
  ·exact k3 hu
  omega
 rw[setL_ne (ne (by omega))]at hL hL'
 have get: ∀{j:Nat} {m:Nat},j<ops.size→(R j).kd=3→L j=true→p+1≤(S j).bs.length→γ' (S j).q=some (b,m)→γ (S j).q=some (b,m):=by
  intro j m hj h3 hL hpj hb;obtain⟨o',ps,c'',ho',_,hs'⟩:=D.op hj;have hk3:kindK P o'.op=3:=by rw[←C.kd j o' ho'];exact h3
  cases hs' with
  |q3 co _ _ ha _ _=>
    obtain⟨b',m',k1,_⟩:=free j o' co ho' ha hL hpj;have:=g1.le _ _ k1;rw[hb]at this;rw[k1,←this]
  |q0 k=>omega
  |s0 k=>omega
  |q1 k=>omega
  |q2 _ k=>omega
  |s2 k=>omega
 exact I.fd j j' b m m' hj hj' h3 h3' hne hL hL' (by omega) (by omega) (get hj h3 hL hpj hb) (get hj' h3' hL' hpj' hb')
theorem DI.alc(I:DI P B ops R S h0 n ds L p H γ w a)(C:Chk P ops R)(D:TR P n ops rc h0 T0 q0 pss S)(hqN:(S ops.size).q≤h0.nx)(hq0:B.h.nx≤q0){i:Nat}{o:Oper}{co:CO}{t:TypeId}{z:List CV}{cur:Array Value}(hr:Rdy ops R L i)(hi:ops[i]? =some o)(ha:alcK P o.op=some co)(hco:co= .c (lenF z) (wrC z 0 .nil))
 (hT:(S (i+1)).T=(pdK n o.dst).f (.p (S i).q 0) (S i).T) (hz:vals γ z=some cur.toList):
 DI P B ops R S h0 n ds (setL L i) p H (gput γ (S i).q (w.heap.size,cur.size)) (w.alloc (.cells cur t)) (a.put o.dst (.pointer (some ⟨w.heap.size,0,none⟩))):=by
 have hk:=alc_kind ha;have hkd:(R i).kd=3:=by rw[C.kd i o hi];exact hk
 have hq:=I.fn i hr.lt hkd hr.un
 have hle:Gh.le γ (gput γ (S i).q (w.heap.size,cur.size)):=fun j y hy=>by
  simp only[gput];rw[if_neg (by rintro rfl;rw[hq]at hy;cases hy)];exact hy
 have hgq:gput γ (S i).q (w.heap.size,cur.size) (S i).q=some (w.heap.size,cur.size):=by simp[gput]
 have hqb:(S i).q<h0.nx:=by
  have h6:=D.qlt C hr.lt hkd;have h7:=(D.mono (show i+1≤ops.size by have:=hr.lt;omega) (Nat.le_refl _)).2.1;omega
 have hnoH:hget H (S i).q= .no:=by
  have hrel:=I.inv.rel (S i).q
  cases ho:hget H (S i).q with
  |no=>rfl
  |_=>
    rw[ho]at hrel;obtain⟨b,m,h1,_⟩:=hrel.has rfl;rw[hq]at h1;cases h1
 have hold: ∀b,b<w.heap.size→(w.alloc (.cells cur t)).heap[b]? =w.heap[b]? :=fun b hb=>heap_alloc_old w _ hb;have usedlt: ∀b,Used γ H b→b<w.heap.size:=fun b hb=>I.inv.lt hb
 have back: ∀(f:CO→Bool) b,f .no=false→(∃k m,gput γ (S i).q (w.heap.size,cur.size) k=some (b,m)∧f (hget H k)=true)→ ∃k m,γ k=some (b,m)∧f (hget H k)=true:=by
  rintro f b hf ⟨k,m,hk',hfk⟩;simp only[gput]at hk';split at hk'
  ·rename_i e;subst e;rw[hnoH,hf]at hfk;cases hfk
  exact⟨k,m,hk',hfk⟩
 have hq0':q0≤(S i).q:=by
  have:=(D.mono (Nat.zero_le i) (Nat.le_of_lt hr.lt)).2.1;rw[D.z]at this;exact this
 have V':Inv (gput γ (S i).q (w.heap.size,cur.size)) H (w.alloc (.cells cur t)):=by
  refine⟨fun k x hk'=>?_,fun g hg=>?_,fun k k' b m m' h1 h2 h3 h4=>?_,fun k=>?_⟩
  ·simp only[gput]at hk';have:=I.nx;split at hk'
   ·omega
   exact I.inv.dom k x hk'
  ·obtain⟨m,hm⟩:=I.inv.glob g hg;exact⟨m,hle g _ hm⟩
  ·simp only[gput]at h1 h2;split at h1
   ·rename_i e;subst e;rw[hnoH]at h3;cases h3
   split at h2
   ·rename_i e;subst e;rw[hnoH]at h4;cases h4
   exact I.inv.inj k k' b m m' h1 h2 h3 h4
  by_cases hsm:some? (hget H k)=true
  ·exact(I.inv.rel k).up hle (fun b m hb=>hold b (usedlt b ⟨k,m,hb,hsm⟩))
  have:hget H k= .no:=by cases hh:hget H k<;>simp_all[some?]
  rw[this];trivial
 have G':Go1 B.γ B.h B.w (gput γ (S i).q (w.heap.size,cur.size)) H (w.alloc (.cells cur t)):=by
  have G:=I.go;refine⟨G.os,G.tape,G.out,Nat.le_trans G.size (by simp),Gh.le_trans G.le hle,G.nx,fun b hb hn=>(hold b (Nat.lt_of_lt_of_le hb G.size)).trans (G.pres b hb hn),fun b hb=>G.own b (back live b rfl hb),fun b hb=>G.used b (back some? b rfl hb),fun k x hk'=>?_⟩;simp only[gput]at hk';split at hk'
  ·exact .inr (by omega)
  exact G.gnew k x hk'
 have hwn:=wr_new (cur:=cur) (vals_up hle z _ hz) (fun j v hj=>by simpa using hj)
 have hOR:OR (gput γ (S i).q (w.heap.size,cur.size)) (hv (w.alloc (.cells cur t))) (S i).q co:=by
  rw[hco];exact OR_row hgq (hv_alloc_new w _) (by rw[lenF_eq];exact hwn.1) (fun j hj=>hwn.2 j (by rwa[lenF_eq]at hj))
 have ne: ∀{j:Nat},(R j).kd≠3→j≠i:=fun hj e=>by subst e;exact hj hkd
 have gne: ∀{j:Nat},j<ops.size→(R j).kd=3→j≠i→gput γ (S i).q (w.heap.size,cur.size) (S j).q=γ (S j).q:=fun hj h3 hne=>by
  simp only[gput];rw[if_neg (D.qne C hj hr.lt h3 hkd hne)]
 refine⟨I.at_,I.cl' hr,fun j hj h2=>?_,I.nx,G',V',put_size.trans I.size,put_defers.trans I.defers,fun d hd=>?_,I.nod,I.frame C hr hi hT D.sT hle (.inr (by simp[val,gput])),fun j hj h3 hL=>?_,fun j o' co' hj ha' hL hpj=>?_,fun j j' b m m' hj hj' h3 h3' hne hL hL' hpj hpj' hb hb'=>?_⟩
 ·rw[setL_ne (ne (by omega))];exact I.ef j hj h2
 ·obtain⟨k1,k2,k3⟩:=I.dss d hd;exact⟨(hold d (lt_of_hv k1)).trans k1,fun hu=>k2 (back some? d rfl hu),k3⟩
 ·have e:j≠i:=fun e=>by subst e;rw[setL_same]at hL;cases hL
  rw[setL_ne e]at hL;rw[gne hj h3 e];exact I.fn j hj h3 hL
 ·by_cases e:j=i
  ·subst e;rw[hi]at hj;obtain rfl:=Option.some.inj hj;rw[ha]at ha';obtain rfl:=Option.some.inj ha';refine⟨w.heap.size,cur.size,hgq,hOR,fun hu=>?_,I.go.size,by simp⟩;have:=usedlt _ (back some? _ rfl hu);omega
  rw[setL_ne e]at hL;have hjl:=(I.cl j hL).1;have hkj:(R j).kd=3:=by rw[C.kd j o' hj];exact alc_kind ha'
  obtain⟨b,m,k1,k2,k3,k4,k5⟩:=I.ff j o' co' hj ha' hL hpj;refine⟨b,m,hle _ _ k1,k2.up hle (fun b' m' hb'=>?_),fun hu=>k3 (back some? b rfl hu),k4,by simp;omega⟩;rw[k1]at hb';obtain⟨rfl,_⟩:=Prod.mk.inj (Option.some.inj hb');exact hold b k5
 have blk: ∀{j:Nat},j<ops.size→(R j).kd=3→j≠i→setL L i j=true→p≤(S j).bs.length→L j=true∧ ∀b m,γ (S j).q=some (b,m)→b<w.heap.size:=by
  intro j hj h3 hne hL hpj;rw[setL_ne hne]at hL;refine⟨hL,fun b m hb=>?_⟩;obtain⟨o',ps,c'',ho',_,hs'⟩:=D.op hj;have hk3:kindK P o'.op=3:=by rw[←C.kd j o' ho'];exact h3
  cases hs' with
  |q3 co _ _ ha _ _=>
    obtain⟨b',m',k1,_,_,_,k5⟩:=I.ff j o' co ho' ha hL hpj;rw[hb]at k1;obtain⟨rfl,_⟩:=Prod.mk.inj (Option.some.inj k1);exact k5
  |q0 k=>omega
  |s0 k=>omega
  |q1 k=>omega
  |q2 _ k=>omega
  |s2 k=>omega
 by_cases e1:j=i
 ·subst e1;obtain⟨h1,h2⟩:=blk hj' h3' (Ne.symm hne) hL' hpj';rw[gne hj' h3' (Ne.symm hne)]at hb';rw[hgq]at hb;obtain⟨rfl,_⟩:=Prod.mk.inj (Option.some.inj hb);have:=h2 _ _ hb';omega
 obtain⟨h1,h2⟩:=blk hj h3 e1 hL hpj;rw[gne hj h3 e1]at hb;by_cases e2:j'=i
 ·subst e2;rw[hgq]at hb';obtain⟨rfl,_⟩:=Prod.mk.inj (Option.some.inj hb');have:=h2 _ _ hb;omega
 obtain⟨h1',_⟩:=blk hj' h3' e2 hL' hpj';rw[gne hj' h3' e2]at hb';exact I.fd j j' b m m' hj hj' h3 h3' hne h1 h1' hpj hpj' hb hb'
theorem DI.load(I:DI P B ops R S h0 n ds L p H γ w a)(C:Chk P ops R)(D:TR P n ops rc h0 T0 q0 pss S){ois:List OI}(hois:ois.length=ops.size)(hR:R=fun i=>ois.getD i ⟨0,0,0,0⟩)(hpss:pss=winsK ois ois 0)
 (hch:chkW (h0::(S ops.size).bs.reverse) (S ops.size).ws=true) {i:Nat} {o:Oper} {c:CV} {ps:List Nat} (hr:Rdy ops R L i) (hi:ops[i]? =some o) (hps:pss[i]? =some ps) (hk:kindK P o.op=1) (hc:(loadK P o.op).f (S i).T (S i).h=c)
 (hws:(loadK P o.op,(S i).T,c,ps)∈(S (i+1)).ws):(loadK P o.op).f (S i).T H=c:=by
 have hkd:(R i).kd=1:=by rw[C.kd i o hi];exact hk
 have hlt:=hr.lt;have e1:ois[i]? =some (R i):=by rw[hR];simp[hois,hlt]
 have e2:=wins_spec (all:=ois) ois 0 i (R i) e1;rw[←hpss,hps,hkd]at e2;simp only[Nat.zero_add]at e2;obtain rfl:=Option.some.inj e2;have hmem:=(D.mono (show i+1≤ops.size by omega) (Nat.le_refl _)).2.2.1 _ hws;have hcp:=chkW_spec hch _ hmem
 have hstep: ∀(k:Nat) (y:OI),ois[k]? =some y→(S (0+k+1)).bs.length=(S (0+k)).bs.length+(if y.kd=2 then 1 else 0):=by
  intro k y hk';have hkl:k<ops.size:=by rw[←hois];exact(List.getElem?_eq_some_iff.1 hk').1
  obtain⟨o',ps',c',ho',_,hs⟩:=D.op hkl;rw[Nat.zero_add,hs.len];have:y.kd=kindK P o'.op:=by rw[←C.kd k o' ho',hR];simp only;rw[List.getD_eq_getElem?_getD,hk'];rfl
  rw[this]
 have at0:(S 0).bs.length=0:=by rw[D.z];rfl
 have win:=fun k y h1 h2=>win_spec (x:=R i) (i:=i) (S:=S) ois 0 hstep k y h1 h2;rw[at0]at win;simp only[Nat.zero_add]at win;have oo: ∀{j:Nat},j<ops.size→ois[j]? =some (R j):=fun{j} hj=>by rw[hR];simp[hois,hj]
 have fin:p∈winK (R i) i ois 0 0→(loadK P o.op).f (S i).T H=c:=by
  intro hp;obtain⟨b,hb1,hb2⟩:=chkP_spec hcp p hp;rw[I.at_]at hb1;obtain rfl:=Option.some.inj hb1;exact cvE_eq hb2
 rcases Nat.lt_trichotomy p (S i).bs.length with hlt'|heq|hgt
 ·obtain⟨j,o',hj,ho',hkj,hpj⟩:=D.nth i (Nat.le_of_lt hlt) p hlt';have hjs:j<ops.size:=by omega
  have hkdj:(R j).kd=2:=by rw[C.kd j o' ho'];exact hkj
  have hLj:L j=false:=by
   cases hh:L j with
   |false=>rfl
   |true=>have:=(I.ef j hjs hkdj).1 hh;omega
  have htb:tb (R i).bm j=false:=by
   cases hh:tb (R i).bm j with
   |false=>rfl
   |true=>have:=hr.be j hh;rw[hLj]at this;cases this
  have:=(win j (R j) (oo hjs) hkdj).1 hj htb;rw[hpj]at this;exact fin this
 ·have h4:=D.full (Nat.le_of_lt hlt);rw[←heq,I.at_]at h4;rw[Option.some.inj h4];exact hc
 have hpN:p≤(S ops.size).bs.length:=by
  have:=(List.getElem?_eq_some_iff.1 I.at_).1;simp at this;omega
 obtain⟨j,o',hj,ho',hkj,hpj⟩:=D.nth ops.size (Nat.le_refl _) (p-1) (by omega);have hkdj:(R j).kd=2:=by rw[C.kd j o' ho'];exact hkj
 have hLj:L j=true:=(I.ef j hj hkdj).2 (by omega)
 have hij:i≤j:=by
  rcases Nat.lt_or_ge j i with hh|hh
  ·have h5:(S (j+1)).bs.length=(S j).bs.length+1:=by
    have:=hstep j (R j) (oo hj);rwa[Nat.zero_add,if_pos hkdj]at this
   have h6:=(D.mono (show j+1≤i by omega) (by omega)).1;omega
  exact hh
 have htb:tb (R j).bm i=false:=by
  cases hh:tb (R j).bm i with
  |false=>rfl
  |true=>have:=(I.cl j hLj).2 i hh;rw[hr.un]at this;cases this
 have:=(win j (R j) (oo hj) hkdj).2 hij htb;rw[hpj,show p-1+1=p by omega]at this;exact fin this
end
open Go Go.Eng
section
variable {P:Program}{n:Nat}{rc:RC}{B:Base}{γ γ':Gh}{h h':HS}{w w' w1:World}
variable {ops:Array Oper}{R:Nat→OI}{S:Nat→DS}{h0 H:HS}{T0 T T':FT}{q0:Nat}{pss:List (List Nat)}{ds:List Nat}{L:Nat→Bool}{p:Nat}{a:Act}{Q:Exit→Act→World→Prop}{ro:Option Nat}
def cntU(L:Nat→Bool):Nat→Nat
 |0=>0
 |N+1=>cntU L N+(if L N=true then 0 else 1)
theorem cntU_set{L:Nat→Bool}{i:Nat}(hi:L i=false): ∀N,cntU (setL L i) N+(if i<N then 1 else 0)=cntU L N
 |0=>rfl
 |N+1=>by
   have ih:=cntU_set hi N;simp only[cntU];by_cases e:N=i
   ·subst e;rw[setL_same,hi];simp at ih ⊢;omega
   rw[setL_ne e];by_cases h1:i<N
   ·have h2:i<N+1:=by omega
    simp only[h1,h2,if_true]at ih ⊢;omega
   have h2: ¬i<N+1:=by omega
   simp only[h1,h2,if_false]at ih ⊢;omega
theorem cntU_all{L:Nat→Bool}: ∀N,cntU L N=0→ ∀i,i<N→L i=true
 |0,_,i,hi=>by omega
 |N+1,h,i,hi=>by
   simp only[cntU]at h;by_cases e:i=N
   ·subst e;by_cases hL:L i=true
    ·exact hL
    rw[if_neg hL]at h;omega
   exact cntU_all N (by omega) i (by omega)
theorem nodef_k{o:Oper}(hk:kindK P o.op≠2):nodef o=true:=by
 obtain⟨d,op,ty,pos,af,g⟩:=o;cases op<;>first|rfl|exact absurd rfl hk
theorem nodef_e{o:Oper}{c:CV}(hc:(effK P o.op).f rc T h= .ok c h'):nodef o=true:=by
 obtain⟨d,op,ty,pos,af,g⟩:=o;cases op<;>first|rfl|(exfalso;cases hc)
theorem ready_iff{ops:Array Oper}{L:Array Bool}(hs:L.size=ops.size){i:Nat}:i∈Region.ready .any ops L↔ ∃o,ops[i]? =some o∧L.getD i false=false∧ ∀e∈o.after.toList,Region.binds .any e=true→L.getD e.on false=true:=by
 unfold Region.ready;simp only[List.mem_filter,List.mem_range,Bool.and_eq_true,Bool.not_eq_true']
 have hg:i<ops.size→L.getD i true=L.getD i false:=fun hi=>by
  have:i<L.size:=by omega
  simp[this]
 constructor
 ·rintro⟨h1,h2,h3⟩;have ho:ops[i]? =some ops[i]:=by simp[h1]
  rw[ho]at h3;simp only[Option.map_some,Option.getD_some,Array.all_eq_true_iff_forall_mem,Bool.or_eq_true,Bool.not_eq_true']at h3;refine⟨_,ho,by rw[←hg h1];exact h2,fun e he hb=>?_⟩;rcases h3 e (by simpa using he)with h4|h4
  ·rw[hb]at h4;cases h4
  exact h4
 rintro⟨o,ho,h1,h2⟩;have hi:=(Array.getElem?_eq_some_iff.1 ho).1;refine⟨hi,by rw[hg hi];exact h1,?_⟩;rw[ho];simp only[Option.map_some,Option.getD_some,Array.all_eq_true_iff_forall_mem,Bool.or_eq_true,Bool.not_eq_true'];intro e he;by_cases hb:Region.binds .any e=true
 ·exact .inr (h2 e (by simpa using he) hb)
 exact .inl (by simpa using hb)
theorem set_L{L:Array Bool}{i:Nat}(hi:i<L.size):(fun j=>(L.setIfInBounds i true).getD j false)=setL (fun j=>L.getD j false) i:=by
 funext j;by_cases e:j=i
 ·subst e;simp[setL,hi]
 rw[setL_ne e];simp only[Array.getD_eq_getD_getElem?];rw[Array.getElem?_setIfInBounds_ne (Ne.symm e)]
theorem DI.fin(I:DI P B ops R S h0 n ds L p H γ w a)(C:Chk P ops R)(D:TR P n ops rc h0 T0 q0 pss S)(hall: ∀i,i<ops.size→L i=true):St B γ (mergeP (S ops.size).pd (S ops.size).h) w (S ops.size).T n ds a:=by
 have hpN:p≤(S ops.size).bs.length:=by
  have:=(List.getElem?_eq_some_iff.1 I.at_).1;simp at this;omega
 have hp:(S ops.size).bs.length=p:=by
  rcases Nat.lt_or_eq_of_le hpN with hlt|heq
  ·obtain⟨j,o,hj,ho,hk,hpj⟩:=D.nth ops.size (Nat.le_refl _) p hlt;have:=(I.ef j hj (by rw[C.kd j o ho];exact hk)).1 (hall j hj);omega
  exact heq.symm
 have hH:=D.full (Nat.le_refl ops.size);rw[hp,I.at_]at hH;obtain rfl:=Option.some.inj hH;obtain⟨G,V,hnx,hus⟩:=I.merge C D (Nat.le_refl _) hp (fun j hj _=>hall j hj);refine⟨G,V,I.size,I.defers,fun k=>I.fr k ops.size (Nat.le_refl _) (fun i o hi _ _=>hall i hi) (fun i o hi ho _=>?_),fun d hd=>?_,I.nod⟩
 ·have:=(Array.getElem?_eq_some_iff.1 ho).1;omega
 obtain⟨k1,k2,k3⟩:=I.dss d hd;refine⟨k1,fun hu=>?_,k3⟩;rcases hus d hu with hu|⟨_,_,_,_,_,_,_,cur,ty,e6⟩
 ·exact k2 hu
 rw[k1]at e6;cases e6
theorem any_ok(hrc:RcOk P rc)(C:Chk P ops R)(D:TR P n ops rc h0 T0 q0 pss S){ois:List OI}(hois:ois.length=ops.size)(hR:R=fun i=>ois.getD i ⟨0,0,0,0⟩)(hpss:pss=winsK ois ois 0)(hch:chkW (h0::(S ops.size).bs.reverse) (S ops.size).ws=true)
 (hqN:(S ops.size).q≤h0.nx) (hq0:B.h.nx≤q0) (hQ: ∀γ' w' a',St B γ' (mergeP (S ops.size).pd (S ops.size).h) w' (S ops.size).T n ds a'→Q .normal a' w'):
 ∀(fuel:Nat) (L:Array Bool) (p:Nat) (H:HS) (γ:Gh) (w:World) (a:Act),L.size=ops.size→DI P B ops R S h0 n ds (fun i=>L.getD i false) p H γ w a→cntU (fun i=>L.getD i false) ops.size≤fuel→wpAnyIn (Fx ro) 0 P .any ops Q fuel L a w:=by
 intro fuel
 induction fuel with
 |zero=>
   intro L p H γ w a hs I hf;have hall:=cntU_all ops.size (Nat.le_zero.1 hf);refine⟨?_,hQ _ _ _ (I.fin C D hall)⟩;refine List.eq_nil_iff_forall_not_mem.2 fun i hi=>?_;obtain⟨o,ho,h1,_⟩:=(ready_iff hs).1 hi;have h2:=hall i (Array.getElem?_eq_some_iff.1 ho).1;rw[h1]at h2;cases h2
 |succ fuel ih=>
   intro L p H γ w a hs I hf;refine⟨fun hnil=>hQ _ _ _ (I.fin C D fun i hi=>?_),fun i hi=>?_⟩
   ·induction i using Nat.strongRecOn with
    |_ i ihi=>
      cases hL:L.getD i false with
      |true=>rfl
      |false=>
        exfalso;have ho:ops[i]? =some ops[i]:=by simp[hi]
        have:i∈Region.ready .any ops L:=(ready_iff hs).2 ⟨_,ho,hL,fun e he hb=>ihi e.on (C.of i _ e ho he hb) (by have:=C.of i _ e ho he hb;omega)⟩;rw[hnil]at this;cases this
   obtain⟨o,ho,h1,h2⟩:=(ready_iff hs).1 hi;have hr:Rdy ops R (fun i=>L.getD i false) i:=I.closed C ho h1 h2;have hlt:=hr.lt;have hset:=set_L (L:=L) (i:=i) (by omega)
   have next: ∀{p':Nat} {H':HS} {γ':Gh} {w':World} {a':Act},DI P B ops R S h0 n ds (setL (fun i=>L.getD i false) i) p' H' γ' w' a'→wpAnyIn (Fx ro) 0 P .any ops Q fuel (L.setIfInBounds i true) a' w':=by
    intro p' H' γ' w' a' I';refine ih _ p' H' γ' w' a' (by simpa using hs) (by rw[hset];exact I') ?_;rw[hset];have:=cntU_set (L:=fun i=>L.getD i false) h1 ops.size;rw[if_pos hlt]at this;omega
   have hops: ∀x∈o.op.operands,SR γ ((oK x).f (S i).T) (a.eval x):=fun x hx=>SR_op I.inv.glob x (fun t e=>I.reads C hr (C.rm i o t ho (e▸hx)));have hwk: ∀{b:Bool},(wK ops.toList o).f (S i).T=some b→Region.wanted o (yielded ops a.tmps)=b:=fun hw=>wK_ok (γ:=γ) (T:=(S i).T) (fun g hg=>I.reads C hr (C.gm i o g ho hg)) hw;obtain⟨ps,c,hps,hst⟩:=D.st i o ho;unfold wpOpIn;rw[ho];simp only
   cases hst with
   |q0 k hw hu hc e=>
     rw[if_pos (hwk hw)];obtain⟨v,h3,h4⟩:=pure_ok (P:=P) (w:=w) (ac:=a) o hc hu hops;refine fx_of_wide (nodef_k (P:=P) (by omega)) (wide_of_wp ?_);unfold Oper.wp;rw[h3];exact next (I.quiet C D hr ho (by rw[e]) (by omega) (.inr h4))
   |s0 k hw hc e=>
     rw[if_neg (by rw[hwk hw];simp)];subst hc;exact⟨fun _ _=>trivial,next (I.quiet C D hr ho (c:=undC) (by rw[e]) k (.inr rfl))⟩
   |q1 k hw hu hc e=>
     rw[if_pos (hwk hw)];have hload:=I.load C D hois hR hpss hch hr ho hps k hc (by rw[e];exact List.mem_cons_self ..);obtain⟨v,h3,h4⟩:=load_ok (P:=P) (ac:=a) o I.inv hload hu hops;refine fx_of_wide (nodef_k (P:=P) (by omega)) (wide_of_wp ?_);unfold Oper.wp;rw[h3];exact next (I.quiet C D hr ho (by rw[e]) (by omega) (.inr h4))
   |q2 h1' k hw hc e=>
     rw[if_pos (hwk hw)];have hkd:(R i).kd=2:=by rw[C.kd i o ho];exact k
     obtain⟨hp,hH⟩:=I.place C D hr hkd;obtain⟨_,V,_,_⟩:=I.merge C D (Nat.le_of_lt hlt) hp (fun j hj h3=>hr.be j (C.cf j i hj hlt (conf_a h3 hkd)));rw[hH]at hc;refine fx_of_wide (nodef_e hc) (eff_wp hrc V o hc hops fun v w' hA=>?_);obtain⟨γ',I'⟩:=I.eff C D hqN hr ho k (by rw[e]) (by rw[e];exact hA);exact next I'
   |s2 k hw hc e=>
     rw[if_neg (by rw[hwk hw];simp)];have hkd:(R i).kd=2:=by rw[C.kd i o ho];exact k
     obtain⟨hp,hH⟩:=I.place C D hr hkd;obtain⟨_,V,_,_⟩:=I.merge C D (Nat.le_of_lt hlt) hp (fun j hj h3=>hr.be j (C.cf j i hj hlt (conf_a h3 hkd)));subst hc;obtain⟨γ',I'⟩:=I.eff C D hqN hr ho k (by rw[e]) (v:=undef) (w':=w) (by rw[e,hH];exact⟨γ,Go1.refl _ _ _,V,rfl⟩);exact⟨fun _ _=>trivial,next I'⟩
   |q3 co k hg ha hc e=>
     have hw:Region.wanted o (yielded ops a.tmps)=true:=by simp[Region.wanted,hg]
     rw[if_pos hw];obtain⟨t,z,hop,hz,hco⟩:=alc_c ha;obtain⟨cur,hrun,hv⟩:=alc_ok (P:=P) hz I.inv;refine fx_of_wide (nodef_k (P:=P) (by omega)) (wide_of_wp ?_);unfold Oper.wp
     have hex:(execOp a.eval o).run P w= .ok (.value (.pointer (some ⟨w.heap.size,0,none⟩))) (w.alloc (.cells cur t)):=by
      obtain⟨d,op,ty,pos,af,g⟩:=o;simp only at hop;subst hop;exact run_v hrun
     rw[hex];exact next (I.alc C D hqN hq0 hr ho ha hco (by rw[e,hc]) hv)
theorem draw_ok(hrc:RcOk P rc)(hm:P.follows .mixedOrders=true){id:Nat}(S0:St B γ h w T n ds a)(hc:(drawR P n ops.toList).f rc T h= .ok T' h')(hQ: ∀γ' w' a',St B γ' h' w' T' n ds a'→Q .normal a' w'):
 (Code.region id ops true).wpIn (Fx ro) 0 P Q a w:=by
 refine wpIn_region_any hm ?_;show wpAnyIn (Fx ro) 0 P .any ops Q ops.size (Array.replicate ops.size false) a w.drew;unfold drawR at hc
 cases hall:allOk (oisK P ops.toList ops.toList []) []with
 |false=>rw[hall]at hc;cases hc
 |true=>
   rw[hall]at hc;simp only[cond_true]at hc;obtain⟨C,hois⟩:=chk_of hall;split at hc
   ·cases hc
   rename_i sN hsN
   cases hch:chkW (⟨h.H,h.nx+flts P ops.toList⟩::sN.bs.reverse) sN.ws with
   |false=>rw[hch]at hc;cases hc
   |true=>
     rw[hch]at hc;simp only[cond_true,To.ok.injEq]at hc;obtain⟨rfl,rfl⟩:=hc;obtain⟨S,z1,z2,z3,z4⟩:=draw_seq ops.toList _ _ _ hsN;simp only[Array.length_toList]at z2;have D:TR P n ops rc ⟨h.H,h.nx+flts P ops.toList⟩ T h.nx (winsK (oisK P ops.toList ops.toList []) (oisK P ops.toList ops.toList []) 0) S:=⟨z1,fun i o hi=>z3 i o (by simpa using hi)⟩;subst z2
     have I0:DI P B ops (fun i=>(oisK P ops.toList ops.toList []).getD i ⟨0,0,0,0⟩) S ⟨h.H,h.nx+flts P ops.toList⟩ n ds (fun i=>(Array.replicate ops.size false).getD i false) 0 ⟨h.H,h.nx+flts P ops.toList⟩ γ w.drew a:=by
      have hL: ∀i,(Array.replicate ops.size false).getD i false=false:=fun i=>by
       rw[Array.getD_eq_getD_getElem?];by_cases hi:i<ops.size<;>simp[hi]
      have noL: ∀{i:Nat} {X:Prop},(Array.replicate ops.size false).getD i false=true→X:=fun{i X} hh=>by rw[hL]at hh;cases hh
      have G:=S0.go
      refine⟨rfl,fun i hi=>noL hi,fun j _ _=>?_,Nat.le_refl _,⟨G.os,Tp.trans (Tp.one _) G.tape,G.out,G.size,G.le,Nat.le_trans G.nx (Nat.le_add_right _ _),G.pres,G.own,G.used,G.gnew⟩,
       ⟨fun k x hk=>Nat.lt_of_lt_of_le (S0.inv.dom k x hk) (Nat.le_add_right _ _),S0.inv.glob,S0.inv.inj,S0.inv.rel⟩,S0.size,S0.defers,S0.dss,S0.nod,fun k j hj h1 h2=>?_,fun j hj h3 _=>?_,fun j o co _ _ hh=>noL hh,fun j j' b m m' _ _ _ _ _ hh=>noL hh⟩
      ·simp only[hL];simp
      ·have same: ∀m,m≤j→fget (S m).T k=fget T k:=by
        intro m
        induction m with
        |zero=>intro _;rw[D.z]
        |succ m ih=>
          intro hm;have hms:m<ops.size:=by omega
          have hom:ops[m]? =some ops[m]:=by simp[hms]
          obtain⟨c',hc'⟩:=D.sT m hms _ hom;rw[hc',pd_get,if_neg,ih (by omega)];rintro⟨hdm,_⟩;exact noL (h1 m _ (by omega) hom hdm)
       rw[same j (Nat.le_refl _)];exact S0.slots k
      have h5:=(D.mono (Nat.zero_le j) (Nat.le_of_lt hj)).2.1;rw[D.z]at h5
      cases hg:γ (S j).q with
      |none=>rfl
      |some x=>
        have:=S0.inv.dom _ _ hg;simp only at h5;omega
     refine any_ok hrc C D hois rfl rfl hch (by rw[z4];exact Nat.le_refl _) S0.go.nx hQ ops.size _ 0 _ γ w.drew a (by simp) I0 ?_
     have: ∀N,cntU (fun i=>(Array.replicate ops.size false).getD i false) N≤N:=by
      intro N
      induction N with
      |zero=>exact Nat.le_refl _
      |succ N ih=>simp only[cntU];split<;>omega
     exact this ops.size
end
open Go Go.Eng
def exo:Ex→Exit
 | .n=> .normal
 | .ret=> .ret
 | .ex i=> .exit i
section
variable {P:Program}{n:Nat}{rc:RC}{B:Base}{γ γ':Gh}{h h':HS}{w w' w1:World}{T T':FT}{ds:List Nat}{a:Act}{e:Ex}
def CodeOk(P:Program)(rc:RC)(n:Nat)(c:Code):Prop:= ∀(rf:Bool) (ro:Option Nat),(rf=true→ro=none)→ ∀{B:Base} {γ:Gh} {h h':HS} {w:World} {T T':FT} {ds:List Nat} {a:Act} {e:Ex} {Q:Exit→Act→World→Prop},
 St B γ h w T n ds a→(cK P rf n c).f rc T h= .o e T' h'→(∀γ' w' ds' a',St B γ' h' w' T' n ds' a'→Q (exo e) a' w')→c.wpIn (Fx ro) 0 P Q a w
theorem loop_ok{x:Code}(hx:CodeOk P rc n x){rf:Bool}{ro:Option Nat}(hro:rf=true→ro=none){Q:Exit→Act→World→Prop}:
 ∀(m:Nat) {γ:Gh} {h h':HS} {w:World} {T T':FT} {ds:List Nat} {a:Act} {e:Ex},St B γ h w T n ds a→loopN ((cK P rf n x).f rc) m T h= .o e T' h'→(∀γ' w' ds' a',St B γ' h' w' T' n ds' a'→Q (exo e) a' w')→Code.roundsIn (Fx ro) 0 P x Q m a w
 |0,γ,h,h',w,T,T',ds,a,e,_,hc,_=>by
   have hc':Out.no= .o e T' h':=hc;cases hc'
 |m+1,γ,h,h',w,T,T',ds,a,e,S,hc,hQ=>by
   have hc':(match(cK P rf n x).f rc T h with
    | .o .n T h=>loopN ((cK P rf n x).f rc) m T h
    | .o .ret T h=> .o .ret T h
    | .o (.ex i) T h=> .o (.ex i) T h
    | .no=> .no)= .o e T' h':=hc
   rw[roundsIn_succ];split at hc'
   ·rename_i T1 h1 hx1;exact hx rf ro hro S hx1 fun γ' w' ds' a' S'=>loop_ok hx hro m S' hc' hQ
   ·rename_i T1 h1 hx1;simp only[Out.o.injEq]at hc';obtain⟨rfl,rfl,rfl⟩:=hc';exact hx rf ro hro S hx1 fun γ' w' ds' a' S'=>hQ _ _ _ _ S'
   ·rename_i i T1 h1 hx1;simp only[Out.o.injEq]at hc';obtain⟨rfl,rfl,rfl⟩:=hc';exact hx rf ro hro S hx1 fun γ' w' ds' a' S'=>hQ _ _ _ _ S'
   cases hc'
theorem Inv.keep(V:Inv γ h w)(hk: ∀b,Used γ h b→w1.heap[b]? =w.heap[b]?):Inv γ h w1:=
 ⟨V.dom,V.glob,V.inj,fun k=>by
  by_cases hsm:some? (hget h k)=true
  ·exact(V.rel k).up (Gh.le_refl _) (fun b m hb=>hk b ⟨k,m,hb,hsm⟩)
  have:hget h k= .no:=by cases hh:hget h k<;>simp_all[some?]
  rw[this];trivial⟩
theorem range_ok(hrc:RcOk P rc){g:Operand}{ps:Array Tmp}{assign body:Code}{Q:Exit→Act→World→Prop}(S:St B γ h w T n ds a)(hc:rngO rc n T h ps.toList assign body ((oK g).f T)= .o e T' h')
 (hQ: ∀γ' w' ds' a',St B γ' h' w' T' n ds' a'→Q (exo e) a' w'):(Code.rangeFunc g ps assign body).wpIn (Fx none) 0 P Q a w:=by
 unfold rngO at hc;split at hc
 ·rename_i fid caps hg;have hgv:=S.ops g;rw[hg]at hgv;refine wpIn_rangeFunc fun fn _=>?_;have hen:=run_enterLoop_outer (P:=P) (w:=w) fn a.tmps ps assign body;have VD:Inv γ h (w.alloc (.deferred (some []))):=S.inv.keep (fun b hb=>heap_alloc_old w _ (S.inv.lt hb));have GD:Go1 γ h w γ h (w.alloc (.deferred (some []))):=⟨rfl,Tp.rfl _,rfl,by simp,Gh.le_refl _,Nat.le_refl _,fun b hb _=>heap_alloc_old w _ hb,fun b hb=> .inl hb,fun b hb=> .inl hb,fun _ _ hk=> .inl hk⟩;have hszD:(w.alloc (.deferred (some []))).heap.size=w.heap.size+1:=by simp
  obtain⟨V1,G1⟩:=VD.new (w1:=(w.alloc (.deferred (some []))).alloc (.loop ⟨.ready,none,fn,a.tmps,ps,assign,body,w.heap.size⟩)) (sz:=0) (o:= .l 0 none n T ps.toList assign body) rfl (Tp.rfl _) rfl (by simp) (fun b hb=>heap_alloc_old _ _ hb)
   ⟨(w.alloc (.deferred (some []))).heap.size,0,fn,a.tmps,w.heap.size,by simp[gput],hv_alloc_new _ _,S.size,fun k=>(S.slots k).up (VD.gle (Nat.le_refl _) _)⟩
  generalize hW1:(w.alloc (.deferred (some []))).alloc (.loop ⟨.ready,none,fn,a.tmps,ps,assign,body,w.heap.size⟩)=W1 at hen V1 G1;have hgl:gput γ h.nx ((w.alloc (.deferred (some []))).heap.size,0) h.nx=some (w.heap.size+1,0):=by rw[hszD];simp[gput]
  generalize hγ1:gput γ h.nx ((w.alloc (.deferred (some []))).heap.size,0)=γ1 at V1 G1 hgl;unfold aftR at hc;split at hc
  ·cases hc
  rename_i v hE hrun;have hgv1:SR γ1 (.f fid caps) (a.eval g):=hgv.up G1.le;have hcall:=hrc (vs:=[.func (.yield (w.heap.size+1)) #[] #[]]) hrun V1 hgv1 ⟨.inr (by simp[val,hgl]),trivial⟩
  have hnf: ∃cs,a.eval g= .func (.func fid) #[] cs:=by
   have:=hgv.get rfl;simp only[val]at this;split at this
   ·exact⟨_,(Option.some.inj this).symm⟩
   cases this
  rcases hcall with⟨f,cs,hf,hfn,hcalls⟩|⟨f,cs,v',w',hf,_,_,s,hs⟩|⟨l,hf,_⟩
  ·refine⟨w.heap.size+1,[{target:= .collected w.heap.size,args:= #[]}],W1,{target:= .fn (.func f) cs,args:= #[.func (.yield (w.heap.size+1)) #[] #[]]},W1,f, #[.func (.yield (w.heap.size+1)) #[] #[]]++cs,W1,hen,?_,fun _ _=>trivial,?_,⟨fun hd=>by simp at hd,?_⟩⟩
   ·simp only[resolve,hf];simp[go_sem]
   ·simp only[invoke,hfn.enter]
   refine callsIn_wide.2 (hcalls.mono fun en w' he=>?_);obtain⟨v2,rfl,γ',G2,V2,_⟩:=he;have hrel:=V2.rel h.nx;unfold aftO at hc;split at hc
   ·rename_i st pd m T0 ps' as' bd' hob;rw[hob]at hrel
    cases hst:Nat.beq st 1 with
    |true=>rw[hst]at hc;cases hc
    |false=>
      rw[hst]at hc;simp only[cond_false]at hc;obtain⟨b,n0,fn',tmps',D',k1,k2,k3,k4⟩:=hrel;have k1':=G2.le _ _ hgl;rw[k1]at k1';obtain⟨rfl,rfl⟩:=Prod.mk.inj (Option.some.inj k1')
      have hnb:lst st≠ .busy:=by
       match st,hst with
       |0,_=>intro hh;cases hh
       |1,hst=>cases hst
       |st+2,_=>intro hh;cases hh
      have hend:=run_endLoop (P:=P) (w:=w') (r:=⟨lst st,pd,fn',tmps',ps'.toArray,as',bd',D'⟩) k2 hnb;have hlt:w.heap.size+1<w'.heap.size:=lt_of_hv k2;obtain⟨V3,G3⟩:=V2.put (w1:=w'.putObj (w.heap.size+1) (.loop ⟨.exhausted,pd,fn',tmps',ps'.toArray,as',bd',D'⟩)) (o:= .no) k1 (by rw[hob];rfl) rfl (Tp.rfl _) rfl (by simp) (fun b' hb'=>World.putObj_heap_other hb') trivial;generalize hW4:w'.putObj (w.heap.size+1) (.loop ⟨.exhausted,pd,fn',tmps',ps'.toArray,as',bd',D'⟩)=W4 at V3 G3;have GB:=(G1.trans G2).trans G3;have hdd:hv (w.alloc (.deferred (some []))) w.heap.size=some (.deferred (some [])):=hv_alloc_new w _
      have SF:St B γ' (hput hE h.nx .no) W4 T n (w.heap.size::ds) {a with defers:=[{target:= .collected w.heap.size,args:= #[]}]++a.defers}:=by
       have keep: ∀D,hv (w.alloc (.deferred (some []))) D=some (.deferred (some []))→ ¬Used γ h D→hv W4 D=some (.deferred (some []))∧ ¬Used γ' (hput hE h.nx .no) D:=by
        intro D h1 h2;have hD:=lt_of_hv h1;refine⟨(GB.pres D hD (fun ho=>h2 ho.used)).trans h1,fun hu=>?_⟩;rcases GB.used D hu with hu|hu
        ·exact h2 hu
        omega
       refine⟨(S.go.trans GD).trans GB,V3,S.size,by show _=marks (w.heap.size::ds);simp[S.defers,marks],fun k=>(S.slots k).up GB.le,fun D hD=>?_,List.nodup_cons.2 ⟨fun hD=>?_,S.nod⟩⟩
       ·rcases List.mem_cons.1 hD with rfl|hD
        ·obtain⟨h1,h2⟩:=keep w.heap.size hdd (fun hu=>by have:=S.inv.lt hu;omega);exact⟨h1,h2,S.go.size⟩
        obtain⟨h1,h2,h3⟩:=S.dss D hD;obtain⟨h4,h5⟩:=keep D ((heap_alloc_old w _ (lt_of_hv h1)).trans h1) h2;exact⟨h4,h5,h3⟩
       have:=lt_of_hv (S.dss _ hD).1;omega
      refine⟨pd,W4,by rw[←hW4];exact hend,?_⟩;split at hc
      ·simp only[Out.o.injEq]at hc;obtain⟨rfl,rfl,rfl⟩:=hc;exact hQ _ _ _ _ SF
      ·simp only[Out.o.injEq]at hc;obtain⟨rfl,rfl,rfl⟩:=hc;exact wpIn_ret (hQ _ _ _ _ SF)
      ·simp only[Out.o.injEq]at hc;obtain⟨rfl,rfl,rfl⟩:=hc;exact wpIn_exit (hQ _ _ _ _ SF)
      cases hc
   cases hc
  ·simp at hs
  obtain⟨cs,hcs⟩:=hnf;rw[hcs]at hf;cases hf
 cases hc
theorem code_ok(hrc:RcOk P rc)(hm:P.follows .mixedOrders=true)(c:Code):CodeOk P rc n c:=by
 induction c with
 |skip=>
   intro rf ro hro B γ h h' w T T' ds a e Q S hc hQ;have hc':Out.o .n T h= .o e T' h':=hc;simp only[Out.o.injEq]at hc';obtain⟨rfl,rfl,rfl⟩:=hc';exact wpIn_skip (hQ _ _ _ _ S)
 |region id ops draw=>
   intro rf ro hro B γ h h' w T T' ds a e Q S hc hQ;have hc':outT ((regK P n ops.toList draw).f rc T h)= .o e T' h':=hc;unfold outT at hc';split at hc'
   ·cases hc'
   rename_i T1 h1 hx;simp only[Out.o.injEq]at hc';obtain⟨rfl,rfl,rfl⟩:=hc'
   cases draw with
   |true=>exact draw_ok hrc hm S hx fun γ' w' a' S'=>hQ _ _ _ _ S'
   |false=>exact wpIn_region_list (plain_ok hrc ops.toList S hx fun γ' w' a' S'=>hQ _ _ _ _ S')
 |seq x y hx hy=>
   intro rf ro hro B γ h h' w T T' ds a e Q S hc hQ
   have hc':(match(cK P rf n x).f rc T h with
    | .o .n T h=>(cK P rf n y).f rc T h
    | .o .ret T h=> .o .ret T h
    | .o (.ex i) T h=> .o (.ex i) T h
    | .no=> .no)= .o e T' h':=hc
   refine wpIn_seq ?_;split at hc'
   ·rename_i T1 h1 hx1;exact hx rf ro hro S hx1 fun γ' w' ds' a' S'=>hy rf ro hro S' hc' hQ
   ·rename_i T1 h1 hx1;simp only[Out.o.injEq]at hc';obtain⟨rfl,rfl,rfl⟩:=hc';exact hx rf ro hro S hx1 fun γ' w' ds' a' S'=>hQ _ _ _ _ S'
   ·rename_i i T1 h1 hx1;simp only[Out.o.injEq]at hc';obtain⟨rfl,rfl,rfl⟩:=hc';exact hx rf ro hro S hx1 fun γ' w' ds' a' S'=>hQ _ _ _ _ S'
   cases hc'
 |cond c x y hx hy=>
   intro rf ro hro B γ h h' w T T' ds a e Q S hc hQ
   have hc':(match(oK c).f T with
    | .b b=>bif b then(cK P rf n x).f rc T h else(cK P rf n y).f rc T h
    |_=> .no)= .o e T' h':=hc
   split at hc'
   ·rename_i b hb;have hv:=S.ops c;rw[hb]at hv;refine wpIn_cond_split hv.b (fun ht=>?_) (fun hf=>?_)
    ·rw[ht]at hc';exact hx rf ro hro S hc' hQ
    rw[hf]at hc';exact hy rf ro hro S hc' hQ
   cases hc'
 |block id x hx=>
   intro rf ro hro B γ h h' w T T' ds a e Q S hc hQ
   have hc':(match(cK P rf n x).f rc T h with
    | .o .n T h=>Out.o .n T h
    | .o .ret T h=>Out.o .ret T h
    | .o (.ex i) T h=>bif Nat.beq i id then Out.o .n T h else Out.o (.ex i) T h
    | .no=>Out.no)= .o e T' h':=hc
   refine wpIn_block ?_;split at hc'
   ·rename_i T1 h1 hx1;simp only[Out.o.injEq]at hc';obtain⟨rfl,rfl,rfl⟩:=hc';exact hx rf ro hro S hx1 fun γ' w' ds' a' S'=>hQ _ _ _ _ S'
   ·rename_i T1 h1 hx1;simp only[Out.o.injEq]at hc';obtain⟨rfl,rfl,rfl⟩:=hc';exact hx rf ro hro S hx1 fun γ' w' ds' a' S'=>hQ _ _ _ _ S'
   ·rename_i i T1 h1 hx1
    cases hb:Nat.beq i id with
    |true=>
      rw[hb]at hc';simp only[cond_true,Out.o.injEq]at hc';obtain⟨rfl,rfl,rfl⟩:=hc';obtain rfl:=Nat.eq_of_beq_eq_true hb
      exact hx rf ro hro S hx1 fun γ' w' ds' a' S'=>by
       simp only[exo,Exit.inBlock,if_true];exact hQ _ _ _ _ S'
    |false=>
      rw[hb]at hc';simp only[cond_false,Out.o.injEq]at hc';obtain⟨rfl,rfl,rfl⟩:=hc';have hne:i≠id:=fun e=>by subst e;rw[Nat.beq_refl]at hb;cases hb
      exact hx rf ro hro S hx1 fun γ' w' ds' a' S'=>by
       simp only[exo,Exit.inBlock,if_neg hne];exact hQ _ _ _ _ S'
   cases hc'
 |loop x hx=>
   intro rf ro hro B γ h h' w T T' ds a e Q S hc hQ;have hc':(loopK (cK P rf n x)).f rc T h= .o e T' h':=hc;unfold loopK at hc';exact wpIn_loop_rounds loopF (loop_ok hx hro loopF S hc' hQ)
 |rangeFunc g ps assign body _ _=>
   intro rf ro hro B γ h h' w T T' ds a e Q S hc hQ
   cases rf with
   |true=>
     obtain rfl:=hro rfl;exact range_ok hrc S hc hQ
   |false=>
     have hc':Out.no= .o e T' h':=hc;cases hc'
 |exit id=>
   intro rf ro hro B γ h h' w T T' ds a e Q S hc hQ;have hc':Out.o (.ex id) T h= .o e T' h':=hc;simp only[Out.o.injEq]at hc';obtain⟨rfl,rfl,rfl⟩:=hc';exact wpIn_exit (hQ _ _ _ _ S)
 |ret=>
   intro rf ro hro B γ h h' w T T' ds a e Q S hc hQ;have hc':Out.o .ret T h= .o e T' h':=hc;simp only[Out.o.injEq]at hc';obtain⟨rfl,rfl,rfl⟩:=hc';exact wpIn_ret (hQ _ _ _ _ S)
 |_=>
   intro rf ro hro B γ h h' w T T' ds a e Q S hc hQ;have hc':Out.no= .o e T' h':=hc;cases hc'
end
open Go Go.Eng
def HasX(P:Program)(f:FuncId)(e:Array Value→Sem Value):Prop:= ∃fn,P.funcs[f]? =some fn∧(fn.name== "runtime.NumGoroutine")=false∧fn.body.isNone=true∧Extern.findNext fn=none∧Extern.find fn=some e
def IxC(P:Program)(X:XI):Prop:= ∀{w:World} {v:Value} {xs:List Int} {b o:Nat} {n:Int},RdSl (hv w) (eI .i64) v xs→xs.length≤1048576→cellsAt (hv w) b o [.int .i64 n]→
 Calls P X.ix #[v,.func (.func X.pr) #[] #[.pointer (some ⟨b,o,none⟩)]] w (Rets fun u w'=>u= .int .i64 (firB n xs 0)∧Bel w w')
def XOk(P:Program)(X:XI):Prop:=HasX P X.ib Extern.BytealgIndexByte.indexByte∧HasX P X.cs Extern.BytealgCount.count∧(P.funcs[X.ix]? =none∨HasFn P X.ix∧IxC P X)
theorem byte_eq{c:Nat}(hc:c<256)(x:UInt8):(x==(Int.ofNat c).toNat.toUInt8)=Nat.beq x.toNat c:=by
 have h1:((Int.ofNat c).toNat.toUInt8).toNat=c:=by simp;omega
 rw[Bool.eq_iff_iff];constructor
 ·intro h;have h2:x=(Int.ofNat c).toNat.toUInt8:=by simpa using h
  rw[h2,h1];exact Nat.beq_refl c
 intro h;have h2:=Nat.eq_of_beq_eq_true h;have:x=(Int.ofNat c).toNat.toUInt8:=UInt8.toNat_inj.1 (by rw[h1,h2]);simpa using this
theorem idxB_eq{c:Nat}(hc:c<256): ∀(l:List UInt8) (i:Nat),idxB c l i=if Lib.indexByte l (Int.ofNat c).toNat.toUInt8= -1 then-1 else Lib.indexByte l (Int.ofNat c).toNat.toUInt8+i
 | [],i=>rfl
 |x::l,i=>by
   have e:idxB c (x::l) i=bif Nat.beq x.toNat c then .ofNat i else idxB c l (i+1):=rfl;have hge:=Lib.indexByte_ge l (Int.ofNat c).toNat.toUInt8;have e2:Lib.indexByte (x::l) (Int.ofNat c).toNat.toUInt8=if x==(Int.ofNat c).toNat.toUInt8 then 0 else if Lib.indexByte l (Int.ofNat c).toNat.toUInt8== -1 then-1 else Lib.indexByte l (Int.ofNat c).toNat.toUInt8+1:=rfl
   rw[e,idxB_eq hc l (i+1),e2,byte_eq hc];generalize Lib.indexByte l (Int.ofNat c).toNat.toUInt8=q at hge ⊢
   cases Nat.beq x.toNat c with
   |true=>simp
   |false=>
     simp only[cond_false,Bool.false_eq_true,if_false];by_cases h1:q= -1
     ·subst h1;simp
     rw[if_neg h1];have h2:(q== -1)=false:=by simpa using h1
     rw[h2];simp only[Bool.false_eq_true,if_false];rw[if_neg (by omega)]
     push_cast
     omega
theorem idxB0{c:Nat}(hc:c<256)(l:List UInt8):idxB c l 0=Lib.indexByte l (Int.ofNat c).toNat.toUInt8:=by
 rw[idxB_eq hc];split
 ·rename_i h;exact h.symm
 simp
theorem cntB_eq{c:Nat}(hc:c<256): ∀(l:List UInt8),cntB c l=Lib.countByte l (Int.ofNat c).toNat.toUInt8
 | []=>rfl
 |x::l=>by
   have e:cntB c (x::l)=bif Nat.beq x.toNat c then Nat.succ (cntB c l)else cntB c l:=rfl;have h:=cntB_eq hc l;unfold Lib.countByte at h ⊢;rw[e,List.count_cons,byte_eq hc,h];cases Nat.beq x.toNat c<;>simp
section
variable {P:Program}{γ γ':Gh}{h h':HS}{w w':World}{T:FT}{c:CV}{X:XI}
theorem extF_ok(hX:XOk P X){fid:Nat}{fn:Func}(_hf:P.funcs[fid]? =some fn){args:List CV}{vs:List Value}(V:Inv γ h w)(ha:srs γ args vs)(hc:extF X fid h args= .ok c h'):
 ∃v,(callFunc fid vs.toArray).run P w= .ok (.value v) w∧After γ h w c h' v w∧ ∃s,vs.head?=some (.string s):=by
 unfold extF at hc;split at hc
 ·rename_i l k
  match vs,ha with
  | [v1,v2],ha=>
    obtain⟨h1,h2,_⟩:=ha;obtain rfl:=h1.s;obtain rfl:=h2.i
    cases hk:Nat.blt k 256 with
    |false=>rw[hk]at hc;cases hc
    |true=>
      rw[hk]at hc;simp only[cond_true]at hc;have hlt:k<256:=by rwa[Nat.blt_eq]at hk
      cases hb:Nat.beq fid X.ib with
      |true=>
        rw[hb]at hc;simp only[cond_true,Rs.ok.injEq]at hc;obtain⟨rfl,rfl⟩:=hc;obtain rfl:=Nat.eq_of_beq_eq_true hb;obtain⟨fn,g1,g2,g3,g4,g5⟩:=hX.1;refine⟨_,by rw[run_callFunc_extern g1 g2 g3 g4 g5,Lib.run_indexByteString];rfl,⟨γ,Go1.refl _ _ _,V,?_⟩,_,rfl⟩;rw[idxB0 hlt];rfl
      |false=>
        rw[hb]at hc;simp only[cond_false]at hc
        cases hb2:Nat.beq fid X.cs with
        |true=>
          rw[hb2]at hc;simp only[cond_true,Rs.ok.injEq]at hc;obtain⟨rfl,rfl⟩:=hc;obtain rfl:=Nat.eq_of_beq_eq_true hb2;obtain⟨fn,g1,g2,g3,g4,g5⟩:=hX.2.1;refine⟨_,by rw[run_callFunc_extern g1 g2 g3 g4 g5,Lib.run_countString];rfl,⟨γ,Go1.refl _ _ _,V,?_⟩,_,rfl⟩;rw[cntB_eq hlt];rfl
        |false=>rw[hb2]at hc;cases hc
  | [],ha=>exact ha.elim
  | [_],ha=>exact ha.2.elim
  |_::_::_::_,ha=>exact ha.2.2.elim
 cases hc
theorem rdL_ints{ρ:View}{k:IntKind}: ∀(xs:List Int),rdL (eI k) ρ xs (xs.map (.int k))
 | []=>rfl
 |x::xs=>⟨[.int k x],xs.map (.int k),rfl,rfl,rdL_ints xs⟩
theorem ix_ok(hX:IxC P X){args:List CV}{vs:List Value}{i:Int}(V:Inv γ h w)(ha:srs γ args vs)(hc:natI X h args=some i):Calls P X.ix vs.toArray w (Rets (After γ h w (.i .i64 i) h)):=by
 unfold natI at hc;split at hc
 ·rename_i id o len es c kn g q z
  match vs,ha with
  | [v1,v2],ha=>
    obtain⟨h1,h2,_⟩:=ha
    cases hq:(Nat.beq g X.pr&&Nat.beq es 1&&Nat.ble len 1048576&&(bif kn then Nat.ble len c else true))with
    |false=>rw[hq]at hc;cases hc
    |true=>
      rw[hq]at hc;simp only[cond_true]at hc;simp only[Bool.and_eq_true]at hq;obtain⟨⟨⟨q1,q2⟩,q3⟩,q4⟩:=hq;obtain rfl:=Nat.eq_of_beq_eq_true q1;obtain rfl:=Nat.eq_of_beq_eq_true q2;have hlen:=Nat.le_of_ble_eq_true q3;obtain⟨b,hb,rfl,hkn⟩:=h1.sl;have hv2:=h2.get rfl;unfold natJ at hc;split at hc
      ·rename_i n hm;split at hc
       ·rename_i l hl;split at hc
        ·rename_i xs hxs;obtain rfl:=Option.some.inj hc;obtain⟨b1,cs,r1,r2,r3,r4⟩:=rdO_ok V hl;obtain⟨b2,cs2,s1,s2,s3,s4⟩:=rdO_ok V hm;rw[hb]at r1;obtain rfl:=Option.some.inj r1;have e1:=(intsC_val (γ:=γ) hxs).symm.trans r2;obtain rfl:=Option.some.inj e1;simp only[vals,val]at s2;obtain rfl:=Option.some.inj s2;simp only[val,vals,s1,Option.some.injEq]at hv2;subst hv2;have hxl:xs.length=len:=by simpa using r3
         have hrd:RdSl (hv w) (eI .i64) (.slice (some ⟨b.1,o,none⟩) len (bif kn then c else b.2/1)) xs:=by
          refine .inr ⟨b.1,o,_,xs.map (.int .i64),by rw[hxl],?_,rdL_ints xs,r4⟩
          cases kn with
          |true=>simp only[cond_true]at q4 ⊢;rw[hxl];exact Nat.le_of_ble_eq_true q4
          |false=>simp only[cond_false];rw[hxl];exact hkn rfl
         refine(hX hrd (by omega) s4).mono fun e w' he=>?_;obtain⟨u,rfl,rfl,hbel⟩:=he;refine⟨_,rfl,γ,⟨hbel.os,hbel.tape,hbel.output,hbel.size,Gh.le_refl _,Nat.le_refl _,fun b hb _=>hbel.block b hb,fun _ h=> .inl h,fun _ h=> .inl h,fun _ _ h=> .inl h⟩,⟨V.dom,V.glob,V.inj,fun k=>?_⟩,rfl⟩;by_cases hsm:some? (hget h k)=true
         ·exact(V.rel k).up (Gh.le_refl _) (fun b' m hb'=>hbel.block b' (V.lt ⟨k,m,hb',hsm⟩))
         have:hget h k= .no:=by cases hh:hget h k<;>simp_all[some?]
         rw[this];trivial
        cases hc
       cases hc
      cases hc
  | [],ha=>exact ha.elim
  | [_],ha=>exact ha.2.elim
  |_::_::_::_,ha=>exact ha.2.2.elim
 cases hc
def RT(P:Program)(w:World)(tm:Array Value):List ResultVar→List Value→Prop
 | [],[]=>True
 | .tmp t::r,v::vs=>tm.getD t undef=v∧RT P w tm r vs
 | .cell a T::r,v::vs=>(∃ad,tm.getD a undef= .pointer (some ad)∧(loadVar T ad).run P w= .ok v w)∧RT P w tm r vs
 |_,_=>False
theorem results_rt{fn:Func}{tm:Array Value}{vs:List Value}(hv:RT P w tm fn.results.toList vs):(results fn tm).run P w= .ok (packR vs) w:=by
 have key: ∀(f:ResultVar→Sem Value),(∀t,f (.tmp t)=pure (tm.getD t undef))→(∀ad t,f (.cell ad t)=do loadVar t (←asAddr (tm.getD ad undef)))→ ∀(rs:List ResultVar) (vs:List Value),RT P w tm rs vs→
  ∀acc:List Value,(rs.foldlM (m:=Sem) (fun(acc:Array Value) r=>do acc.push <$> f r) acc.toArray).run P w= .ok (acc++vs).toArray w:=by
  intro f hf1 hf2 rs
  induction rs with
  |nil=>intro vs h acc;cases vs with|nil=>simp|cons v vs=>cases h
  |cons r rs ih=>
    intro vs h acc
    cases vs with
    |nil=>cases r<;>cases h
    |cons v vs=>
      cases r with
      |tmp t=>
        have h3:=ih vs h.2 (acc++ [v]);have h4:tm.getD t undef=v:=h.1;simp only[List.foldlM_cons,hf1,h4];simp at h3 ⊢;exact h3
      |cell ad t=>
        obtain⟨⟨p,hp,hl⟩,h2⟩:=h;have h3:=ih vs h2 (acc++ [v]);simp only[List.foldlM_cons,hf2,hp];simp[asAddr,hl]at h3 ⊢;exact h3
 have hm: ∀(f:ResultVar→Sem Value),(∀t,f (.tmp t)=pure (tm.getD t undef))→(∀ad t,f (.cell ad t)=do loadVar t (←asAddr (tm.getD ad undef)))→(fn.results.mapM f).run P w= .ok vs.toArray w:=by
  intro f h1 h2;rw[Array.mapM_eq_foldlM,←Array.foldlM_toList];simpa using key f h1 h2 fn.results.toList vs hv []
 unfold results;rw[Sem.run_bind,hm _ (fun _=>rfl) (fun _ _=>rfl)];simp only[Result.andThen_ok];clear key hm hv
 match vs with
 | []=>simp[packR]
 | [v]=>simp[packR]
 |v::u::r=>simp[packR]
theorem anyU_cons{c:CV}{r:List CV}(hh:anyU (c::r)=false):isU c=false∧anyU r=false:=by
 unfold anyU at hh
 cases hc:isU c with
 |true=>rw[hc]at hh;cases hh
 |false=>rw[hc]at hh;exact⟨rfl,hh⟩
theorem resK_ok{tm:Array Value}(V:Inv γ h w)(hs: ∀k,SR γ (fget T k) (tm.getD k undef)): ∀(rs:List ResultVar),anyU ((resK P rs).f T h)=false→ ∃vs,vals γ ((resK P rs).f T h)=some vs∧RT P w tm rs vs
 | [],_=>⟨[],rfl,trivial⟩
 | .tmp t::rs,hu=>by
   have e:(resK P (.tmp t::rs)).f T h=fget T t::(resK P rs).f T h:=rfl;rw[e]at hu ⊢;obtain⟨h1,h2⟩:=anyU_cons hu;obtain⟨vs,h3,h4⟩:=resK_ok V hs rs h2;exact⟨tm.getD t undef::vs,by simp[vals,(hs t).get h1,h3],rfl,h4⟩
 | .cell ad t::rs,hu=>by
   cases hI:tyI P t with
   |none=>
     have e:(resK P (.cell ad t::rs)).f T h= [.u]:=by unfold resK;simp only[hI]
     rw[e]at hu;cases hu
   |some I=>
     have e:(resK P (.cell ad t::rs)).f T h=ldP I h (fget T ad)::(resK P rs).f T h:=by
      conv=>lhs;unfold resK
      simp only[hI];rfl
     rw[e]at hu ⊢;obtain⟨h1,h2⟩:=anyU_cons hu;obtain⟨vs,h3,h4⟩:=resK_ok V hs rs h2;obtain⟨v,h5,h6⟩:=ldP_ok (vx:=tm.getD ad undef) V hI rfl h1 (hs ad);refine⟨v::vs,by simp[vals,h6,h3],?_,h4⟩
     have hp: ∃id o,fget T ad= .p id o:=by
      cases hq:fget T ad with
      |p id o=>exact⟨id,o,rfl⟩
      |_=>rw[hq]at h1;cases h1
     obtain⟨id,o,hp⟩:=hp;have hsr:=hs ad;rw[hp]at hsr;obtain⟨b,_,hb⟩:=hsr.p;exact⟨_,hb,by rw[hb]at h5;simpa[Instr.loadAt,Instr.sureAddr]using h5⟩
theorem pack_ok{l:List CV}{vs:List Value}(hv:vals γ l=some vs):val γ (packC l)=some (packR vs):=by
 match l,vs,vals_len hv with
 | [],[],_=>simp[packC,packR,val,vals]
 | [c],[v],_=>
   obtain⟨v',us,h1,h2,h3⟩:=vals_cons hv;simp at h3;simp[packC,packR,h1,h3.1]
 |c::d::r,v::u::s,_=>simp[packC,packR,val,hv]
 | [],_::_,h=>simp at h
 | [_],[],h=>simp at h
 | [_],_::_::_,h=>simp at h
 |_::_::_,[],h=>simp at h
 |_::_::_,[_],h=>simp at h
end
open Go Go.Eng
section
variable {P:Program}{B:Base}{γ γ':Gh}{h h':HS}{w w' w1:World}{T T':FT}{c:CV}{X:XI}{rc:RC}{n:Nat}{ds:List Nat}{a:Act}
theorem Go1.off(G:Go1 γ h w γ' h' w1){D:Nat}(hD:w.heap.size≤D)(o:Obj):Go1 γ h w γ' h' (w1.putObj D o):=
 ⟨G.os,G.tape,G.out,by rw[World.putObj_size];exact G.size,G.le,G.nx,fun b hb hn=>(World.putObj_heap_other (by omega)).trans (G.pres b hb hn),G.own,G.used,G.gnew⟩
theorem leaves_ok{fn:Func}{tm:Array Value}(hs: ∀k,SR γ' (fget T k) (tm.getD k undef))(hu:anyU ((resK P fn.results.toList).f T h')=false):
 ∀(ds:List Nat) {w1:World},Go1 γ h w γ' h' w1→Inv γ' h' w1→(∀D∈ds,hv w1 D=some (.deferred (some []))∧ ¬Used γ' h' D∧w.heap.size≤D)→ds.Nodup→
   LeavesInM Fence.wide 0 P fn tm (Rets (After γ h w (packC ((resK P fn.results.toList).f T h')) h')) (marks ds) .returning w1
 | [],w1,G,V,_,_=>by
   obtain⟨vs,h1,h2⟩:=resK_ok V hs fn.results.toList hu;exact⟨_,results_rt h2,_,rfl,γ',G,V,pack_ok h1⟩
 |D::ds,w1,G,V,hd,hn=>by
   obtain⟨h1,h2,h3⟩:=hd D (by simp);have hnd:=List.nodup_cons.1 hn;refine⟨by simp,.inl ⟨_,_,rfl,run_takeDeferred h1,?_⟩⟩;refine leaves_ok hs hu ds (G.off h3 _) (V.keep fun b hb=>World.putObj_heap_other (fun e=>h2 (e▸hb))) (fun E hE=>?_) hnd.2;obtain⟨g1,g2,g3⟩:=hd E (by simp[hE]);exact⟨(World.putObj_heap_other (fun e=>hnd.1 (by rw[←e];exact hE))).trans g1,g2,g3⟩
theorem args_getD{vs:List Value}{m k:Nat}:(vs.toArray++Array.replicate m undef).getD k undef=vs.getD k undef:=by
 by_cases hk:k<vs.length
 ·simp[Array.getElem?_append,hk]
 by_cases h2:k-vs.length<m
 ·simp[Array.getElem?_append,hk,h2]
 simp[Array.getElem?_append,hk,h2]
theorem fn_ok(hrc:RcOk P rc)(hm:P.follows .mixedOrders=true){fid:Nat}{fn:Func}{cd:Code}(hf:P.funcs[fid]? =some fn)(hb:fn.body=some cd)(hname:(fn.name== "runtime.NumGoroutine")=false)(V:Inv γ h w)
 {args:List CV} {vs:List Value} (ha:srs γ args vs) (hc:(fnK P X fid fn).f rc args h= .ok c h'):Calls P fid vs.toArray w (Rets (After γ h w c h')):=by
 unfold fnK at hc;simp only[hb,hname,cond_false]at hc
 cases hq:Nat.ble (lenF args) fn.ntmps with
 |false=>rw[hq]at hc;cases hc
 |true=>
   rw[hq]at hc;simp only[cond_true]at hc;have hle:=Nat.le_of_ble_eq_true hq;rw[lenF_eq]at hle;have hlen:=ha.len
   have S:St ⟨γ,h,w⟩ γ h w (wrC args 0 .nil) fn.ntmps [] {tmps:=vs.toArray++Array.replicate (fn.ntmps-vs.toArray.size) undef,defers:=[]}:=
    ⟨Go1.refl _ _ _,V,by simp;omega,rfl,fun k=>by
     rw[args_getD,wrC_get];split
     ·rw[Nat.sub_zero];exact ha.get
     exact .inl (gK_nil _),fun D hD=>(nomatch hD),List.nodup_nil⟩
   have fin: ∀{T1:FT} {h1:HS} {γ1:Gh} {w1:World} {ds:List Nat} {a1:Act},finC ((resK P fn.results.toList).f T1 h1) h1= .ok c h'→St ⟨γ,h,w⟩ γ1 h1 w1 T1 fn.ntmps ds a1→
    LeavesInM Fence.wide 0 P fn a1.tmps (Rets (After γ h w c h')) a1.defers .returning w1:=by
    intro T1 h1 γ1 w1 ds a1 hfin S1;unfold finC at hfin
    cases hu:anyU ((resK P fn.results.toList).f T1 h1)with
    |true=>rw[hu]at hfin;cases hfin
    |false=>
      rw[hu]at hfin;simp only[cond_false,Rs.ok.injEq]at hfin;obtain⟨rfl,rfl⟩:=hfin;rw[S1.defers];exact leaves_ok S1.slots hu ds S1.go S1.inv S1.dss S1.nod
   refine(callsIn_wide (n:=0)).1 (callsIn_of_wp_marks hf hb trivial ?_);unfold retO at hc;split at hc
   ·rename_i T1 h1 hx;exact code_ok hrc hm cd true none (fun _=>rfl) S hx (Q:=bodyPostM Fence.wide 0 P fn (Rets (After γ h w c h'))) fun γ1 w1 ds a1 S1=>fin hc S1
   ·rename_i T1 h1 hx;exact code_ok hrc hm cd true none (fun _=>rfl) S hx (Q:=bodyPostM Fence.wide 0 P fn (Rets (After γ h w c h'))) fun γ1 w1 ds a1 S1=>fin hc S1
   cases hc
theorem putPs_ok{n:Nat}: ∀{ps:List Nat} {args:List CV} {vs:List Value} {T T1:FT} {tm:Array Value},srs γ args vs→tm.size=n→(∀k,SR γ (fget T k) (tm.getD k undef))→putPs n ps args T=some T1→
 vs.length=ps.length∧((ps.zip vs).foldl (fun(t:Array Value) (p,v)=>t.setIfInBounds p v) tm).size=n∧ ∀k,SR γ (fget T1 k) (((ps.zip vs).foldl (fun(t:Array Value) (p,v)=>t.setIfInBounds p v) tm).getD k undef)
 | [],[],[],T,T1,tm,_,hn,hs,hc=>by
   have hc':some T=some T1:=hc;obtain rfl:=Option.some.inj hc';exact⟨rfl,hn,hs⟩
 | [],_::_,_,_,_,_,_,_,_,hc=>by
   have hc':(none:Option FT)=some _:=hc;cases hc'
 | [],[],_::_,_,_,_,ha,_,_,_=>ha.elim
 |_::_,[],_,_,_,_,_,_,_,hc=>by
   have hc':(none:Option FT)=some _:=hc;cases hc'
 |_::_,_::_,[],_,_,_,ha,_,_,_=>ha.elim
 |p::ps,a::args,v::vs,T,T1,tm,ha,hn,hs,hc=>by
   have hc':(bif Nat.blt p n then putPs n ps args (fput T p a)else none)=some T1:=hc
   cases hb:Nat.blt p n with
   |false=>rw[hb]at hc';cases hc'
   |true=>
     rw[hb]at hc';simp only[cond_true]at hc';have hlt:p<n:=by rwa[Nat.blt_eq]at hb
     have:=putPs_ok (tm:=tm.setIfInBounds p v) ha.2 (by simpa using hn) (fun k=>by
      have e:fget (fput T p a) k=if k=p then a else fget T k:=tget_tput _ _ _ _ _
      rw[e];split
      ·rename_i e;subst e;have:(tm.setIfInBounds k v).getD k undef=v:=by simp[hn,hlt]
       rw[this];exact ha.1
      rename_i e
      have:(tm.setIfInBounds p v).getD k undef=tm.getD k undef:=by
       simp only[Array.getD_eq_getD_getElem?];rw[Array.getElem?_setIfInBounds_ne (Ne.symm e)]
      rw[this];exact hs k) hc'
     simpa using this
theorem St.go'(S:St B γ h w T n ds a)(hA:Go1 γ h w γ' h' w')(V:Inv γ' h' w'):St B γ' h' w' T n ds a:=S.step none hA V (v:=undef) (.inl rfl)
theorem yield_ok(hrc:RcOk P rc)(hm:P.follows .mixedOrders=true){id b m:Nat}(hk:γ id=some (b,m))(V:Inv γ h w){args:List CV}{vs:List Value}(ha:srs γ args vs)(hc:yldO P rc id args h (hget h id)= .ok c h'):
 YieldAt Fence.wide 0 P b vs.toArray w (Rets (After γ h w c h')):=by
 have hrel:=V.rel id;unfold yldO at hc;split at hc
 ·rename_i st pd n T ps assign body hob;rw[hob]at hrel;obtain⟨b',n0,fn,tmps,D,k1,k2,k3,k4⟩:=hrel;rw[hk]at k1;obtain⟨rfl,rfl⟩:=Prod.mk.inj (Option.some.inj k1);split at hc
  ·rename_i T1 hT1;obtain⟨p1,p2,p3⟩:=putPs_ok ha k3 k4 hT1;refine⟨fn,_,assign,body,run_yield k2 (by simp[p1]),roundIn_of_wpIn trivial ?_⟩;have e:(Array.zip ps.toArray vs.toArray).foldl (fun(t:Array Value) (p,v)=>t.setIfInBounds p v) tmps=(ps.zip vs).foldl (fun(t:Array Value) (p,v)=>t.setIfInBounds p v) tmps:=by simp
   have S:St ⟨γ,h,w⟩ γ h w T1 n [] {tmps:=(Array.zip ps.toArray vs.toArray).foldl (fun(t:Array Value) (p,v)=>t.setIfInBounds p v) tmps,defers:=[]}:=by
    rw[e];exact⟨Go1.refl _ _ _,V,p2,rfl,p3,fun D hD=>(nomatch hD),List.nodup_nil⟩
   unfold assO at hc;split at hc
   ·rename_i T2 h2 hx;refine code_ok hrc hm assign false (some b) (fun hh=>by cases hh) S hx fun γ2 w2 ds2 a2 S2=>?_;unfold begO at hc;split at hc
    ·rename_i st2 pd2 n2 T2' ps2 as2 bd2 hob2
     cases hst:Nat.beq st2 0 with
     |false=>rw[hst]at hc;cases hc
     |true=>
       rw[hst]at hc;simp only[cond_true]at hc;obtain rfl:=Nat.eq_of_beq_eq_true hst;have hrel2:=S2.inv.rel id;rw[hob2]at hrel2;obtain⟨b2,m2,fn2,tm2,D2,q1,q2,q3,q4⟩:=hrel2;have hk2:=S2.go.le _ _ hk;rw[q1]at hk2;obtain⟨rfl,rfl⟩:=Prod.mk.inj (Option.some.inj hk2);have hlt2:=lt_of_hv q2
       obtain⟨V3,G3⟩:=S2.inv.put (w1:=w2.putObj b2 (.loop ⟨.busy,pd2,fn2,tm2,ps2.toArray,as2,bd2,D2⟩)) (o:= .l 1 pd2 n2 T2' ps2 as2 bd2) q1 (by rw[hob2];rfl) rfl (Tp.rfl _) rfl (by simp) (fun b' hb'=>World.putObj_heap_other hb')
        ⟨b2,m2,fn2,tm2,D2,q1,World.putObj_heap_same hlt2,q3,q4⟩
       have S3:=S2.go' G3 V3;refine⟨_,run_beginRound q2 rfl,?_⟩;unfold bodO at hc;split at hc
       ·rename_i e3 T4 h4 hy;refine code_ok hrc hm body false (some b2) (fun hh=>by cases hh) S3 hy fun γ4 w4 ds4 a4 S4=>?_;unfold endO at hc;split at hc
        ·rename_i st4 pd4 n4 T4' ps4 as4 bd4 hob4;have hrel4:=S4.inv.rel id;rw[hob4]at hrel4;obtain⟨b4,m4,fn4,tm4,D4,r1,r2,r3,r4⟩:=hrel4;have hk4:=S4.go.le _ _ hk;rw[r1]at hk4;obtain⟨rfl,rfl⟩:=Prod.mk.inj (Option.some.inj hk4);have hlt4:=lt_of_hv r2
         have put: ∀(s:Nat) (p:Option Code),Inv γ4 (hput h4 id (.l s p n4 T4' ps4 as4 bd4)) (w4.putObj b4 (.loop ⟨lst s,p,fn4,tm4,ps4.toArray,as4,bd4,D4⟩))∧Go1 γ4 h4 w4 γ4 (hput h4 id (.l s p n4 T4' ps4 as4 bd4)) (w4.putObj b4 (.loop ⟨lst s,p,fn4,tm4,ps4.toArray,as4,bd4,D4⟩)):=fun s p=>
          S4.inv.put (w1:=w4.putObj b4 (.loop ⟨lst s,p,fn4,tm4,ps4.toArray,as4,bd4,D4⟩)) (o:= .l s p n4 T4' ps4 as4 bd4) r1 (by rw[hob4];rfl) rfl (Tp.rfl _) rfl (by simp) (fun b' hb'=>World.putObj_heap_other hb') ⟨b4,m4,fn4,tm4,D4,r1,World.putObj_heap_same hlt4,r3,r4⟩
         split at hc
         ·simp only[Rs.ok.injEq]at hc;obtain⟨rfl,rfl⟩:=hc;exact⟨_,_,run_endRound none r2,_,rfl,γ4,S4.go.trans (put 0 none).2,(put 0 none).1,rfl⟩
         ·simp only[Rs.ok.injEq]at hc;obtain⟨rfl,rfl⟩:=hc;exact⟨_,_,run_endRound (some .ret) r2,_,rfl,γ4,S4.go.trans (put 2 (some .ret)).2,(put 2 (some .ret)).1,rfl⟩
         rename_i i;simp only[Rs.ok.injEq]at hc;obtain⟨rfl,rfl⟩:=hc;exact⟨_,_,run_endRound (some (.exit i)) r2,_,rfl,γ4,S4.go.trans (put 2 (some (.exit i))).2,(put 2 (some (.exit i))).1,rfl⟩
        cases hc
       cases hc
    cases hc
   cases hc
  cases hc
 cases hc
theorem step_ok(hX:XOk P X)(hm:P.follows .mixedOrders=true)(hrc:RcOk P rc):RcOk P (stepF P X rc):=by
 intro γ h w fv args c h' fV vs hc V hf ha;unfold stepF at hc;split at hc
 ·rename_i fid caps;have hfv:=hf.get rfl;simp only[val]at hfv;split at hfv
  ·rename_i cs hcs;obtain rfl:=Option.some.inj hfv;split at hc
   ·rename_i fn hfn;have hall:srs γ (args++caps) (vs++cs):=ha.app (srs.of_vals hcs)
    have plain:(fnK P X fid fn).f rc (args++caps) h= .ok c h'→CallW P (.func (.func fid) #[] cs.toArray) vs w (After γ h w c h'):=by
     intro hc
     cases hb:fn.body with
     |some cd=>
       cases hname:(fn.name== "runtime.NumGoroutine")with
       |true=>
         unfold fnK at hc;simp only[hb,hname,cond_true]at hc;cases hc
       |false=>
         have:=fn_ok hrc hm hfn hb hname V hall hc;exact .inl ⟨fid,cs.toArray,rfl,⟨fn,cd,hfn,hname,hb⟩,by simpa using this⟩
     |none=>
       unfold fnK at hc;simp only[hb]at hc;obtain⟨v,h1,h2,s,h3⟩:=extF_ok hX hfn V hall hc;exact .inr (.inl ⟨fid,cs.toArray,v,w,rfl,by simpa using h1,h2,s,by simpa using h3⟩)
    cases hix:Nat.beq fid X.ix with
    |false=>rw[hix]at hc;exact plain hc
    |true=>
      rw[hix]at hc;simp only[cond_true]at hc;unfold ixO at hc;split at hc
      ·rename_i i hn;simp only[Rs.ok.injEq]at hc;obtain⟨rfl,rfl⟩:=hc;obtain rfl:=Nat.eq_of_beq_eq_true hix;rcases hX.2.2 with hno|⟨hfn',hix'⟩
       ·rw[hno]at hfn;cases hfn
       have:=ix_ok hix' V hall hn;exact .inl ⟨X.ix,cs.toArray,rfl,hfn',by simpa using this⟩
      exact plain hc
   cases hc
  cases hfv
 ·rename_i id;have hfv:=hf.get rfl;simp only[val]at hfv;split at hfv
  ·rename_i b hb;obtain rfl:=Option.some.inj hfv;exact .inr (.inr ⟨b.1,rfl,yield_ok hrc hm (m:=b.2) hb V ha hc⟩)
  cases hfv
 cases hc
theorem run_ok(hX:XOk P X)(hm:P.follows .mixedOrders=true): ∀n,RcOk P (run P X n)
 |0=>by
   intro hc V hf ha;have hc':Rs.no= .ok _ _:=hc;cases hc'
 |n+1=>step_ok hX hm (run_ok hX hm n)
theorem run_true(hX:XOk P X)(hm:P.follows .mixedOrders=true){n fid:Nat}(hr:isTrue (run P X n (.f fid []) [] h)=true)(V:Inv γ h w):
 Calls P fid #[] w (Rets fun v w'=>v= .bool true∧ ∃γ' h',Go1 γ h w γ' h' w'):=by
 unfold isTrue at hr;split at hr
 ·rename_i b h' hrun;subst hr;rcases run_ok hX hm n (fV:= .func (.func fid) #[] #[]) (vs:=[]) hrun V (.inr (by simp[val,vals])) trivial with⟨f,caps,hf,_,hcall⟩|⟨f,caps,v,w',hf,_,_,s,hs⟩|⟨l,hf,_⟩
  ·simp only[Value.func.injEq,Fn.func.injEq,true_and]at hf;obtain⟨rfl,rfl⟩:=hf;refine(show Calls P fid #[] w _ by simpa using hcall).mono fun e w' he=>?_;obtain⟨v,rfl,γ',G,_,hv⟩:=he;exact⟨v,rfl,by simpa[val]using hv.symm,γ',_,G⟩
  ·simp only[Value.func.injEq,Fn.func.injEq,true_and]at hf;obtain⟨rfl,rfl⟩:=hf;simp at hs
  simp only[Value.func.injEq,reduceCtorEq,false_and]at hf
 cases hr
end
open Go Go.Eng
def RunC(P:Program)(f:FuncId)(D:View→Prop):Prop:=HasFn P f∧ ∀(w:World),D (hv w)→Calls P f #[] w (Rets fun v w'=>v= .bool true∧Bel w w')
theorem c_run{P:Program}{f:FuncId}{D:View→Prop}{C:Cx}{w:World}{ρ:View}{hs:List Hl}(h:RunC P f D)(hD: ∀{ρ':View},View.le ρ ρ'→D ρ')(H:Hp C w ρ hs):
 Calls P f (([]:List Value).toArray) w (Rets fun v w'=>v= .bool true∧Hp C w' ρ hs):=by
 refine(h.2 w (hD H.view)).mono fun e w' he=>?_;obtain⟨v,rfl,h1,hb⟩:=he;have hlt: ∀b∈fps hs,b<w.heap.size:=H.lt;have hvo: ∀b,b<w.heap.size→hv w' b=hv w b:=hb.block;refine⟨v,rfl,h1,hb.os.trans H.os,hb.tape.trans H.tape,hb.output.trans H.out,Nat.le_trans H.size hb.size,fun b h1 h2=>(hb.block b (Nat.lt_of_lt_of_le h1 H.size)).trans (H.old b h1 h2),H.fresh,fun b h1=>Nat.lt_of_lt_of_le (hlt b h1) hb.size,H.nodup,fun b o h1=>?_,H.apart,fun h hh=>h.loc (fun b h1=>(hvo b (hlt b (mem_fps.2 ⟨h,hh,h1⟩))).symm) (H.all h hh)⟩;have h2:=H.view b o h1;rw[hvo b (lt_of_hv h2)];exact h2
noncomputable def mapK(k:IntKind)(l:List Int):List CV:=List.rec (motive:=fun _=>List CV) [] (fun x _ ih=> .i k x::ih) l
noncomputable def tabT(k:IntKind)(l:List Int):Tr CV:=wrC (mapK k l) 0 .nil
noncomputable def h0T(g:Nat)(k:IntKind)(l:List Int):HS:=⟨tput .no .nil g (.r (lenF l) (tabT k l)),1000⟩
def γ0(n:Nat):Gh:=fun g=>if g<1000 then some (g,n)else none
theorem mapK_eq(k:IntKind): ∀(l:List Int),mapK k l=l.map (.i k)
 | []=>rfl
 |x::l=>congrArg (CV.i k x:: ·) (mapK_eq k l)
theorem invT{w:World}{g:Nat}{k:IntKind}{l:List Int}(hg:g<1000)(hl:l≠ [])(ht:GTab (hv w) g k l): ∃n,Inv (γ0 n) (h0T g k l) w:=by
 have h0: ∀j,hget (h0T g k l) j=if j=g then .r (lenF l) (tabT k l)else .no:=fun j=>by
  have:hget (h0T g k l) j=if j=g then .r (lenF l) (tabT k l)else tget .no .nil j:=tget_tput _ _ _ _ _
  rw[this,show tget CO.no .nil j= .no from gK_nil _]
 have hc: ∃cur T fr,hv w g=some (.cells cur T fr):=by
  cases l with
  |nil=>exact absurd rfl hl
  |cons x r=>
    have:=ht 0 _ rfl;unfold View.cell at this;split at this
    ·rename_i cur T fr h;exact⟨cur,T,fr,h⟩
    cases this
 obtain⟨cur,T,fr,hcur⟩:=hc
 have hcell: ∀(j:Nat) (x:Int),l[j]? =some x→cur[j]? =some (Value.int k x):=fun j x hx=>by
  have:=ht j (.int k x) (by rw[List.getElem?_map,hx];rfl);unfold View.cell at this;rw[hcur]at this;simpa using this
 refine⟨cur.size,fun j x h=>?_,fun g hg=>⟨cur.size,by simp[γ0,hg]⟩,fun i j b n n' _ _ h _=>?_,fun j=>?_⟩
 ·unfold γ0 at h;show j<1000;split at h<;>simp_all
 ·rw[h0]at h;split at h<;>cases h
 rw[h0];split
 ·rename_i e;subst e;refine⟨j,cur,T,fr,by simp[γ0,hg],hcur,?_,fun i hi=>?_⟩
  ·rw[lenF_eq]
   cases hq:l.length with
   |zero=>omega
   |succ m=>
     have hm:m<l.length:=by omega
     have:=hcell m _ (List.getElem?_eq_getElem hm);have:=(Array.getElem?_eq_some_iff.1 this).1;omega
  rw[lenF_eq]at hi;have hx:=List.getElem?_eq_getElem hi;refine⟨.int k l[i],hcell i _ hx,?_⟩;unfold tabT;rw[wrC_get,mapK_eq,if_pos (by simp;omega)];simp[hi,val]
 trivial
variable {P:Program}{X:XI}
theorem below_of{γ γ':Gh}{h h':HS}{w w':World}(G:Go1 γ h w γ' h' w')(hn: ∀k,live (hget h k)=false):Bel w w':=
 ⟨G.os,G.tape,G.out,G.size,fun b hb=>G.pres b hb (fun⟨k,n,_,hk⟩=>by rw[hn k]at hk;cases hk)⟩
theorem runCT(hX:XOk P X)(hm:P.follows .mixedOrders=true){n f g:Nat}{k:IntKind}{l:List Int}(hr:isTrue (run P X n (.f f []) [] (h0T g k l))=true)(hf:HasFn P f)(hg:g<1000)(hl:l≠ []):RunC P f (fun ρ=>GTab ρ g k l):=
 ⟨hf,fun w ht=>by
  obtain⟨m,V⟩:=invT hg hl ht;refine(run_true hX hm hr V).mono fun e w' he=>?_;obtain⟨v,rfl,h1,γ',h',G⟩:=he;refine⟨v,rfl,h1,below_of G fun j=>?_⟩;have:hget (h0T g k l) j=if j=g then .r (lenF l) (tabT k l)else tget .no .nil j:=tget_tput _ _ _ _ _
  rw[this,show tget CO.no .nil j= .no from gK_nil _];split<;>rfl⟩
end Go.Cr
namespace Go.Eng
open Go
abbrev iV(x:Int):Value:= .int .i64 x
abbrev uV(x:Int):Value:= .int .u64 x
abbrev pV(b k:Nat):Value:= .pointer (some ⟨b,k,none⟩)
theorem oi{α:Type _}{a b:α}(h:some a=some b):a=b:=Option.some.inj h
theorem J{α:Sort _}{a:α}:a=a:=rfl
section
variable {P:Program}{ops:Array Oper}{Q:Exit→Act→World→Prop}{n:FN}{E:Env}{w:World}{ro:Option Nat}{d:Option Tmp}{ty:TypeId}{pos:String}{af:Array Edge}
theorem qm{rest:List Oper}{x:Operand}{v:Value}(hx:ev E x=some v)(hd:inN n d=true)(h:WL P ops Q rest n (putE E d v) w):WL P ops Q (⟨d,.move x,ty,pos,af,none⟩::rest) n E w:=nq (Q_move hx) rfl hd h
theorem qa{x:Operand}{v:Value}{y:Code}(hx:ev E x=some v)(hd:inN n d=true)(h:CW ro P y Q n (putE E d v) w):WL P ops (Exit.then (y.wpIn (Fx ro) 0 P Q) Q) [⟨d,.assign x,ty,pos,af,none⟩] n E w:=nq (Q_assign hx) rfl hd (WL_nil (x_then h))
theorem sr{y:Code}{id:Nat}{l:List Oper}(h:WL P l.toArray (Exit.then (y.wpIn (Fx ro) 0 P Q) Q) l n E w)(hn:l.all nodef=true:=by kernel_rfl):CW ro P (.seq (.region id l.toArray false) y) Q n E w:=C_seq (R_nd h hn)
theorem xs{y:Code}{id:Nat}{l:List Oper}(h:WL P l.toArray (Exit.then (y.wpIn (Fx ro) 0 P Q) Q) l n E w)(hn:l.all nodef=true:=by kernel_rfl):XX (Exit.then ((Code.seq (.region id l.toArray false) y).wpIn (Fx ro) 0 P Q) Q) .normal n E w:=x_then (C_seq (R_nd h hn))
end
end Go.Eng
namespace Go.Eng
open Go
abbrev nS:Value:= .slice none 0 0
abbrev K5:=eI .i64
abbrev K4:=eI .u64
abbrev K6:=eL K5
abbrev K7:=eA 256 K5
abbrev K8:=eP K4 (eP K4 (eP K4 K4))
abbrev K9:=eP K6 (eP K8 (eP K5 K5))
abbrev sV(b k l c:Nat):Value:= .slice (some ⟨b,k,none⟩) l c
abbrev ln{α:Type _}(l:List α):Int:=l.length
abbrev vR{ρ:View}:=View.le_refl ρ
abbrev LI:=List Int
theorem Om{p:Prop}(h:p:=by omega):p:=h
theorem mm{α:Type _}{a b:α}{l:List α}(h:a∈l):a∈b::l:=List.mem_cons_of_mem _ h
theorem ms{α:Type _}{a:α}{l:List α}:a∈a::l:=List.mem_cons_self ..
theorem tF{P:Program}{f:FuncId}{fn:Func}{c:Code}(h:P.funcs[f]? =some fn)(hn:(fn.name== "runtime.NumGoroutine")=false:=by kernel_rfl)(hb:fn.body=some c:=by exact rfl):HasFn P f:=⟨fn,c,h,hn,hb⟩
theorem tK{P:Program}{T:TypeId}{n bytes:Nat}{zero:Value}{agg:Bool}(h1:(P.info? T).map (fun i=>(i.size,i.bytes,i.zero))=some (n,bytes,some zero):=by kernel_rfl)(h2:(P.underlying T).map (fun d=>match d with| .struct _| .array _ _=>true|_=>false)=some agg:=by kernel_rfl):Ty P T n bytes zero agg:=⟨h1,h2⟩
theorem Dc{p:Prop}(h:p:=by decide):p:=h
theorem Sm{p:Prop}(h:p:=by simp):p:=h
theorem fJ{β:Sort _}{α:Sort _}{f:β→α}: ∀x,f x=f x:=fun _=>rfl
theorem nM{p:Prop}:true=false→p:=fun h=>nomatch h
theorem Fr.sb{n:FN}{a:Act}{E E':Env}(h:Fr n a E)(hs:subE E' E:=by repeat (first|exact trivial|refine⟨rfl,?_⟩)):Fr n a E':=h.sub hs
theorem Ci{P:Program}{Q:Exit→Act→World→Prop}{n:FN}{E:Env}{w:World}{ro:Option Nat}{c:Operand}{b:Bool}{x y:Code}{α:Type}{X Y Z:Option α}(hF:(if b=true then X else Y)=Z)(hc:ev E c=some (.bool b))(h1:X=Z→CW ro P x Q n E w)(h2:Y=Z→CW ro P y Q n E w):CW ro P (.cond c x y) Q n E w:=C_cond hc (fun hb=>h1 (itT hb hF)) (fun hb=>h2 (itF hb hF))
section
variable {P:Program}{ops:Array Oper}{Q:Exit→Act→World→Prop}{n:FN}{E:Env}{w:World}{ro:Option Nat}{d:Option Tmp}{ins:Op}{ty:TypeId}{pos:String}{af:Array Edge}{rest:List Oper}{v:Value}{post:Value→World→Prop}{S:World→Prop}{r:Ord}{i j:Nat}{b:Bool}
theorem nQ(hq:Qv P E ⟨d,ins,ty,pos,af,none⟩ v w)(h:WL P ops Q rest n (putE E d v) w)(hd:inN n d=true:=by exact rfl):WL P ops Q (⟨d,ins,ty,pos,af,none⟩::rest) n E w:=nq hq rfl hd h
theorem nE(he:Eff P E ⟨d,ins,ty,pos,af,none⟩ w post)(h: ∀v w',post v w'→WL P ops Q rest n (putE E d v) w')(hd:inN n d=true:=by exact rfl):WL P ops Q (⟨d,ins,ty,pos,af,none⟩::rest) n E w:=ne he rfl hd h
theorem gQ(hq:Qv P E ⟨d,ins,ty,pos,af,some (j,b)⟩ v w)(h:WL P ops Q rest n (putE E d v) w)(hj:gd ops E j=some b:=by exact rfl)(hd:inN n d=true:=by exact rfl):WL P ops Q (⟨d,ins,ty,pos,af,some (j,b)⟩::rest) n E w:=gq hq rfl hj hd h
theorem gE(he:Eff P E ⟨d,ins,ty,pos,af,some (j,b)⟩ w post)(h: ∀v w',post v w'→WL P ops Q rest n (putE E d v) w')(hj:gd ops E j=some b:=by exact rfl)(hd:inN n d=true:=by exact rfl):WL P ops Q (⟨d,ins,ty,pos,af,some (j,b)⟩::rest) n E w:=ge he rfl hj hd h
theorem gS(h:WL P ops Q rest n (putE E d undef) w)(hj:gd ops E j=some (!b):=by exact rfl)(hd:inN n d=true:=by exact rfl):WL P ops Q (⟨d,ins,ty,pos,af,some (j,b)⟩::rest) n E w:=gs rfl hj (by cases b<;>rfl) hd h
theorem qM{x:Operand}(hx:ev E x=some v)(h:WL P ops Q rest n (putE E d v) w)(hd:inN n d=true:=by exact rfl):WL P ops Q (⟨d,.move x,ty,pos,af,none⟩::rest) n E w:=nq (Q_move hx) rfl hd h
theorem qA{x:Operand}{y:Code}(hx:ev E x=some v)(h:CW ro P y Q n (putE E d v) w)(hd:inN n d=true:=by exact rfl):WL P ops (Exit.then (y.wpIn (Fx ro) 0 P Q) Q) [⟨d,.assign x,ty,pos,af,none⟩] n E w:=qa hx hd h
theorem wt{y:Code}(h:CW ro P y Q n E w):WL P ops (Exit.then (y.wpIn (Fx ro) 0 P Q) Q) [] n E w:=WL_nil (x_then h)
theorem dQ(hi:ops[i]? =some ⟨d,ins,ty,pos,af,none⟩)(hq: ∀w',S w'→Qv P E ⟨d,ins,ty,pos,af,none⟩ v w')(h:DL P ops S Q r n (putE E d v) w)(hd:inN n d=true:=by exact rfl):DL P ops S Q (.take i r) n E w:=dq hi hq rfl hd h
theorem dE(hi:ops[i]? =some ⟨d,ins,ty,pos,af,none⟩)(he:Eff P E ⟨d,ins,ty,pos,af,none⟩ w post)(h: ∀v w',post v w'→S w'∧DL P ops S Q r n (putE E d v) w')(hd:inN n d=true:=by exact rfl):DO P ops S Q i r n E w:=de hi he rfl hd h
theorem dB{K:Option Nat}(hi:ops[i]? =some ⟨d,ins,ty,pos,af,none⟩)(he:Eff P E ⟨d,ins,ty,pos,af,none⟩ w post)(h: ∀v w',post v w'→ ∃S',S' w'∧DL P ops S' Q r n (putE E d v) w')(hd:inN n d=true:=by exact rfl):DL P ops S Q (.bar i K r) n E w:=db hi he rfl hd h
theorem fc{f:FuncId}{fn:Func}{c:Code}{args:List Value}{R:Ending→World→Prop}(n:Nat)(hf:P.funcs[f]? =some fn)(hb:fn.body=some c)(h:CW none P c (bodyPost P fn R) (FN.of n) (argE 0 args) w)(hnt:fn.ntmps=n:=by exact rfl)(hn:args.length≤n:=by simp):Calls P f args.toArray w R:=fn_calls' hf hb hnt hn h
end
abbrev Q5(x0 x1 x2 x3 x4:Int)(x5:Value)(x6 x7:Int)(x8:ByteArray):List Value:=[iV x0,uV x1,uV x2,uV x3,uV x4,x5,iV x6,iV x7,.string x8]
abbrev Q6(x0:Int):List Value:=[iV x0,uV x0,uV x0,uV x0,uV x0,nS,iV x0,iV x0,.string ByteArray.empty]
abbrev Q7(x0 x1 x2 x3 x4:Int)(x5:Value)(x6 x7:Int)(x8:ByteArray):Value:= .agg #[iV x0,uV x1,uV x2,uV x3,uV x4,x5,iV x6,iV x7,.string x8]
abbrev Q8(x0 x1:Bool)(x2 x3 x4 x5 x6 x7 x8 x9 x10 x11 x12 x13 x14 x15 x16:Int):List Value:=[.bool x0,.bool x1,iV x2,iV x3,iV x4,uV x5,uV x6,uV x7,uV x8,uV x9,uV x10,uV x11,uV x12,uV x13,uV x14,uV x15,uV x16]
abbrev Q9(x0:Int):List Value:=[.bool false,.bool false,iV x0,iV x0,iV x0,uV x0,uV x0,uV x0,uV x0,uV x0,uV x0,uV x0,uV x0,uV x0,uV x0,uV x0,uV x0]
abbrev Q10(x0 x1:Bool)(x2 x3 x4 x5 x6 x7 x8 x9 x10 x11 x12 x13 x14 x15 x16:Int):Value:= .agg #[.bool x0,.bool x1,iV x2,iV x3,iV x4,uV x5,uV x6,uV x7,uV x8,uV x9,uV x10,uV x11,uV x12,uV x13,uV x14,uV x15,uV x16]
abbrev Q11(x0:Value)(x1 x2 x3 x4 x5:Int)(x6:Value)(x7 x8:Int)(x9 x10 x11:ByteArray)(x12:Int):List Value:=[x0,iV x1,uV x2,uV x3,uV x4,uV x5,x6,iV x7,iV x8,.string x9,.string x10,.string x11,iV x12]
abbrev Q12(x0 x1 x2 x3 x4:Int)(x5:Value)(x6 x7:Int):List Value:=[iV x0,uV x1,uV x2,uV x3,uV x4,x5,iV x6,iV x7,.string ByteArray.empty]
abbrev Q13(x0:Value)(x1 x2 x3 x4 x5:Int)(x6:Value)(x7 x8:Int)(x9:ByteArray)(x10 x11:Int):List Value:=[x0,iV x1,uV x2,uV x3,uV x4,uV x5,x6,iV x7,iV x8,.string x9,iV x10,iV x11]
abbrev Q14(x0:Value)(x1 x2 x3 x4 x5:Int)(x6:Value)(x7 x8 x9 x10:Int):List Value:=[x0,iV x1,uV x2,uV x3,uV x4,uV x5,x6,iV x7,iV x8,.string ByteArray.empty,iV x9,iV x10]
abbrev Q15(x0:Bool)(x1 x2 x3 x4 x5 x6 x7 x8 x9 x10 x11 x12 x13 x14 x15:Int):List Value:=[.bool false,.bool x0,iV x1,iV x2,iV x3,uV x4,uV x5,uV x6,uV x7,uV x8,uV x9,uV x10,uV x11,uV x12,uV x13,uV x14,uV x15]
abbrev Q16(x0 x1 x2 x3:Int):List Value:=[uV x0,uV x1,uV x2,uV x3]
abbrev Q17(x0 x1:Int):List Value:=[.bool true,.bool false,iV x0,iV x0,iV x1,uV x1,uV x1,uV x1,uV x1,uV x1,uV x1,uV x1,uV x1,uV x1,uV x1,uV x1,uV x1]
abbrev Q18(x0:Int):Value:= .agg #[iV x0,uV x0,uV x0,uV x0,uV x0,nS,iV x0,iV x0,.string ByteArray.empty]
abbrev Q19(x0:Int):List Value:=[nS,iV x0,uV x0,uV x0,uV x0,uV x0,nS,iV x0,iV x0,.string ByteArray.empty,.string ByteArray.empty,.string ByteArray.empty,iV x0]
abbrev Q20(x0:ByteArray)(x1 x2 x3 x4 x5:Int)(x6:Value)(x7 x8:Int)(x9:ByteArray)(x10:Int):List Value:=[.string x0,iV x1,uV x2,uV x3,uV x4,uV x5,x6,iV x7,iV x8,.string x9,iV x10]
abbrev Q21(x0 x1 x2:Int):List Value:=[.agg #[iV x0,uV x0,uV x0,uV x0,uV x0,(nS),iV x0,iV x0,.string ByteArray.empty],iV x1,iV x2]
abbrev Q22(x0:Int):List Value:=[nS,iV x0,uV x0,uV x0,uV x0,uV x0,nS,iV x0,iV x0,.string ByteArray.empty,iV x0,iV x0]
abbrev Q23(x0 x1 x2 x3:Int):Value:= .agg #[uV x0,uV x1,uV x2,uV x3]
abbrev Q24(x0:Int):List Value:=[.string ByteArray.empty,iV x0,uV x0,uV x0,uV x0,uV x0,nS,iV x0,iV x0,.string ByteArray.empty,iV x0]
abbrev Q25(x0:Value)(x1 x2 x3 x4 x5:Int)(x6:Value)(x7 x8:Int)(x9:ByteArray)(x10 x11:Int):Value:= .agg #[x0,iV x1,uV x2,uV x3,uV x4,uV x5,x6,iV x7,iV x8,.string x9,iV x10,iV x11]
abbrev Q26(x0 x1:Int):Value:= .agg #[.bool true,.bool false,iV x0,iV x0,iV x1,uV x1,uV x1,uV x1,uV x1,uV x1,uV x1,uV x1,uV x1,uV x1,uV x1,uV x1,uV x1]
abbrev Q27(x0:Int):Value:= .agg #[.bool false,.bool true,iV x0,iV x0,iV x0,uV x0,uV x0,uV x0,uV x0,uV x0,uV x0,uV x0,uV x0,uV x0,uV x0,uV x0,uV x0]
abbrev Q28(x0:Int):List Value:=[.bool false,.bool true,iV x0,iV x0,iV x0,uV x0,uV x0,uV x0,uV x0,uV x0,uV x0,uV x0,uV x0,uV x0,uV x0,uV x0,uV x0]
abbrev Q29(x0:ByteArray)(x1 x2 x3 x4 x5:Int)(x6:Value)(x7 x8:Int)(x9:ByteArray):List Value:=[.string x0,iV x1,uV x2,uV x3,uV x4,uV x5,x6,iV x7,iV x8,.string x9]
abbrev Q30(x0 x1 x2 x3 x4 x5 x6 x7 x8 x9 x10 x11 x12 x13 x14:Int):List Value:=[.bool false,.bool false,iV x0,iV x1,iV x2,uV x3,uV x4,uV x5,uV x6,uV x7,uV x8,uV x9,uV x10,uV x11,uV x12,uV x13,uV x14]
abbrev Q31(x0 x1 x2 x3 x4:Int)(x5:Value)(x6 x7:Int):Value:= .agg #[iV x0,uV x1,uV x2,uV x3,uV x4,x5,iV x6,iV x7,.string ByteArray.empty]
abbrev Q32(x0:Value)(x1 x2 x3 x4 x5:Int)(x6:Value)(x7 x8:Int)(x9 x10 x11:ByteArray)(x12:Int):Value:= .agg #[x0,iV x1,uV x2,uV x3,uV x4,uV x5,x6,iV x7,iV x8,.string x9,.string x10,.string x11,iV x12]
abbrev Q33(x0:Bool)(x1 x2 x3 x4 x5 x6 x7 x8 x9 x10 x11 x12 x13 x14 x15:Int):Value:= .agg #[.bool false,.bool x0,iV x1,iV x2,iV x3,uV x4,uV x5,uV x6,uV x7,uV x8,uV x9,uV x10,uV x11,uV x12,uV x13,uV x14,uV x15]
abbrev Q34(x0 x1:Int):List Value:=[.agg #[(nS),(nS),(nS)],iV x0,iV x1]
abbrev Q35(x0 x1:Int):List Value:=[nS,iV x0,uV x0,uV x0,uV x0,uV x0,nS,iV x0,iV x0,.string ByteArray.empty,iV x1,iV x1]
abbrev Q36(x0 x1 x2:Int):Value:= .agg #[.bool true,.bool false,iV x0,iV x0,iV x1,uV x2,uV x2,uV x2,uV x2,uV x2,uV x2,uV x2,uV x2,uV x2,uV x2,uV x2,uV x2]
abbrev Q37(x0:Value)(x1 x2:Int):List Value:=[x0,iV x1,uV x1,uV x1,uV x1,uV x1,nS,iV x1,iV x1,.string ByteArray.empty,iV x2,iV x2]
abbrev Q38(x0:Value)(x1 x2 x3:Int):List Value:=[x0,iV x1,uV x1,uV x1,uV x1,uV x1,nS,iV x1,iV x1,.string ByteArray.empty,iV x2,iV x3]
abbrev Q39(x0:ByteArray)(x1 x2 x3 x4 x5:Int)(x6:Value)(x7 x8:Int)(x9:ByteArray)(x10:Int):Value:= .agg #[.string x0,iV x1,uV x2,uV x3,uV x4,uV x5,x6,iV x7,iV x8,.string x9,iV x10]
abbrev Q40(x0:Int):List Value:=[uV x0,uV x0,uV x0,uV x0]
abbrev Q41(x0 x1 x2 x3 x4 x5 x6 x7 x8 x9 x10 x11 x12 x13 x14:Int):Value:= .agg #[.bool false,.bool false,iV x0,iV x1,iV x2,uV x3,uV x4,uV x5,uV x6,uV x7,uV x8,uV x9,uV x10,uV x11,uV x12,uV x13,uV x14]
end Go.Eng
