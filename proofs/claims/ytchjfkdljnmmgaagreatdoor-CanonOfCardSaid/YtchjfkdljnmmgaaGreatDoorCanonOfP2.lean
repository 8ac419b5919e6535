import Derived.Test.YtchjfkdljnmmgaaGreatDoorCanonOfP1
namespace Go.Proofs.YtchjfkdljnmmgaaGreatDoor
open Go Go.Eng
set_option maxRecDepth 100000
variable {N:Nat}{rows:List Go.Eng.LI}{rule entry:Go.Eng.LI}
theorem contains_spec{xs:LI}{x:Int}(hN:4294967296≤N)(hl:xs.length<4294967296):F_186 N xs x=some (decide (x∈xs)):=by
 unfold F_186 F_67
 rw[loop_find xs (fun y=>x==y) (fun i=>(i:Int)) Om (fun i y hy=>by
  have hi:=lt_len hy;unfold F_191;simp only[show((i:Int)<(xs.length:Int)) by omega,decide_true,if_true,idx_of hy,bind,Option.bind_some];rw[w64_succ Om]) (by unfold F_191;simp)]
 cases h:xs.findIdx? _ with
 |none=>
   have:x∉xs:=fun hm=>by
    have:=List.findIdx?_eq_none_iff.1 h x hm;simp at this
   simp[this]
 |some k=>
   obtain⟨hk,hp,_⟩:=List.findIdx?_eq_some_iff_getElem.1 h;have hx:x=xs[k]:=by simpa using hp
   have:x∈xs:=hx▸List.getElem_mem hk;simp[this]
def lat(p:Nat):List (Int×Int):=(List.range 256).map fun(c:Nat)=>((p:Int),(c:Int))
theorem lat_len(p:Nat):(lat p).length=256:=by simp[lat]
theorem mem_lat{p c:Nat}(h:c<256):((p:Int),(c:Int))∈lat p:=List.mem_map.2 ⟨c,List.mem_range.2 h,rfl⟩
theorem lat_mem{p:Nat}{t:Int×Int}(h:t∈lat p): ∃c:Nat,c<256∧t=((p:Int),(c:Int)):=by
 obtain⟨c,h1,h2⟩:=List.mem_map.1 h;exact⟨c,List.mem_range.1 h1,h2.symm⟩
theorem later_spec{N p:Nat}{rule entry part:LI}{B:List (List LI)}{list:List LI}{work:List (Int×Int)}(hN:4294967296≤N)(hw:work.length+256≤4294967296):
 F_41 N rows rule entry B part list work (p:Int)=some (work++lat p):=by
 unfold F_41
 obtain⟨s,h1,h2⟩:=loop_inv (f:=fun s=>F_140 N (p:Int) s.1 s.2) (fun c (s:List (Int×Int))=>(s,(c:Int))) id (List.range 256)
  (fun c s=>s=work++(List.range c).map fun(c:Nat)=>((p:Int),(c:Int))) (N:=N) (s:=work) (by simp;omega) Sm
  (fun c y s hx hI=>by
   obtain⟨hc,rfl⟩:=range_get hx;refine⟨s++ [((p:Int),(y:Int))],?_,by rw[hI,List.range_succ,List.map_append,List.append_assoc];rfl⟩;unfold F_140;simp only[show((y:Int)<256) by omega,decide_true,if_true,wrap8 hc,bind];rw[app_eq (by rw[hI];simp;omega)];simp only[Option.bind_some];rw[w64_succ Om])
  (fun s _=>by unfold F_140;simp)
 rw[show iterO N (fun s=>F_140 N (p:Int) s.1 s.2) (work,0)=_ from h1];rw[List.length_range]at h2;simp only[bind,Option.bind_some,id,h2];rfl
def pt(part:LI)(s:Int):Int:=part.getD s.toNat 0
theorem pt_idx{part:LI}{n:Nat}{s:Int}(hl:part.length=n)(h:0≤s∧s<n):idx part s=some (pt part s):=by
 have hsl:s.toNat<part.length:=by omega
 unfold pt;rw[getD_of (List.getElem?_eq_getElem hsl)];exact idx_int h.1 hsl
theorem pt_set{part:LI}{n:Nat}{s v:Int}(hl:part.length=n)(h:0≤s∧s<n): ∃part',setI part s v=some part'∧part'.length=n∧ ∀x:Int,0≤x∧x<(n:Int)→pt part' x=if x=s then v else pt part x:=by
 have hsl:s.toNat<part.length:=by omega
 refine⟨part.set s.toNat v,setI_int h.1 hsl,by rw[List.length_set];exact hl,fun x hx=>?_⟩;unfold pt;by_cases he:x=s
 ·subst he;rw[if_pos rfl];exact getD_of (List.getElem?_set_self hsl)
 rw[if_neg he,List.getD,List.getElem?_set_ne Om];rfl
structure PSt(n K:Nat)(part:LI)(list:List LI):Prop where
 pl:part.length=n
 pr: ∀s:Int,0≤s∧s<K→0≤pt part s∧pt part s<list.length
 ls: ∀p:Nat,p<list.length→Acc n (list.getD p [])∧list.getD p []≠ []∧ ∀s:Int,s∈list.getD p []↔(0≤s∧s<K)∧pt part s=(p:Int)
theorem PSt.many{n K:Nat}{part:LI}{list:List LI}(h:PSt n K part list):list.length≤n:=by
 have hA:Acc n ((List.range list.length).map fun p=>(list.getD p []).headD 0):=by
  have hd: ∀p,p<list.length→(list.getD p []).headD 0∈list.getD p []:=fun p hp=>by
   have:=(h.ls p hp).2.1
   cases hh:list.getD p []with
   |nil=>exact absurd hh this
   |cons x xs=>simp
  refine⟨?_,fun x hx=>?_⟩
  ·unfold List.Nodup;rw[List.pairwise_map];refine List.Pairwise.imp_of_mem (fun{p q} hp hq hne he=>hne ?_) (List.nodup_range (n:=list.length));have h1:=((h.ls p (List.mem_range.1 hp)).2.2 _).1 (hd p (List.mem_range.1 hp));have h2:=((h.ls q (List.mem_range.1 hq)).2.2 _).1 (hd q (List.mem_range.1 hq));rw[he]at h1;have:=h1.2.symm.trans h2.2;omega
  obtain⟨p,hp,rfl⟩:=List.mem_map.1 hx;exact(h.ls p (List.mem_range.1 hp)).1.rng _ (hd p (List.mem_range.1 hp))
 have:=hA.len;simpa using this
theorem Acc.filter{n:Nat}{l:LI}(h:Acc n l)(p:Int→Bool):Acc n (l.filter p):=⟨h.nd.filter p,fun x hx=>h.rng x ((List.mem_filter.1 hx).1)⟩
section
variable {N:Nat}{rows:List LI}{rule entry:LI}
theorem split_loop{frm l:LI}(hN:4294967296≤N)(hf:frm.length<4294967296)(hl:l.length<4294967296):
 iterO N (fun s=>F_70 N frm l s.1 s.2.1 s.2.2) (0,[],[])=some (l.filter (fun x=>decide (x∈frm)),l.filter (fun x=> !decide (x∈frm))):=by
 obtain⟨s,h1,h2,h3⟩:=loop_inv (f:=fun s=>F_70 N frm l s.1 s.2.1 s.2.2) (fun i (s:LI×LI)=>((i:Int),s.1,s.2)) (fun s=>(s.1,s.2)) l
  (fun i s=>s.1=(l.take i).filter (fun x=>decide (x∈frm))∧s.2=(l.take i).filter (fun x=> !decide (x∈frm))) (N:=N) (s:=([],[])) Om Sm
  (fun i x s hx hI=>by
   obtain⟨a,b⟩:=s;obtain⟨k1,k2⟩:=hI;simp only at k1 k2;have hi:=lt_len hx;have la:a.length≤i:=by rw[k1];exact Nat.le_trans (List.length_filter_le ..) (by rw[List.length_take];omega)
   have lb:b.length≤i:=by rw[k2];exact Nat.le_trans (List.length_filter_le ..) (by rw[List.length_take];omega)
   have ht:l.take (i+1)=l.take i++ [x]:=by rw[List.take_add_one,hx];rfl
   by_cases hm:x∈frm
   ·refine⟨(a++ [x],b),?_,?_,?_⟩
    ·unfold F_70;simp only[show((i:Int)<(l.length:Int)) by omega,decide_true,if_true,idx_of hx,contains_spec hN hf,hm,bind,Option.bind_some];rw[app_eq (by simp;omega)];simp only[Option.bind_some];rw[w64_succ Om]
    ·rw[ht,List.filter_append,←k1];simp[hm]
    rw[ht,List.filter_append,←k2];simp[hm]
   refine⟨(a,b++ [x]),?_,?_,?_⟩
   ·unfold F_70;simp only[show((i:Int)<(l.length:Int)) by omega,decide_true,if_true,idx_of hx,contains_spec hN hf,hm,decide_false,Bool.false_eq_true,if_false,bind,Option.bind_some];rw[app_eq (by simp;omega)];simp only[Option.bind_some];rw[w64_succ Om]
   ·rw[ht,List.filter_append,←k1];simp[hm]
   rw[ht,List.filter_append,←k2];simp[hm])
  (fun s _=>by unfold F_70;simp)
 rw[List.take_length]at h2 h3;rw[show iterO N (fun s=>F_70 N frm l s.1 s.2.1 s.2.2) (0,[],[])=_ from h1,h2,h3]
theorem split_put{n:Nat}{part b:LI}{list:List LI}(hN:4294967296≤N)(hl:part.length=n)(hb:Acc n b)(hn:n<4294967296):
 ∃part',iterO N (fun s=>F_90 N list b s.1 s.2) (part,0)=some part'∧part'.length=n∧ ∀x,0≤x∧x<(n:Int)→pt part' x=if x∈b then(list.length:Int)else pt part x:=by
 have hbl:=hb.len
 obtain⟨s,h1,h2,h3⟩:=loop_inv (f:=fun s=>F_90 N list b s.1 s.2) (fun i (s:LI)=>(s,(i:Int))) id b
  (fun i s=>s.length=n∧ ∀x,0≤x∧x<(n:Int)→pt s x=if x∈b.take i then(list.length:Int)else pt part x) (N:=N) (s:=part) Om ⟨hl,fun x _=>by simp⟩
  (fun i x s hx hI=>by
   obtain⟨k1,k2⟩:=hI;have hi:=lt_len hx;have hxr:=hb.rng x (List.mem_of_getElem? hx);obtain⟨s',q1,q2,q3⟩:=pt_set (v:=(list.length:Int)) k1 hxr;refine⟨s',?_,q2,fun y hy=>?_⟩
   ·unfold F_90;simp only[show((i:Int)<(b.length:Int)) by omega,decide_true,if_true,idx_of hx,pt_idx k1 hxr,q1,bind,Option.bind_some];rw[w64_succ Om]
   have ht:b.take (i+1)=b.take i++ [x]:=by rw[List.take_add_one,hx];rfl
   rw[q3 y hy,ht,k2 y hy];by_cases he:y=x
   ·subst he;simp
   simp[he])
  (fun s _=>by unfold F_90;simp)
 rw[List.take_length]at h3;exact⟨s,h1,h2,h3⟩
theorem PSt.cut{n p:Nat}{part part' a b:LI}{list:List LI}(h:PSt n n part list)(hp:p<list.length)(ha:Acc n a)(hb:Acc n b)(hae:a≠ [])(hbe:b≠ [])(hab: ∀x,x∈list.getD p []↔x∈a∨x∈b)(hdj: ∀x,x∈a→x∉b)
 (hl:part'.length=n) (hpt: ∀x,0≤x∧x<(n:Int)→pt part' x=if x∈b then(list.length:Int)else pt part x):PSt n n part' (list.set p a++ [b]):=by
 have hbp: ∀x,x∈b→(0≤x∧x<(n:Int))∧pt part x=(p:Int):=fun x hx=>((h.ls p hp).2.2 x).1 ((hab x).2 (.inr hx));refine⟨hl,fun s hs=>?_,fun q hq=>?_⟩
 ·rw[hpt s hs];simp only[List.length_append,List.length_set,List.length_singleton];have:=h.pr s hs;split<;>omega
 simp only[List.length_append,List.length_set,List.length_singleton]at hq;by_cases h1:q=list.length
 ·subst h1
  have e:(list.set p a++ [b]).getD list.length []=b:=by
   rw[List.getD,show list.length=(list.set p a).length by simp,List.getElem?_concat_length];rfl
  rw[e];refine⟨hb,hbe,fun s=>⟨fun hs=>⟨(hbp s hs).1,by rw[hpt s (hbp s hs).1,if_pos hs]⟩,fun⟨hs,he⟩=>?_⟩⟩;rw[hpt s hs]at he;refine Classical.byContradiction fun hn=>?_;rw[if_neg hn]at he;have:=h.pr s hs;omega
 have hq':q<list.length:=by omega
 have e0:(list.set p a++ [b]).getD q []=(list.set p a).getD q []:=by
  rw[List.getD,List.getD,List.getElem?_append_left (by simpa using hq')]
 rw[e0];by_cases h2:q=p
 ·subst h2;rw[getD_of (List.getElem?_set_self hp)];refine⟨ha,hae,fun s=>⟨fun hs=>?_,fun⟨hs,he⟩=>?_⟩⟩
  ·have hh:=((h.ls q hp).2.2 s).1 ((hab s).2 (.inl hs));exact⟨hh.1,by rw[hpt s hh.1,if_neg (hdj s hs)];exact hh.2⟩
  rw[hpt s hs]at he;by_cases hsb:s∈b
  ·rw[if_pos hsb]at he;omega
  rw[if_neg hsb]at he;exact((hab s).1 (((h.ls q hp).2.2 s).2 ⟨hs,he⟩)).resolve_right hsb
 have e1:(list.set p a).getD q []=list.getD q []:=by
  rw[List.getD,List.getElem?_set_ne Om];rfl
 rw[e1];refine⟨(h.ls q hq').1,(h.ls q hq').2.1,fun s=>?_⟩;rw[(h.ls q hq').2.2 s];constructor
 ·rintro⟨hs,he⟩;refine⟨hs,?_⟩;rw[hpt s hs,if_neg (fun hb'=>?_),he];have:=(hbp s hb').2;omega
 rintro⟨hs,he⟩;refine⟨hs,?_⟩;rw[hpt s hs]at he;by_cases hsb:s∈b
 ·rw[if_pos hsb]at he;omega
 rwa[if_neg hsb]at he
theorem split_spec{n p:Nat}{part frm:LI}{B:List (List LI)}{list:List LI}{work:List (Int×Int)}(hN:4294967296≤N)(hn:n<4294967296)(hP:PSt n n part list)(hp:p<list.length)(hf:frm.length<4294967296)(hw:work.length+256≤4294967296):
 ∃part' list' work',F_26 N rows rule entry B part list work (p:Int) frm=some (part',list',work')∧PSt n n part' list'∧
   (∀s:Int,0≤s∧s<(n:Int)→pt part' s=pt part s∨(pt part s=(p:Int)∧pt part' s=(list.length:Int)))∧
   (∀a b:Int,0≤a∧a<(n:Int)→0≤b∧b<(n:Int)→(pt part' a=pt part' b↔pt part a=pt part b∧(pt part a=(p:Int)→(a∈frm↔b∈frm))))∧
   ((list'.length=list.length∧work'=work)∨(list'.length=list.length+1∧work'=work++lat list.length)):=by
 obtain⟨hA,hne,hmem⟩:=hP.ls p hp;have hml:=hP.many;have hAl:=hA.len;have gi:list[p]? =some (list.getD p []):=by rw[getD_of (List.getElem?_eq_getElem hp)];exact List.getElem?_eq_getElem hp
 generalize hl:list.getD p []=l at*;have hlp:=split_loop (N:=N) (frm:=frm) (l:=l) hN hf Om;generalize ha:l.filter (fun x=>decide (x∈frm))=a at hlp;generalize hb:l.filter (fun x=> !decide (x∈frm))=b at hlp;have ma: ∀x,x∈a↔x∈l∧x∈frm:=by intro x;rw[←ha];simp
 have mb: ∀x,x∈b↔x∈l∧x∉frm:=by intro x;rw[←hb];simp
 have hAa:Acc n a:=ha▸hA.filter _;have hAb:Acc n b:=hb▸hA.filter _;have hal:=hAa.len;have hbl:=hAb.len
 have e0: ∀(r:Option (LI×List LI×List (Int×Int))),(if((if((a.length:Int)==0)=true then true else(b.length:Int)==0))=true then some (part,list,work)else
  (let ab:=if(a.length:Int)<(b.length:Int)then(b,a)else(a,b)
   (setI list (p:Int) ab.1).bind fun x=>(app x [ab.2]).bind fun x=>(iterO N (fun s=>F_90 N list ab.2 s.1 s.2) (part,0)).bind fun y=>(F_41 N rows rule entry B y x work (list.length:Int)).bind fun z=>some (y,x,z)))=r→
  F_26 N rows rule entry B part list work (p:Int) frm=r:=by
  intro r hr;rw[←hr];unfold F_26;simp only[idx_of gi,bind,Option.bind_some];rw[hlp];simp only[Option.bind_some];cases h1:(a.length:Int)==0
  ·simp only[Bool.false_eq_true,if_false,Option.bind_some];cases h2:(b.length:Int)==0
   ·simp only[Bool.false_eq_true,if_false];by_cases h3:(a.length:Int)<(b.length:Int)
    ·simp only[h3,decide_true,if_true,Option.bind_some]
    simp only[h3,decide_false,Bool.false_eq_true,if_false,Option.bind_some]
   simp only[if_true]
  simp only[if_true,Option.bind_some]
 by_cases h0:a= []∨b= []
 ·refine⟨part,list,work,e0 _ ?_,hP,fun s _=> .inl rfl,fun x y hx hy=>⟨fun he=>⟨he,fun hxp=>?_⟩,fun q=>q.1⟩,.inl ⟨rfl,rfl⟩⟩
  ·rw[if_pos];rcases h0 with h0|h0<;>simp[h0]
  have hxl:=(hmem x).2 ⟨hx,hxp⟩;have hyl:=(hmem y).2 ⟨hy,he▸hxp⟩;rcases h0 with h0|h0
  ·have nx:x∉frm:=fun q=>by have:=(ma x).2 ⟨hxl,q⟩;rw[h0]at this;simp at this
   have ny:y∉frm:=fun q=>by have:=(ma y).2 ⟨hyl,q⟩;rw[h0]at this;simp at this
   exact⟨fun q=>absurd q nx,fun q=>absurd q ny⟩
  have nx:x∈frm:=Classical.byContradiction fun q=>by have:=(mb x).2 ⟨hxl,q⟩;rw[h0]at this;simp at this
  have ny:y∈frm:=Classical.byContradiction fun q=>by have:=(mb y).2 ⟨hyl,q⟩;rw[h0]at this;simp at this
  exact⟨fun _=>ny,fun _=>nx⟩
 have hae:a≠ []:=fun q=>h0 (.inl q);have hbe:b≠ []:=fun q=>h0 (.inr q)
 have hc1:(if((a.length:Int)==0)=true then true else(b.length:Int)==0)=false:=by
  have h1:((a.length:Int)==0)=false:=by simpa using hae
  have h2:((b.length:Int)==0)=false:=by simpa using hbe
  rw[h1,h2];rfl
 have go: ∀a' b':LI,(if(a.length:Int)<(b.length:Int)then(b,a)else(a,b))=(a',b')→Acc n a'→Acc n b'→a'≠ []→b'≠ []→(∀x,x∈l↔x∈a'∨x∈b')→(∀x,x∈a'→x∉b')→(∀x y,x∈l→y∈l→((x∈b'↔y∈b')↔(x∈frm↔y∈frm)))→
  ∃part' list' work',F_26 N rows rule entry B part list work (p:Int) frm=some (part',list',work')∧PSt n n part' list'∧
    (∀s:Int,0≤s∧s<(n:Int)→pt part' s=pt part s∨(pt part s=(p:Int)∧pt part' s=(list.length:Int)))∧
    (∀a b:Int,0≤a∧a<(n:Int)→0≤b∧b<(n:Int)→(pt part' a=pt part' b↔pt part a=pt part b∧(pt part a=(p:Int)→(a∈frm↔b∈frm))))∧
    ((list'.length=list.length∧work'=work)∨(list'.length=list.length+1∧work'=work++lat list.length)):=by
  intro a' b' hab hAa' hAb' hae' hbe' hun hdj hiff;obtain⟨part',q1,q2,q3⟩:=split_put (N:=N) (list:=list) hN hP.pl hAb' hn;refine⟨part',list.set p a'++ [b'],work++lat list.length,e0 _ ?_,hP.cut hp hAa' hAb' hae' hbe' (by rw[hl];exact hun) hdj q2 q3,fun s hs=>?_,fun x y hx hy=>?_,.inr ⟨by simp,rfl⟩⟩
  ·simp only[hc1,Bool.false_eq_true,if_false,hab];rw[setI_nat hp];simp only[Option.bind_some];rw[app_eq (by simp;omega)];simp only[Option.bind_some];rw[q1];simp only[Option.bind_some];rw[later_spec hN hw];rfl
  ·rw[q3 s hs];by_cases hsb:s∈b'
   ·rw[if_pos hsb];exact .inr ⟨((hmem s).1 ((hun s).2 (.inr hsb))).2,rfl⟩
   rw[if_neg hsb];exact .inl rfl
  have px:=hP.pr x hx;have py:=hP.pr y hy;have bx:x∈b'→pt part x=(p:Int):=fun q=>((hmem x).1 ((hun x).2 (.inr q))).2;have by_:y∈b'→pt part y=(p:Int):=fun q=>((hmem y).1 ((hun y).2 (.inr q))).2;rw[q3 x hx,q3 y hy];by_cases h1:pt part x=pt part y
  ·by_cases h2:pt part x=(p:Int)
   ·have hxl:=(hmem x).2 ⟨hx,h2⟩;have hyl:=(hmem y).2 ⟨hy,h1▸h2⟩;have hh:=hiff x y hxl hyl;by_cases c1:x∈b'<;>by_cases c2:y∈b'<;>simp only[c1,c2,if_true,if_false,true_iff,iff_true,false_iff,iff_false,not_true]at hh ⊢
    ·exact⟨h1,fun _=>by simpa using hh⟩
    ·refine⟨fun q=>by omega,fun q=>?_⟩;exact absurd (q.2 h2) (by simpa using hh)
    ·refine⟨fun q=>by omega,fun q=>?_⟩;exact absurd (q.2 h2) (by simpa using hh)
    exact⟨fun q=>⟨h1,fun _=>by simpa using hh⟩,fun q=>h1⟩
   have n1:x∉b':=fun q=>h2 (bx q);have n2:y∉b':=fun q=>h2 (h1.trans (by_ q));rw[if_neg n1,if_neg n2];exact⟨fun q=>⟨q,fun q'=>absurd q' h2⟩,fun q=>q.1⟩
  constructor
  ·intro q;exfalso;split at q<;>split at q
   ·rename_i c1 c2;exact h1 ((bx c1).trans (by_ c2).symm)
   ·omega
   ·omega
   exact h1 q
  exact fun q=>absurd q.1 h1
 by_cases hlt:(a.length:Int)<(b.length:Int)
 ·refine go b a (by rw[if_pos hlt]) hAb hAa hbe hae (fun x=>?_) (fun x hx hx'=>((mb x).1 hx).2 ((ma x).1 hx').2) (fun x y hx hy=>?_)
  ·rw[ma,mb];by_cases q:x∈frm<;>simp[q]
  rw[ma,ma];simp[hx,hy]
 refine go a b (by rw[if_neg hlt]) hAa hAb hae hbe (fun x=>?_) (fun x hx hx'=>((mb x).1 hx').2 ((ma x).1 hx).2) (fun x y hx hy=>?_)
 ·rw[ma,mb];by_cases q:x∈frm<;>simp[q]
 rw[mb,mb];simp only[hx,hy,true_and];exact Decidable.not_iff_not
end
open Go Go.Eng
set_option maxRecDepth 100000
def bv(B:List (List LI))(y c:Nat):LI:=(B.getD y []).getD c []
structure BackOk(rows:List LI)(D:Nat→Nat→Prop)(B:List (List LI)):Prop where
 l:B.length=rows.length
 w: ∀r∈B,r.length=256
 m: ∀y c:Nat,y<rows.length→c<256→Acc rows.length (bv B y c)∧ ∀i:Int,i∈bv B y c↔ ∃j:Nat,i=(j:Int)∧j<rows.length∧D j c∧nxt rows (j:Int) (c:Int)=(y:Int)
theorem bv_rep{n m y c:Nat}(hy:y<n)(hc:c<m):bv (List.replicate n (List.replicate m [])) y c= []:=by
 simp[bv,List.getD,hy,hc]
theorem BackOk.get{D:Nat→Nat→Prop}{B:List (List LI)}{y c:Nat}(h:BackOk rows D B)(hy:y<rows.length)(hc:c<256): ∃r,B[y]? =some r∧r.length=256∧r[c]? =some (bv B y c):=by
 have hl:y<B.length:=by rw[h.l];exact hy
 have hw:=h.w _ (List.getElem_mem hl);have hcl:c<B[y].length:=by omega
 refine⟨B[y],List.getElem?_eq_getElem hl,hw,?_⟩;unfold bv;rw[getD_of (List.getElem?_eq_getElem hl),getD_of (List.getElem?_eq_getElem hcl)];exact List.getElem?_eq_getElem hcl
theorem BackOk.congr{D D':Nat→Nat→Prop}{B:List (List LI)}(h:BackOk rows D B)(hd: ∀j c,j<rows.length→c<256→(D j c↔D' j c)):BackOk rows D' B:=
 ⟨h.l,h.w,fun y c hy hc=>⟨(h.m y c hy hc).1,fun i=>by
  rw[(h.m y c hy hc).2 i];constructor
  ·rintro⟨j,a,b,d,e⟩;exact⟨j,a,b,(hd j c b hc).1 d,e⟩
  rintro⟨j,a,b,d,e⟩;exact⟨j,a,b,(hd j c b hc).2 d,e⟩⟩⟩
theorem BackOk.add{D:Nat→Nat→Prop}{B:List (List LI)}{i c y:Nat}{r:List LI}(h:BackOk rows D B)(hi:i<rows.length)(hc:c<256)(hy:y<rows.length)(hn:nxt rows (i:Int) (c:Int)=(y:Int))(hD: ¬D i c)(hr:B[y]? =some r):
 BackOk rows (fun a b=>D a b∨(a=i∧b=c)) (B.set y (r.set c (bv B y c++ [(i:Int)]))):=by
 have hrw:=h.w _ (List.mem_of_getElem? hr);have hyl:=lt_len hr
 have hv: ∀y' c',y'<rows.length→c'<256→bv (B.set y (r.set c (bv B y c++ [(i:Int)]))) y' c'=if y'=y∧c'=c then bv B y c++ [(i:Int)]else bv B y' c':=by
  intro y' c' hy' hc';by_cases h1:y'=y
  ·subst h1;by_cases h2:c'=c
   ·subst h2;rw[if_pos ⟨rfl,rfl⟩,bv,getD_of (List.getElem?_set_self hyl),getD_of (List.getElem?_set_self Om)]
   rw[if_neg Om,bv,getD_of (List.getElem?_set_self hyl),List.getD,List.getElem?_set_ne Om,bv,getD_of hr];rfl
  have e:(B.set y (r.set c (bv B y c++ [(i:Int)]))).getD y' []=B.getD y' []:=by
   rw[List.getD,List.getElem?_set_ne Om];rfl
  rw[if_neg Om,bv,e];rfl
 refine⟨by rw[List.length_set];exact h.l,fun x hx=>?_,fun y' c' hy' hc'=>?_⟩
 ·rcases List.mem_or_eq_of_mem_set hx with hx|rfl
  ·exact h.w x hx
  rw[List.length_set];exact hrw
 rw[hv y' c' hy' hc'];obtain⟨hA,hm⟩:=h.m y' c' hy' hc';by_cases h1:y'=y∧c'=c
 ·obtain⟨rfl,rfl⟩:=h1;rw[if_pos ⟨rfl,rfl⟩]
  have hni:(i:Int)∉bv B y' c':=fun q=>by
   obtain⟨j,j1,_,j2,_⟩:=(hm _).1 q;obtain rfl:j=i:=by omega
   exact hD j2
  refine⟨?_,fun x=>?_⟩
  ·have:=hA.ins (x:=(i:Int)) ⟨by omega,by omega⟩;rwa[show ins (bv B y' c') (i:Int)=bv B y' c'++ [(i:Int)] by rw[ins,if_neg hni]]at this
  rw[List.mem_append,hm x];constructor
  ·rintro(⟨j,a,b,d,e⟩|q)
   ·exact⟨j,a,b,.inl d,e⟩
   simp at q;exact⟨i,q,hi,.inr ⟨rfl,rfl⟩,hn⟩
  rintro⟨j,a,b,d,e⟩;rcases d with d|⟨rfl,_⟩
  ·exact .inl ⟨j,a,b,d,e⟩
  exact .inr (by simp[a])
 rw[if_neg h1];refine⟨hA,fun x=>?_⟩;rw[hm x];constructor
 ·rintro⟨j,a,b,d,e⟩;exact⟨j,a,b,.inl d,e⟩
 rintro⟨j,a,b,d,e⟩;rcases d with d|⟨rfl,rfl⟩
 ·exact⟨j,a,b,d,e⟩
 rw[hn]at e;exact absurd ⟨by omega,rfl⟩ h1
theorem PSt.addOld{n K p:Nat}{part part':LI}{list:List LI}(h:PSt n K part list)(hK:K<n)(hp:p<list.length)(hl:part'.length=n)(hpt: ∀x:Int,0≤x∧x<(n:Int)→pt part' x=if x=(K:Int)then(p:Int)else pt part x):
 PSt n (K+1) part' (list.set p (list.getD p []++ [(K:Int)])):=by
 refine⟨hl,fun s hs=>?_,fun q hq=>?_⟩
 ·rw[hpt s Om,List.length_set];by_cases he:s=(K:Int)
  ·rw[if_pos he];omega
  rw[if_neg he];exact h.pr s Om
 rw[List.length_set]at hq;obtain⟨hA,hne,hm⟩:=h.ls q hq;by_cases h1:q=p
 ·subst h1;rw[getD_of (List.getElem?_set_self hp)];have hni:(K:Int)∉list.getD q []:=fun hq'=>by have:=((hm _).1 hq').1;omega
  refine⟨?_,by simp,fun s=>?_⟩
  ·have:=hA.ins (x:=(K:Int)) ⟨by omega,by omega⟩;rwa[show ins (list.getD q []) (K:Int)=list.getD q []++ [(K:Int)] by rw[ins,if_neg hni]]at this
  rw[List.mem_append,hm s];constructor
  ·rintro(⟨a,b⟩|a)
   ·exact⟨by omega,by rw[hpt s Om,if_neg Om];exact b⟩
   simp at a;subst a;exact⟨by omega,by rw[hpt _ Om,if_pos rfl]⟩
  rintro⟨a,b⟩;by_cases he:s=(K:Int)
  ·exact .inr (by simp[he])
  rw[hpt s Om,if_neg he]at b;exact .inl ⟨by omega,b⟩
 have e:(list.set p (list.getD p []++ [(K:Int)])).getD q []=list.getD q []:=by
  rw[List.getD,List.getElem?_set_ne Om];rfl
 rw[e];refine⟨hA,hne,fun s=>?_⟩;rw[hm s];constructor
 ·rintro⟨a,b⟩;exact⟨by omega,by rw[hpt s Om,if_neg Om];exact b⟩
 rintro⟨a,b⟩;rw[hpt s Om]at b;by_cases he:s=(K:Int)
 ·rw[if_pos he]at b;omega
 rw[if_neg he]at b;exact⟨by omega,b⟩
theorem PSt.addNew{n K:Nat}{part part':LI}{list:List LI}(h:PSt n K part list)(hK:K<n)(hl:part'.length=n)(hpt: ∀x:Int,0≤x∧x<(n:Int)→pt part' x=if x=(K:Int)then(list.length:Int)else pt part x):
 PSt n (K+1) part' (list++ [[(K:Int)]]):=by
 refine⟨hl,fun s hs=>?_,fun q hq=>?_⟩
 ·rw[hpt s Om,List.length_append,List.length_singleton];by_cases he:s=(K:Int)
  ·rw[if_pos he];omega
  rw[if_neg he];have:=h.pr s Om;omega
 rw[List.length_append,List.length_singleton]at hq;by_cases h1:q=list.length
 ·subst h1;rw[getD_of List.getElem?_concat_length];refine⟨⟨by simp,fun x hx=>by simp at hx;subst hx;omega⟩,by simp,fun s=>?_⟩;constructor
  ·intro a;simp at a;subst a;exact⟨by omega,by rw[hpt _ Om,if_pos rfl]⟩
  rintro⟨a,b⟩;by_cases he:s=(K:Int)
  ·simp[he]
  rw[hpt s Om,if_neg he]at b;have:=h.pr s Om;omega
 have e:(list++ [[(K:Int)]]).getD q []=list.getD q []:=by
  rw[List.getD,List.getElem?_append_left Om];rfl
 rw[e];obtain⟨hA,hne,hm⟩:=h.ls q Om;refine⟨hA,hne,fun s=>?_⟩;rw[hm s];constructor
 ·rintro⟨a,b⟩;exact⟨by omega,by rw[hpt s Om,if_neg Om];exact b⟩
 rintro⟨a,b⟩;rw[hpt s Om]at b;by_cases he:s=(K:Int)
 ·rw[if_pos he]at b;omega
 rw[if_neg he]at b;exact⟨by omega,b⟩
section
variable {N:Nat}{rows:List LI}{rule entry:LI}
theorem back_row{i:Nat}{row:LI}{B:List (List LI)}(hN:4294967296≤N)(hs:Sz rows rule entry)(h:Rt rows rule entry)(hi:i<rows.length)(hr:rows[i]? =some row)(hB:BackOk rows (fun a _=>a<i) B):
 ∃B',iterO N (fun s=>F_138 N (i:Int) row s.1 s.2) (B,0)=some B'∧BackOk rows (fun a _=>a<i+1) B':=by
 have hn2:=h.n2;have hm:=List.mem_of_getElem? hr;have hw:=hs.w row hm
 obtain⟨B',h1,h2⟩:=loop_inv (f:=fun s=>F_138 N (i:Int) row s.1 s.2) (fun c (s:List (List LI))=>(s,(c:Int))) id row
  (fun c s=>BackOk rows (fun a b=>a<i∨(a=i∧b<c)) s) (N:=N) (s:=B) Om (hB.congr fun a b _ _=>by omega)
  (fun c y s hx hI=>by
   have hc:=lt_len hx;have hyr:=h.row row hm y (List.mem_of_getElem? hx)
   have hny:nxt rows (i:Int) (c:Int)=y:=by
    unfold nxt;rw[Int.toNat_natCast,Int.toNat_natCast,getD_of hr];exact getD_of hx
   obtain⟨yn,rfl⟩: ∃yn:Nat,y=(yn:Int):=⟨y.toNat,by omega⟩;have hyn:yn<rows.length:=by omega
   obtain⟨r,r1,r2,r3⟩:=hI.get hyn (show c<256 by omega);have hAl:=(hI.m yn c hyn Om).1.len;have hadd:=hI.add hi (show c<256 by omega) hyn hny Om r1;refine⟨s.set yn (r.set c (bv s yn c++ [(i:Int)])),?_,hadd.congr fun a b _ _=>by omega⟩;unfold F_138;have hcr:c<r.length:=by omega
   have hys:=lt_len r1;simp only[show((c:Int)<256) by omega,decide_true,if_true,idx_of hx,idx_of r1,idx_of r3,bind,Option.bind_some];rw[app_eq (by simp;omega)];simp only[Option.bind_some,setI_nat hcr,setI_nat hys];rw[w64_succ Om])
  (fun s _=>by unfold F_138;simp[hw])
 exact⟨B',h1,h2.congr fun a b _ hb=>by omega⟩
structure Beg(rows:List LI)(rule:LI)(B:List (List LI))(part:LI)(list:List LI):Prop where
 b:BackOk rows (fun _ _=>True) B
 p:PSt rows.length rows.length part list
 r: ∀a b:Int,0≤a∧a<(rows.length:Int)→0≤b∧b<(rows.length:Int)→(pt part a=pt part b↔rule.getD a.toNat 0=rule.getD b.toNat 0)
theorem begin_loop(hN:4294967296≤N)(hs:Sz rows rule entry)(h:Rt rows rule entry):
 ∃B part list,iterO N (fun s=>F_89 N rows rule s.1 s.2.1 s.2.2.1 s.2.2.2.1 s.2.2.2.2) (List.replicate rows.length (List.replicate 256 []),List.replicate rows.length 0,[],([]:List (Int×Int)),0)=some (B,part,list)∧Beg rows rule B part list:=by
 have hn2:=h.n2;have hru:=h.ru
 obtain⟨s,h1,h2,h3,h4,h5⟩:=loop_inv (f:=fun s=>F_89 N rows rule s.1 s.2.1 s.2.2.1 s.2.2.2.1 s.2.2.2.2)
  (fun i (s:List (List LI)×LI×List LI×List (Int×Int))=>(s.1,s.2.1,s.2.2.1,s.2.2.2,(i:Int))) (fun s=>(s.1,s.2.1,s.2.2.1)) rows
  (fun i s=>BackOk rows (fun a _=>a<i) s.1∧PSt rows.length i s.2.1 s.2.2.1∧
   (∀a b:Int,0≤a∧a<(i:Int)→0≤b∧b<(i:Int)→(pt s.2.1 a=pt s.2.1 b↔rule.getD a.toNat 0=rule.getD b.toNat 0))∧
   (∀r p:Int,mget s.2.2.2 r=some p↔ ∃a:Int,(0≤a∧a<(i:Int))∧rule.getD a.toNat 0=r∧pt s.2.1 a=p))
  (N:=N) (s:=(List.replicate rows.length (List.replicate 256 []),List.replicate rows.length 0,[],[])) Om
  ⟨⟨by simp,fun r hr=>by rw[List.eq_of_mem_replicate hr];simp,fun y c hy hc=>by
   have:bv (List.replicate rows.length (List.replicate 256 [])) y c= []:=by
    exact bv_rep hy hc
   rw[this];refine⟨acc_nil _,fun i=>⟨fun q=>by simp at q,?_⟩⟩;rintro⟨j,_,_,q,_⟩
   omega⟩,
    ⟨by simp,fun s hs=>by omega,fun p hp=>by simp at hp⟩,fun a b ha=>by omega,fun r p=>⟨fun q=>by simp[mget]at q,fun⟨a,ha,_⟩=>by omega⟩⟩
  (fun i row s hx hI=>by
   obtain⟨B,part,list,known⟩:=s;obtain⟨k1,k2,k3,k4⟩:=hI;simp only at k1 k2 k3 k4;have hi:=lt_len hx;obtain⟨B',q1,q2⟩:=back_row (N:=N) hN hs h hi hx k1;have gr:idx rule (i:Int)=some (rule.getD i 0):=by rw[getD_of (List.getElem?_eq_getElem (show i<rule.length by omega))];exact idx_nat _
   have hir:0≤(i:Int)∧(i:Int)<(rows.length:Int):=by omega
   have gp:=pt_idx k2.pl hir
   cases hk:mget known (rule.getD i 0)with
   |none=>
     obtain⟨part',e1,e2,e3⟩:=pt_set (v:=(list.length:Int)) k2.pl hir;have hnew:=k2.addNew hi e2 e3;have hlm:list.length≤rows.length:=by have:=hnew.many;simp at this;omega
     have hnone: ∀a:Int,0≤a∧a<(i:Int)→rule.getD a.toNat 0≠rule.getD i 0:=fun a ha he=>by
      have:=(k4 (rule.getD i 0) (pt part a)).2 ⟨a,ha,he,rfl⟩;rw[hk]at this;cases this
     refine⟨(B',part',list++ [[(i:Int)]],mset known (rule.getD i 0) (list.length:Int)),?_,q2,hnew,fun a b ha hb=>?_,fun r p=>?_⟩
     ·unfold F_89
      have hset:setI (list++ [[]]) (list.length:Int) [(i:Int)]=some (list++ [[(i:Int)]]):=by
       rw[setI_nat Sm,List.set_append_right _ _ (Nat.le_refl _),Nat.sub_self];rfl
      have hget:idx (list++ [[]]) (list.length:Int)=some ([]:LI):=by rw[idx_of List.getElem?_concat_length]
      simp only[show((i:Int)<(rows.length:Int)) by omega,decide_true,if_true,idx_of hx,bind,Option.bind_some];rw[q1];simp only[gr,hk,Option.isSome_none,Bool.not_false,if_true,Option.bind_some];rw[app_eq (by simp;omega)];simp only[Option.bind_some,gp,e1,hget];rw[app_eq Sm];simp only[List.nil_append,Option.bind_some,hset];rw[w64_succ Om]
     ·rw[e3 a Om,e3 b Om];by_cases ha':a=(i:Int)
      ·subst ha';by_cases hb':b=(i:Int)
       ·subst hb';simp
       rw[if_pos rfl,if_neg hb'];have:=k2.pr b Om;constructor
       ·intro q;omega
       intro q;rw[Int.toNat_natCast]at q;exact absurd q.symm (hnone b Om)
      rw[if_neg ha'];by_cases hb':b=(i:Int)
      ·subst hb';rw[if_pos rfl];have:=k2.pr a Om;constructor
       ·intro q;omega
       intro q;rw[Int.toNat_natCast]at q;exact absurd q (hnone a Om)
      rw[if_neg hb'];exact k3 a b Om Om
     rw[mget_mset_g];by_cases hr:rule.getD i 0=r
     ·have:(rule.getD i 0==r)=true:=by simpa using hr
      rw[this,if_pos rfl];constructor
      ·intro q;refine⟨(i:Int),by omega,by simpa using hr,?_⟩;rw[e3 _ hir,if_pos rfl];exact Option.some.inj q
      rintro⟨a,a1,a2,a3⟩;by_cases ha':a=(i:Int)
      ·rw[e3 a Om,if_pos ha']at a3;rw[a3]
      exact absurd (a2.trans hr.symm) (hnone a Om)
     have:(rule.getD i 0==r)=false:=by simpa using hr
     rw[this];simp only[Bool.false_eq_true,if_false];rw[k4 r p];constructor
     ·rintro⟨a,a1,a2,a3⟩;exact⟨a,by omega,a2,by rw[e3 a Om,if_neg Om];exact a3⟩
     rintro⟨a,a1,a2,a3⟩;by_cases ha':a=(i:Int)
     ·subst ha';rw[Int.toNat_natCast]at a2;exact absurd a2 hr
     rw[e3 a Om,if_neg ha']at a3;exact⟨a,by omega,a2,a3⟩
   |some p=>
     obtain⟨a0,b1,b2,b3⟩:=(k4 _ _).1 hk;have hpr:=k2.pr a0 b1;obtain⟨pn,rfl⟩: ∃pn:Nat,p=(pn:Int):=⟨p.toNat,by omega⟩;have hpl:pn<list.length:=by omega
     obtain⟨part',e1,e2,e3⟩:=pt_set (v:=(pn:Int)) k2.pl hir;have hold:=k2.addOld hi hpl e2 e3;have gl:list[pn]? =some (list.getD pn []):=by rw[getD_of (List.getElem?_eq_getElem hpl)];exact List.getElem?_eq_getElem hpl
     have hAl:=(k2.ls pn hpl).1.len;refine⟨(B',part',list.set pn (list.getD pn []++ [(i:Int)]),known),?_,q2,hold,fun a b ha hb=>?_,fun r p=>?_⟩
     ·unfold F_89;simp only[show((i:Int)<(rows.length:Int)) by omega,decide_true,if_true,idx_of hx,bind,Option.bind_some];rw[q1];simp only[gr,hk,Option.isSome_some,Bool.not_true,Bool.false_eq_true,if_false,Option.getD_some,Option.bind_some,gp,e1,idx_of gl];rw[app_eq (by rw[List.length_singleton];omega)];simp only[Option.bind_some,setI_nat hpl];rw[w64_succ Om]
     ·have key: ∀b:Int,0≤b∧b<(i:Int)→((pn:Int)=pt part b↔rule.getD i 0=rule.getD b.toNat 0):=fun b hb=>by
       rw[←b3,←b2];exact k3 a0 b b1 hb
      rw[e3 a Om,e3 b Om];by_cases ha':a=(i:Int)
      ·subst ha';by_cases hb':b=(i:Int)
       ·subst hb';simp
       rw[if_pos rfl,if_neg hb',Int.toNat_natCast];exact key b Om
      rw[if_neg ha'];by_cases hb':b=(i:Int)
      ·subst hb';rw[if_pos rfl,Int.toNat_natCast];have:=key a Om;exact⟨fun q=>(this.1 q.symm).symm,fun q=>(this.2 q.symm).symm⟩
      rw[if_neg hb'];exact k3 a b Om Om
     rw[k4 r p];constructor
     ·rintro⟨a,a1,a2,a3⟩;exact⟨a,by omega,a2,by rw[e3 a Om,if_neg Om];exact a3⟩
     rintro⟨a,a1,a2,a3⟩;by_cases ha':a=(i:Int)
     ·subst ha';rw[Int.toNat_natCast]at a2;rw[e3 _ hir,if_pos rfl]at a3;exact⟨a0,b1,b2.trans a2,b3.trans a3⟩
     rw[e3 a Om,if_neg ha']at a3;exact⟨a,by omega,a2,a3⟩)
  (fun s _=>by unfold F_89;simp)
 refine⟨s.1,s.2.1,s.2.2.1,h1,h2.congr fun j c hj _=>by simp[hj],h3,h4⟩
theorem begin_spec2(hN:4294967296≤N)(hs:Sz rows rule entry)(h:Rt rows rule entry):
 ∃B part list work,F_16 N rows rule entry [] [] [] []=some (B,part,list,work)∧Beg rows rule B part list∧work.length=256*list.length∧(∀p c:Nat,p<list.length→c<256→((p:Int),(c:Int))∈work)∧ ∀t∈work,∃p c:Nat,p<list.length∧c<256∧t=((p:Int),(c:Int)):=by
 have hn2:=h.n2;obtain⟨B,part,list,q1,q2⟩:=begin_loop (N:=N) hN hs h;have hm:=q2.p.many
 obtain⟨work,w1,w2,w3,w4⟩:=loop_inv (f:=fun s=>F_139 N rows rule entry B part list s.1 s.2) (fun p (s:List (Int×Int))=>(s,(p:Int))) id (List.range list.length)
  (fun k s=>s.length=256*k∧(∀p c:Nat,p<k→c<256→((p:Int),(c:Int))∈s)∧ ∀t∈s,∃p c:Nat,p<k∧c<256∧t=((p:Int),(c:Int))) (N:=N) (s:=[]) (by simp;omega) ⟨rfl,fun p c hp=>by omega,fun t ht=>by simp at ht⟩
  (fun k y s hx hI=>by
   obtain⟨k1,k2,k3⟩:=hI;obtain⟨hk,rfl⟩:=range_get hx;refine⟨s++lat y,?_,by rw[List.length_append,lat_len];omega,fun p c hp hc=>?_,fun t ht=>?_⟩
   ·unfold F_139;simp only[show((y:Int)<(list.length:Int)) by omega,decide_true,if_true,later_spec hN (show s.length+256≤4294967296 by omega),bind,Option.bind_some];rw[w64_succ Om]
   ·by_cases hpy:p=y
    ·subst hpy;exact List.mem_append.2 (.inr (mem_lat hc))
    exact List.mem_append.2 (.inl (k2 p c Om hc))
   rcases List.mem_append.1 ht with ht|ht
   ·obtain⟨p,c,p1,p2,p3⟩:=k3 t ht;exact⟨p,c,by omega,p2,p3⟩
   obtain⟨c,c1,c2⟩:=lat_mem ht;exact⟨y,c,by omega,c1,c2⟩)
  (fun s _=>by unfold F_139;simp)
 rw[List.length_range]at w2 w3 w4;refine⟨B,part,list,work,?_,q2,w2,w3,w4⟩;unfold F_16;rw[mk_eq Om];simp only[bind,Option.bind_some];rw[mk_eq Om];simp only[Option.bind_some];rw[q1];simp only[Option.bind_some];rw[show iterO N (fun s=>F_139 N rows rule entry B part list s.1 s.2) ([],0)=_ from w1];rfl
end
open Go Go.Eng
set_option maxRecDepth 100000
section
variable {N:Nat}{rows:List LI}{rule entry:LI}
def Wk(work:List (Int×Int))(part:LI)(c:Nat)(x y:Int):Prop:=(pt part x,(c:Int))∈work∨(pt part y,(c:Int))∈work
structure HInv(rows:List LI)(rule:LI)(X:Nat→Int→Int→Prop)(part:LI)(list:List LI)(work:List (Int×Int)):Prop where
 ps:PSt rows.length rows.length part list
 rul: ∀a b:Int,0≤a∧a<(rows.length:Int)→0≤b∧b<(rows.length:Int)→pt part a=pt part b→rule.getD a.toNat 0=rule.getD b.toNat 0
 alk: ∀a b:Int,0≤a∧a<(rows.length:Int)→0≤b∧b<(rows.length:Int)→Alk rows rule a b→pt part a=pt part b
 wk: ∀t∈work,∃p c:Nat,p<list.length∧c<256∧t=((p:Int),(c:Int))
 st: ∀a b:Int,0≤a∧a<(rows.length:Int)→0≤b∧b<(rows.length:Int)→pt part a=pt part b→ ∀c:Nat,c<256→
  pt part (nxt rows a c)=pt part (nxt rows b c)∨Wk work part c (nxt rows a c) (nxt rows b c)∨X c a b
 ms:(rows.length-list.length)*257+work.length≤rows.length*257
theorem HInv.split{X:Nat→Int→Int→Prop}{p:Nat}{part part' frm:LI}{list list':List LI}{work work':List (Int×Int)}(hs:Sz rows rule entry)(h:Rt rows rule entry)(hI:HInv rows rule X part list work)
 (hal: ∀a b:Int,0≤a∧a<(rows.length:Int)→0≤b∧b<(rows.length:Int)→Alk rows rule a b→(a∈frm↔b∈frm))
 (h1:PSt rows.length rows.length part' list')
 (h2: ∀s:Int,0≤s∧s<(rows.length:Int)→pt part' s=pt part s∨(pt part s=(p:Int)∧pt part' s=(list.length:Int)))
 (h3: ∀a b:Int,0≤a∧a<(rows.length:Int)→0≤b∧b<(rows.length:Int)→(pt part' a=pt part' b↔pt part a=pt part b∧(pt part a=(p:Int)→(a∈frm↔b∈frm))))
 (h4:(list'.length=list.length∧work'=work)∨(list'.length=list.length+1∧work'=work++lat list.length)):HInv rows rule X part' list' work':=by
 have hsub: ∀t∈work,t∈work':=by
  intro t ht;rcases h4 with⟨_,rfl⟩|⟨_,rfl⟩
  ·exact ht
  exact List.mem_append.2 (.inl ht)
 have hmv: ∀s:Int,0≤s∧s<(rows.length:Int)→ ∀c:Nat,c<256→pt part' s≠pt part s→(pt part' s,(c:Int))∈work':=by
  intro s hs c hc hne;rcases h2 s hs with h|⟨_,h⟩
  ·exact absurd h hne
  have:=(h1.pr s hs).2;rcases h4 with⟨hl,_⟩|⟨_,rfl⟩
  ·omega
  rw[h];exact List.mem_append.2 (.inr (mem_lat hc))
 have hm':=h1.many;refine⟨h1,fun a b ha hb he=>hI.rul a b ha hb ((h3 a b ha hb).1 he).1,fun a b ha hb hk=>(h3 a b ha hb).2 ⟨hI.alk a b ha hb hk,fun _=>hal a b ha hb hk⟩,fun t ht=>?_,fun a b ha hb he c hc=>?_,?_⟩
 ·rcases h4 with⟨hl,rfl⟩|⟨hl,rfl⟩
  ·rw[hl];exact hI.wk t ht
  rcases List.mem_append.1 ht with ht|ht
  ·obtain⟨q,c,q1,q2,q3⟩:=hI.wk t ht;exact⟨q,c,by omega,q2,q3⟩
  obtain⟨c,c1,c2⟩:=lat_mem ht;exact⟨list.length,c,by omega,c1,c2⟩
 ·have hx:=nxt_rng hs h ha (c:=(c:Int)) Om;have hy:=nxt_rng hs h hb (c:=(c:Int)) Om;have hst:=hI.st a b ha hb ((h3 a b ha hb).1 he).1 c hc;generalize nxt rows a (c:Int)=x at*;generalize nxt rows b (c:Int)=y at*;by_cases hx':pt part' x=pt part x
  ·by_cases hy':pt part' y=pt part y
   ·unfold Wk at hst ⊢;rw[hx',hy'];rcases hst with q|(q|q)|q
    ·exact .inl q
    ·exact .inr (.inl (.inl (hsub _ q)))
    ·exact .inr (.inl (.inr (hsub _ q)))
    exact .inr (.inr q)
   exact .inr (.inl (.inr (hmv y hy c hc hy')))
  exact .inr (.inl (.inl (hmv x hx c hc hx')))
 have:=hI.ms;rcases h4 with⟨hl,rfl⟩|⟨hl,rfl⟩
 ·rw[hl];exact this
 rw[List.length_append,lat_len];omega
structure HMid(rows:List LI)(rule:LI)(X:Nat→Int→Int→Prop)(frm ps:LI)(z j:Nat)(part:LI)(list:List LI)(work:List (Int×Int)):Prop where
 i:HInv rows rule X part list work
 zl:z≤list.length
 un: ∀a b:Int,0≤a∧a<(rows.length:Int)→0≤b∧b<(rows.length:Int)→pt part a=pt part b→(pt part a∈ps.take j∨(z:Int)≤pt part a)→(a∈frm↔b∈frm)
 fr: ∀a:Int,a∈frm→pt part a∈ps∨(z:Int)≤pt part a
theorem run_parts{X:Nat→Int→Int→Prop}{part frm ps:LI}{B:List (List LI)}{list:List LI}{work:List (Int×Int)}(hN:4294967296≤N)(hs:Sz rows rule entry)(h:Rt rows rule entry)
 (hal: ∀a b:Int,0≤a∧a<(rows.length:Int)→0≤b∧b<(rows.length:Int)→Alk rows rule a b→(a∈frm↔b∈frm)) (hfr: ∀a∈frm,0≤a∧a<(rows.length:Int)) (hfl:frm.length<4294967296)
 (hps:Acc list.length ps) (hM:HMid rows rule X frm ps list.length 0 part list work):
 ∃part' list' work',iterO N (fun s=>F_144 N rows rule entry B frm ps s.1 s.2.1 s.2.2.1 s.2.2.2) (part,list,work,0)=some (part',list',work')∧HMid rows rule X frm ps list.length ps.length part' list' work'∧
   (rows.length-list'.length)*257+work'.length≤(rows.length-list.length)*257+work.length:=by
 have hn2:=h.n2;have hpl:=hps.len;have hml:=hM.i.ps.many
 obtain⟨s,h1,h2,h3⟩:=loop_inv (f:=fun s=>F_144 N rows rule entry B frm ps s.1 s.2.1 s.2.2.1 s.2.2.2) (fun j (s:LI×List LI×List (Int×Int))=>(s.1,s.2.1,s.2.2,(j:Int))) (fun s=>(s.1,s.2.1,s.2.2)) ps
  (fun j s=>HMid rows rule X frm ps list.length j s.1 s.2.1 s.2.2∧(rows.length-s.2.1.length)*257+s.2.2.length≤(rows.length-list.length)*257+work.length) (N:=N) (s:=(part,list,work)) Om ⟨hM,Nat.le_refl _⟩
  (fun j p s hx hI=>by
   obtain⟨part1,list1,work1⟩:=s;obtain⟨⟨k1,k2,k3,k4⟩,k5⟩:=hI;simp only at k1 k2 k3 k4 k5;have hj:=lt_len hx;have hpr:=hps.rng p (List.mem_of_getElem? hx);obtain⟨pn,rfl⟩: ∃pn:Nat,p=(pn:Int):=⟨p.toNat,by omega⟩;have hms:=k1.ms;obtain⟨part',list',work',q1,q2,q3,q4,q5⟩:=split_spec (N:=N) (rows:=rows) (rule:=rule) (entry:=entry) (B:=B) (p:=pn) (frm:=frm) (work:=work1) hN Om k1.ps Om hfl Om;have hI':=k1.split hs h hal q2 q3 q4 q5;have hm':=q2.many;refine⟨(part',list',work'),?_,⟨hI',by simp only;omega,fun a b ha hb he hor=>?_,fun a ha=>?_⟩,?_⟩
   ·unfold F_144;simp only[show((j:Int)<(ps.length:Int)) by omega,decide_true,if_true,idx_of hx,q1,bind,Option.bind_some];rw[w64_succ Om]
   ·simp only at he hor;obtain⟨e1,e2⟩:=(q4 a b ha hb).1 he;by_cases hap:pt part1 a=(pn:Int)
    ·exact e2 hap
    have ea:pt part' a=pt part1 a:=(q3 a ha).resolve_right fun q=>hap q.1;refine k3 a b ha hb e1 ?_;rw[ea]at hor;rcases hor with hor|hor
    ·have ht:ps.take (j+1)=ps.take j++ [(pn:Int)]:=by rw[List.take_add_one,hx];rfl
     rw[ht]at hor;rcases List.mem_append.1 hor with q|q
     ·exact .inl q
     simp at q;exact absurd q hap
    exact .inr hor
   ·simp only;rcases q3 a (hfr a ha)with e|⟨_,e⟩
    ·rw[e];exact k4 a ha
    rw[e];exact .inr Om
   simp only;rcases q5 with⟨e1,e2⟩|⟨e1,e2⟩
   ·rw[e1,e2];exact k5
   rw[e2,List.length_append,lat_len];omega)
  (fun s _=>by unfold F_144;simp)
 exact⟨s.1,s.2.1,s.2.2,h1,h2,h3⟩
theorem run_from{c:Nat}{B:List (List LI)}{l:LI}(hN:4294967296≤N)(h:Rt rows rule entry)(hB:BackOk rows (fun _ _=>True) B)(hc:c<256)(hl:Acc rows.length l):
 ∃frm,iterO N (fun s=>F_142 N B (c:Int) l s.1 s.2) ([],0)=some frm∧frm.length≤40000∧ ∀a:Int,a∈frm↔(0≤a∧a<(rows.length:Int))∧nxt rows a (c:Int)∈l:=by
 have hn2:=h.n2;have hll:=hl.len
 obtain⟨frm,h1,h2,h3⟩:=loop_inv (f:=fun s=>F_142 N B (c:Int) l s.1 s.2) (fun i (s:LI)=>(s,(i:Int))) id l
  (fun i s=>s.length≤200*i∧ ∀a:Int,a∈s↔(0≤a∧a<(rows.length:Int))∧nxt rows a (c:Int)∈l.take i) (N:=N) (s:=[]) Om ⟨by simp,fun a=>by simp⟩
  (fun i y s hx hI=>by
   obtain⟨k1,k2⟩:=hI;have hi:=lt_len hx;have hyr:=hl.rng y (List.mem_of_getElem? hx);obtain⟨yn,rfl⟩: ∃yn:Nat,y=(yn:Int):=⟨y.toNat,by omega⟩;obtain⟨r,r1,_,r3⟩:=hB.get (show yn<rows.length by omega) hc;obtain⟨m1,m2⟩:=hB.m yn c Om hc;have hml:=m1.len;refine⟨s++bv B yn c,?_,by rw[List.length_append];omega,fun a=>?_⟩
   ·unfold F_142;simp only[show((i:Int)<(l.length:Int)) by omega,decide_true,if_true,idx_of hx,idx_of r1,idx_of r3,bind,Option.bind_some];rw[app_eq Om];simp only[Option.bind_some];rw[w64_succ Om]
   have ht:l.take (i+1)=l.take i++ [(yn:Int)]:=by rw[List.take_add_one,hx];rfl
   rw[List.mem_append,k2 a,m2 a,ht,List.mem_append];constructor
   ·rintro(⟨a1,a2⟩|⟨j,j1,j2,_,j3⟩)
    ·exact⟨a1,.inl a2⟩
    subst j1;exact⟨by omega,.inr (by simp[j3])⟩
   rintro⟨a1,a2|a2⟩
   ·exact .inl ⟨a1,a2⟩
   simp at a2;exact .inr ⟨a.toNat,by omega,by omega,trivial,by rw[show((a.toNat:Nat):Int)=a by omega];exact a2⟩)
  (fun s _=>by unfold F_142;simp)
 rw[List.take_length]at h3;exact⟨frm,h1,by omega,h3⟩
theorem run_which{n m:Nat}{part frm:LI}{list:List LI}(hN:4294967296≤N)(hP:PSt n n part list)(hm:list.length=m)(hm2:m≤200)(hf:frm.length≤40000)(hfr: ∀a∈frm,0≤a∧a<(n:Int)):
 ∃ps,iterO N (fun s=>F_143 N part frm s.1 s.2) ([],0)=some ps∧Acc m ps∧ ∀a∈frm,pt part a∈ps:=by
 obtain⟨ps,h1,h2,h3⟩:=loop_inv (f:=fun s=>F_143 N part frm s.1 s.2) (fun i (s:LI)=>(s,(i:Int))) id frm
  (fun i s=>Acc m s∧ ∀a∈frm.take i,pt part a∈s) (N:=N) (s:=[]) Om ⟨acc_nil m,fun a ha=>by simp at ha⟩
  (fun i a s hx hI=>by
   obtain⟨k1,k2⟩:=hI;have hi:=lt_len hx;have har:=hfr a (List.mem_of_getElem? hx);have hpr:=hP.pr a har;have hsl:=k1.len;have gi:=pt_idx hP.pl har;have hi2:=k1.ins (x:=pt part a) ⟨hpr.1,by omega⟩;refine⟨ins s (pt part a),?_,hi2,fun b hb=>?_⟩
   ·unfold F_143;simp only[show((i:Int)<(frm.length:Int)) by omega,decide_true,if_true,idx_of hx,gi,contains_spec hN (show s.length<4294967296 by omega),bind,Option.bind_some];by_cases hma:pt part a∈s
    ·simp only[hma,decide_true,Bool.not_true,Bool.false_eq_true,if_false,Option.bind_some,ins,if_true];rw[w64_succ Om]
    simp only[hma,decide_false,Bool.not_false,if_true,ins,if_false];rw[app_eq (by rw[List.length_singleton];omega)];simp only[Option.bind_some];rw[w64_succ Om]
   have ht:frm.take (i+1)=frm.take i++ [a]:=by rw[List.take_add_one,hx];rfl
   rw[ht]at hb;rcases List.mem_append.1 hb with hb|hb
   ·exact mem_ins.2 (.inl (k2 b hb))
   simp at hb;subst hb;exact mem_ins.2 (.inr rfl))
  (fun s _=>by unfold F_143;simp)
 rw[List.take_length]at h3;exact⟨ps,h1,h2,h3⟩
theorem run_spec2{B:List (List LI)}{part:LI}{list:List LI}{work:List (Int×Int)}(hN:4294967296≤N)(hs:Sz rows rule entry)(h:Rt rows rule entry)(hB:BackOk rows (fun _ _=>True) B)(hI:HInv rows rule (fun _ _ _=>False) part list work):
 ∃part' list' work',F_10 N rows rule entry B part list work=some (part',list',work')∧part'.length=rows.length∧ ∀a b:Int,0≤a∧a<(rows.length:Int)→0≤b∧b<(rows.length:Int)→(pt part' a=pt part' b↔Alk rows rule a b):=by
 have hn2:=h.n2
 have key: ∃r:LI×List LI×List (Int×Int),iterO N (fun s=>F_141 N rows rule entry B s.1 s.2.1 s.2.2) (part,list,work)=some r∧(r.1.length=rows.length∧ ∀a b:Int,0≤a∧a<(rows.length:Int)→0≤b∧b<(rows.length:Int)→(pt r.1 a=pt r.1 b↔Alk rows rule a b)):=by
  refine iterO_while (f:=fun s=>F_141 N rows rule entry B s.1 s.2.1 s.2.2) (fun s=>HInv rows rule (fun _ _ _=>False) s.1 s.2.1 s.2.2) (fun s=>(rows.length-s.2.1.length)*257+s.2.2.length)
   (fun r=>r.1.length=rows.length∧ ∀a b:Int,0≤a∧a<(rows.length:Int)→0≤b∧b<(rows.length:Int)→(pt r.1 a=pt r.1 b↔Alk rows rule a b)) ?_ (N:=N) (s:=(part,list,work)) hI (by have:=hI.ms;simp only;omega)
  rintro⟨part1,list1,work1⟩ hI1;simp only at hI1;by_cases hw:work1= []
  ·right;subst hw;refine⟨(part1,list1,[]),?_,hI1.ps.pl,fun a b ha hb=>⟨fun he=>?_,hI1.alk a b ha hb⟩⟩
   ·unfold F_141;simp
   refine alk_of (R:=fun a b=>pt part1 a=pt part1 b) (n:=rows.length) (fun i k hi hk q=>hI1.rul i k hi hk q) (fun i c hi hc=>nxt_rng hs h hi hc) (fun i k c hi hk q hc=>?_) ha hb he;have:=hI1.st i k hi hk q c.toNat Om;rw[show((c.toNat:Nat):Int)=c by omega]at this;rcases this with q|(q|q)|q
   ·exact q
   ·simp at q
   ·simp at q
   exact q.elim
  left;obtain⟨w0,t,rfl⟩: ∃w0 t,work1=w0++ [t]:=⟨work1.dropLast,work1.getLast hw,(List.dropLast_concat_getLast hw).symm⟩;obtain⟨p,c,hp,hc,rfl⟩:=hI1.wk t Sm;have hml:=hI1.ps.many;have hms:=hI1.ms;rw[List.length_append,List.length_singleton]at hms;obtain⟨hA,_,hmem⟩:=hI1.ps.ls p hp;have gl:list1[p]? =some (list1.getD p []):=by rw[getD_of (List.getElem?_eq_getElem hp)];exact List.getElem?_eq_getElem hp
  obtain⟨frm,f1,f2,f3⟩:=run_from (N:=N) hN h hB hc hA;have hfr: ∀a∈frm,0≤a∧a<(rows.length:Int):=fun a ha=>((f3 a).1 ha).1
  have hmem': ∀a:Int,0≤a∧a<(rows.length:Int)→(a∈frm↔pt part1 (nxt rows a (c:Int))=(p:Int)):=by
   intro a ha;have hx:=nxt_rng hs h ha (c:=(c:Int)) Om;rw[f3 a,hmem];exact⟨fun q=>q.2.2,fun q=>⟨ha,hx,q⟩⟩
  have hal: ∀a b:Int,0≤a∧a<(rows.length:Int)→0≤b∧b<(rows.length:Int)→Alk rows rule a b→(a∈frm↔b∈frm):=by
   intro a b ha hb hk;rw[hmem' a ha,hmem' b hb,hI1.alk _ _ (nxt_rng hs h ha (c:=(c:Int)) Om) (nxt_rng hs h hb (c:=(c:Int)) Om) (hk.step Om)]
  obtain⟨ps,p1,p2,p3⟩:=run_which (N:=N) hN hI1.ps rfl Om f2 hfr
  have hM:HMid rows rule (fun c' a b=>c'=c∧ ¬(a∈frm↔b∈frm)) frm ps list1.length 0 part1 list1 w0:=by
   refine⟨⟨hI1.ps,hI1.rul,hI1.alk,fun t ht=>hI1.wk t (by simp[ht]),fun a b ha hb he c' hc'=>?_,by omega⟩,Nat.le_refl _,fun a b ha hb he hor=>?_,fun a ha=> .inl (p3 a ha)⟩
   ·rcases hI1.st a b ha hb he c' hc' with q|q|q
    ·exact .inl q
    ·by_cases hq:Wk w0 part1 c' (nxt rows a c') (nxt rows b c')
     ·exact .inr (.inl hq)
     by_cases he':pt part1 (nxt rows a (c':Int))=pt part1 (nxt rows b (c':Int))
     ·exact .inl he'
     refine .inr (.inr ?_);unfold Wk at q hq;rcases q with q|q
     ·rcases List.mem_append.1 q with q|q
      ·exact absurd (.inl q) hq
      simp at q;obtain⟨q1,q2⟩:=q;have hcc:c'=c:=by omega
      subst hcc;refine⟨rfl,fun hh=>?_⟩;have:=hh.1 ((hmem' a ha).2 q1);exact he' (q1.trans ((hmem' b hb).1 this).symm)
     rcases List.mem_append.1 q with q|q
     ·exact absurd (.inr q) hq
     simp at q;obtain⟨q1,q2⟩:=q;have hcc:c'=c:=by omega
     subst hcc;refine⟨rfl,fun hh=>?_⟩;have:=hh.2 ((hmem' b hb).2 q1);exact he' (((hmem' a ha).1 this).trans q1.symm)
    exact q.elim
   have:=hI1.ps.pr a ha;rcases hor with hor|hor
   ·simp at hor
   omega
  obtain⟨part',list',work',r1,r2,r3⟩:=run_parts (N:=N) (B:=B) hN hs h hal hfr Om p2 hM;refine⟨(part',list',work'),?_,⟨r2.i.ps,r2.i.rul,r2.i.alk,r2.i.wk,fun a b ha hb he c' hc'=>?_,r2.i.ms⟩,?_⟩
  ·unfold F_141;have hpos:decide (((w0++ [((p:Int),(c:Int))]).length:Int)>0)=true:=decide_eq_true (by simp only[List.length_append,List.length_singleton];omega)
   have hlen:w64 (((w0++ [((p:Int),(c:Int))]).length:Int)-1)=(w0.length:Int):=by
    rw[List.length_append,List.length_singleton,w64,wrap64]<;>omega
   have hix:idx (w0++ [((p:Int),(c:Int))]) (w0.length:Int)=some ((p:Int),(c:Int)):=idx_of List.getElem?_concat_length
   have hsl:slc (w0++ [((p:Int),(c:Int))]) 0 (w0.length:Int)=some w0:=by
    unfold slc;rw[if_pos (by simp;omega)];simp
   simp only[hpos,if_true,hlen,hix,hsl,idx_of gl,bind,Option.bind_some];rw[f1];simp only[Option.bind_some];rw[p1];simp only[Option.bind_some];rw[r1];rfl
  ·rcases r2.i.st a b ha hb he c' hc' with q|q|⟨_,q⟩
   ·exact .inl q
   ·exact .inr (.inl q)
   exfalso;refine q ⟨fun hm=>?_,fun hm=>?_⟩
   ·refine(r2.un a b ha hb he ?_).1 hm;rw[List.take_length];exact r2.fr a hm
   refine(r2.un a b ha hb he ?_).2 hm;rw[List.take_length,he];exact r2.fr b hm
  simp only[List.length_append,List.length_singleton];omega
 obtain⟨⟨part',list',work'⟩,k1,k2,k3⟩:=key;refine⟨part',list',work',?_,k2,k3⟩;unfold F_10;rw[k1];rfl
theorem parts_spec(hN:4294967296≤N)(hs:Sz rows rule entry)(h:Rt rows rule entry): ∃(P:LI) (m:Nat),F_40 N rows rule entry=some (P,(m:Int))∧Cls rows rule P m:=by
 have hn2:=h.n2;obtain⟨B,part,list,work,b1,b2,b3,b4,b5⟩:=begin_spec2 (N:=N) hN hs h;have hml:=b2.p.many
 have hI:HInv rows rule (fun _ _ _=>False) part list work:=by
  refine⟨b2.p,fun a b ha hb=>(b2.r a b ha hb).1,fun a b ha hb hk=>(b2.r a b ha hb).2 hk.rul,b5,fun a b ha hb _ c hc=> .inr (.inl (.inl ?_)),by omega⟩;have hx:=nxt_rng hs h ha (c:=(c:Int)) Om;have hp:=b2.p.pr _ hx;have:=b4 (pt part (nxt rows a (c:Int))).toNat c Om hc;rwa[show(((pt part (nxt rows a (c:Int))).toNat:Nat):Int)=pt part (nxt rows a (c:Int)) by omega]at this
 obtain⟨part',list',work',r1,r2,r3⟩:=run_spec2 (N:=N) hN hs h b2.b hI
 obtain⟨s,h1,h2,h3,h4⟩:=loop_inv (f:=fun s=>F_88 N part' s.1 s.2.1 s.2.2) (fun i (s:List (Int×Int)×LI)=>((i:Int),s.1,s.2)) (fun s=>(s.1,s.2)) part'
  (fun i s=>PC (fun a b=>Alk rows rule (a:Int) (b:Int)) i s.2 s.1.length∧s.1.length≤i∧ ∀p v:Int,mget s.1 p=some v↔ ∃a:Nat,a<i∧pt part' (a:Int)=p∧s.2[a]? =some v) (N:=N) (s:=([],[])) Om
  ⟨.nil,Nat.le_refl _,fun p v=>⟨fun q=>by simp[mget]at q,fun⟨a,ha,_⟩=>by omega⟩⟩
  (fun i p s hx hI=>by
   obtain⟨known,out⟩:=s;obtain⟨k1,k2,k3⟩:=hI;simp only at k1 k2 k3;have hi:=lt_len hx;have hpi:pt part' (i:Int)=p:=by unfold pt;rw[Int.toNat_natCast];exact getD_of hx
   have hol:=k1.len
   have same: ∀a:Nat,a<i→(pt part' (a:Int)=p↔Alk rows rule (i:Int) (a:Int)):=fun a ha=>by
    rw[←hpi,eq_comm];exact r3 (i:Int) (a:Int) Om Om
   cases hk:mget known p with
   |none=>
     have hno: ∀a,a<i→ ¬Alk rows rule (i:Int) (a:Int):=fun a ha q=>by
      have hal:a<out.length:=by omega
      have:=(k3 p out[a]).2 ⟨a,ha,(same a ha).2 q,List.getElem?_eq_getElem hal⟩;rw[hk]at this;cases this
     have hlen:=mset_len (v:=(known.length:Int)) hk;have hself:mget (mset known p (known.length:Int)) p=some (known.length:Int):=by rw[mget_mset_g];simp
     refine⟨(mset known p (known.length:Int),out++ [(known.length:Int)]),?_,?_,by simp only[hlen];omega,fun q v=>?_⟩
     ·unfold F_88;simp only[show((i:Int)<(part'.length:Int)) by omega,decide_true,if_true,idx_of hx,hk,Option.isSome_none,Bool.not_false,hself,Option.getD_some,bind,Option.bind_some];rw[app_eq (by rw[List.length_singleton];omega)];simp only[Option.bind_some];rw[w64_succ Om]
     ·simp only[hlen];exact k1.new alk_eqv hno
     simp only;rw[mget_mset_g];by_cases hq:p=q
     ·subst hq;simp only[beq_self_eq_true,if_true];constructor
      ·intro e;refine⟨i,by omega,hpi,?_⟩;rw[←hol,List.getElem?_concat_length];exact e
      rintro⟨a,a1,a2,a3⟩;by_cases hai:a=i
      ·subst hai;rw[←hol,List.getElem?_concat_length]at a3;exact a3
      exact absurd ((same a Om).1 a2) (hno a Om)
     have:(p==q)=false:=by simpa using hq
     rw[this];simp only[Bool.false_eq_true,if_false];rw[k3 q v];constructor
     ·rintro⟨a,a1,a2,a3⟩;exact⟨a,by omega,a2,by rw[List.getElem?_append_left Om];exact a3⟩
     rintro⟨a,a1,a2,a3⟩;by_cases hai:a=i
     ·subst hai;exact absurd (hpi.symm.trans a2) hq
     rw[List.getElem?_append_left Om]at a3;exact⟨a,by omega,a2,a3⟩
   |some v0=>
     obtain⟨a0,c1,c2,c3⟩:=(k3 p v0).1 hk;refine⟨(known,out++ [v0]),?_,k1.old alk_eqv c1 ((same a0 c1).1 c2) c3,by simp only;omega,fun q v=>?_⟩
     ·unfold F_88;simp only[show((i:Int)<(part'.length:Int)) by omega,decide_true,if_true,idx_of hx,hk,Option.isSome_some,Bool.not_true,Bool.false_eq_true,if_false,Option.getD_some,bind,Option.bind_some];rw[app_eq (by rw[List.length_singleton];omega)];simp only[Option.bind_some];rw[w64_succ Om]
     simp only;rw[k3 q v];constructor
     ·rintro⟨a,a1,a2,a3⟩;exact⟨a,by omega,a2,by rw[List.getElem?_append_left Om];exact a3⟩
     rintro⟨a,a1,a2,a3⟩;by_cases hai:a=i
     ·subst hai;rw[←hol,List.getElem?_concat_length]at a3;obtain rfl:=Option.some.inj a3;exact⟨a0,c1,c2.trans (hpi.symm.trans a2),c3⟩
     rw[List.getElem?_append_left Om]at a3;exact⟨a,by omega,a2,a3⟩)
  (fun s _=>by unfold F_88;simp)
 rw[r2]at h2;refine⟨s.2,s.1.length,?_,h2.cls⟩;unfold F_40;rw[b1];simp only[bind,Option.bind_some];rw[r1];simp only[Option.bind_some];rw[show iterO N (fun s=>F_88 N part' s.1 s.2.1 s.2.2) (0,[],[])=_ from h1];rfl
end
open Go Go.Eng
set_option maxRecDepth 100000
theorem RG.inv{Q:LI}{x:Int}{k':Nat}(h:RG (Q++ [x]) k'):(RG Q k'∧x∈Q)∨ ∃k,k'=k+1∧RG Q k∧x=(k:Int):=by
 generalize hq:Q++ [x]=R at h
 cases h with
 |nil=>simp at hq
 | @old P _ y h hy=>
   obtain⟨rfl,h2⟩:=List.append_inj' hq rfl;obtain rfl:=(List.cons.inj h2).1;exact .inl ⟨h,hy⟩
 | @new P m h=>
   obtain⟨rfl,h2⟩:=List.append_inj' hq rfl;exact .inr ⟨m,rfl,h,(List.cons.inj h2).1⟩
theorem RG.take{P:LI}{m:Nat}(h:RG P m): ∀i,∃k,RG (P.take i) k:=by
 induction h with
 |nil=>intro i;exact⟨0,by simpa using RG.nil⟩
 | @old P m x h hx ih=>
   intro i;by_cases hi:i≤P.length
   ·rw[List.take_append_of_le_length hi];exact ih i
   rw[List.take_of_length_le (by simp;omega)];exact⟨m,h.old hx⟩
 | @new P m h ih=>
   intro i;by_cases hi:i≤P.length
   ·rw[List.take_append_of_le_length hi];exact ih i
   rw[List.take_of_length_le (by simp;omega)];exact⟨m+1,h.new⟩
def mgRows(P:LI)(m:Nat)(rows:List LI):List LI:=(List.range m).map fun(v:Nat)=>(rows.getD (P.idxOf (v:Int)) []).map (pt P)
def mgRule(P:LI)(m:Nat)(rule:LI):LI:=(List.range m).map fun(v:Nat)=>rule.getD (P.idxOf (v:Int)) 0
def mgEntry(P entry:LI):LI:=entry.map (pt P)
section
variable {N:Nat}{rows:List LI}{rule entry P:LI}{m:Nat}
theorem Cls.pt_rng(hC:Cls rows rule P m){s:Int}(hs:0≤s∧s<(rows.length:Int)):0≤pt P s∧pt P s<m:=by
 have hl:s.toNat<P.length:=by have:=hC.len;omega
 unfold pt;rw[getD_of (List.getElem?_eq_getElem hl)];exact hC.rg.mem.1 (List.getElem_mem hl)
theorem Cls.pt_iff(hC:Cls rows rule P m){a b:Int}(ha:0≤a∧a<(rows.length:Int))(hb:0≤b∧b<(rows.length:Int)):pt P a=pt P b↔Alk rows rule a b:=by
 have hl:a.toNat<P.length:=by have:=hC.len;omega
 have hl':b.toNat<P.length:=by have:=hC.len;omega
 have:=hC.iff_ a.toNat b.toNat Om Om;rw[show((a.toNat:Nat):Int)=a by omega,show((b.toNat:Nat):Int)=b by omega,List.getElem?_eq_getElem hl,List.getElem?_eq_getElem hl',Option.some.injEq]at this;unfold pt;rw[getD_of (List.getElem?_eq_getElem hl),getD_of (List.getElem?_eq_getElem hl')];exact this
theorem Cls.rep(hC:Cls rows rule P m){v:Nat}(hv:v<m):((P.idxOf (v:Int):Nat):Int)<(rows.length:Int)∧pt P ((P.idxOf (v:Int):Nat):Int)=(v:Int):=by
 have hm:(v:Int)∈P:=hC.rg.mem.2 Om;have hl:=List.idxOf_lt_length_of_mem hm;have hlen:=hC.len;refine⟨by omega,?_⟩;unfold pt;rw[Int.toNat_natCast,getD_of (List.getElem?_eq_getElem hl)];exact List.getElem_idxOf hl
theorem row_nxt(hs:Sz rows rule entry){s:Int}(hr:0≤s∧s<(rows.length:Int)):(rows.getD s.toNat []).length=256∧ ∀c:Nat,c<256→(rows.getD s.toNat [])[c]? =some (nxt rows s (c:Int)):=by
 have hl:s.toNat<rows.length:=by omega
 have hw:=hs.w _ (List.getElem_mem hl);have e:rows.getD s.toNat []=rows[s.toNat]:=getD_of (List.getElem?_eq_getElem hl);refine⟨by rw[e];exact hw,fun c hc=>?_⟩;have hcl:c<rows[s.toNat].length:=by omega
 unfold nxt;rw[Int.toNat_natCast,e,getD_of (List.getElem?_eq_getElem hcl)];exact List.getElem?_eq_getElem hcl
theorem Cls.same(hs:Sz rows rule entry)(h:Rt rows rule entry)(hC:Cls rows rule P m){a b:Int}(ha:0≤a∧a<(rows.length:Int))(hb:0≤b∧b<(rows.length:Int))(he:pt P a=pt P b):
 (rows.getD a.toNat []).map (pt P)=(rows.getD b.toNat []).map (pt P)∧rule.getD a.toNat 0=rule.getD b.toNat 0:=by
 have hk:=(hC.pt_iff ha hb).1 he;refine⟨List.ext_getElem? fun c=>?_,hk.rul⟩;obtain⟨a1,a2⟩:=row_nxt hs ha;obtain⟨b1,b2⟩:=row_nxt hs hb;by_cases hc:c<256
 ·rw[List.getElem?_map,List.getElem?_map,a2 c hc,b2 c hc];have:=(hC.pt_iff (nxt_rng hs h ha (c:=(c:Int)) Om) (nxt_rng hs h hb (c:=(c:Int)) Om)).2 (hk.step Om);simp[this]
 rw[List.getElem?_eq_none (by rw[List.length_map];omega),List.getElem?_eq_none (by rw[List.length_map];omega)]
theorem mg_row(hs:Sz rows rule entry)(h:Rt rows rule entry)(hC:Cls rows rule P m){s:Int}(hr:0≤s∧s<(rows.length:Int)):
 (mgRows P m rows)[(pt P s).toNat]? =some ((rows.getD s.toNat []).map (pt P))∧(mgRule P m rule)[(pt P s).toNat]? =some (rule.getD s.toNat 0):=by
 have hp:=hC.pt_rng hr;have hv:(pt P s).toNat<m:=by omega
 obtain⟨r1,r2⟩:=hC.rep hv;have:=hC.same hs h (a:=((P.idxOf (((pt P s).toNat:Nat):Int):Nat):Int)) (b:=s) Om hr (by rw[r2];omega);rw[Int.toNat_natCast]at this;unfold mgRows mgRule;rw[List.getElem?_map,List.getElem?_map,List.getElem?_range hv];simp only[Option.map_some];exact⟨by rw[this.1],by rw[this.2]⟩
theorem mg_ext(hs:Sz rows rule entry)(h:Rt rows rule entry)(hC:Cls rows rule P m){R:List LI}{U:LI}(hR:R.length=m)(hU:U.length=m)
 (hh: ∀j:Nat,j<rows.length→R[(pt P (j:Int)).toNat]? =some ((rows.getD j []).map (pt P))∧U[(pt P (j:Int)).toNat]? =some (rule.getD j 0)):R=mgRows P m rows∧U=mgRule P m rule:=by
 have key: ∀v,v<m→R[v]? =(mgRows P m rows)[v]? ∧U[v]? =(mgRule P m rule)[v]? :=by
  intro v hv;obtain⟨r1,r2⟩:=hC.rep hv;have h1:=hh (P.idxOf (v:Int)) Om;have h2:=mg_row hs h hC (s:=((P.idxOf (v:Int):Nat):Int)) Om;rw[r2,Int.toNat_natCast]at h1 h2;rw[Int.toNat_natCast]at h2;exact⟨h1.1.trans h2.1.symm,h1.2.trans h2.2.symm⟩
 refine⟨List.ext_getElem? fun v=>?_,List.ext_getElem? fun v=>?_⟩
 ·by_cases hv:v<m
  ·exact(key v hv).1
  rw[List.getElem?_eq_none Om,List.getElem?_eq_none (by simp[mgRows];omega)]
 by_cases hv:v<m
 ·exact(key v hv).2
 rw[List.getElem?_eq_none Om,List.getElem?_eq_none (by simp[mgRule];omega)]
theorem merge_row{row:LI}{R:List LI}{p:Nat}(hN:4294967296≤N)(hp:p<R.length)(hR: ∀r∈R,r.length=256)(hw:row.length=256)(hr: ∀y∈row,0≤y∧y<(P.length:Int)):
 iterO N (fun s=>F_87 N P (p:Int) row s.1 s.2) (0,R)=some (R.set p (row.map (pt P))):=by
 obtain⟨S,h1,h2,h3,h4⟩:=loop_inv (f:=fun s=>F_87 N P (p:Int) row s.1 s.2) (fun c (s:List LI)=>((c:Int),s)) id row
  (fun c s=>s.length=R.length∧(∀q,q≠p→s[q]? =R[q]?)∧ ∃r,s[p]? =some r∧r.length=256∧ ∀c',c'<c→r[c']? =(row.map (pt P))[c']?) (N:=N) (s:=R) Om
  ⟨rfl,fun q _=>rfl,R[p],List.getElem?_eq_getElem hp,hR _ (List.getElem_mem hp),fun c' hc=>by omega⟩
  (fun c y s hx hI=>by
   obtain⟨k1,k2,r,k3,k4,k5⟩:=hI;have hc:=lt_len hx;have hyr:=hr y (List.mem_of_getElem? hx);have hps:p<s.length:=by omega
   have hcr:c<r.length:=by omega
   have gy:=pt_idx (part:=P) (n:=P.length) rfl hyr;refine⟨s.set p (r.set c (pt P y)),?_,by simpa using k1,fun q hq=>?_,r.set c (pt P y),List.getElem?_set_self hps,by simpa using k4,fun c' hc'=>?_⟩
   ·unfold F_87;simp only[show((c:Int)<256) by omega,decide_true,if_true,idx_of hx,gy,idx_of k3,idx_nat hcr,setI_nat hcr,setI_nat hps,bind,Option.bind_some];rw[w64_succ Om]
   ·rw[List.getElem?_set_ne Om];exact k2 q hq
   by_cases he:c'=c
   ·subst he;rw[List.getElem?_set_self hcr,List.getElem?_map,hx];rfl
   rw[List.getElem?_set_ne Om];exact k5 c' Om)
  (fun s _=>by unfold F_87;simp[hw])
 rw[show iterO N (fun s=>F_87 N P (p:Int) row s.1 s.2) (0,R)=_ from h1,id];obtain⟨r,h5,h6,h7⟩:=h4
 have hr':r=row.map (pt P):=List.ext_getElem? fun c=>by
  by_cases hc:c<256
  ·exact h7 c Om
  rw[List.getElem?_eq_none Om,List.getElem?_eq_none (by simp;omega)]
 congr 1
 refine List.ext_getElem? fun q=>?_;by_cases hq:q=p
 ·subst hq;rw[h5,List.getElem?_set_self hp,hr']
 rw[h3 q hq,List.getElem?_set_ne Om]
theorem merge_spec(hN:4294967296≤N)(hs:Sz rows rule entry)(h:Rt rows rule entry)(hC:Cls rows rule P m):F_15 N rows rule entry=some (mgRows P m rows,mgRule P m rule,mgEntry P entry):=by
 have hn2:=h.n2;have hru:=h.ru;have he2:=h.e2;obtain⟨P',m',p1,p2⟩:=parts_spec (N:=N) hN hs h;obtain⟨rfl,rfl⟩:=p2.uniq hC;have hml:=hC.rg.le;have hPl:=hC.len;unfold F_15;simp only[right_yes hN hs h,p1,Bool.not_true,Bool.false_eq_true,if_false,bind,Option.bind_some];rw[mk_eq Om];simp only[Option.bind_some];rw[mk_eq Om];simp only[Option.bind_some]
 obtain⟨s,h1,h2,h3,h4,h5⟩:=loop_inv (f:=fun s=>F_136 N rows rule P' s.1 s.2.1 s.2.2) (fun i (s:List LI×LI)=>((i:Int),s.1,s.2)) (fun s=>(s.1,s.2)) P'
  (fun i s=>s.1.length=m'∧s.2.length=m'∧(∀r∈s.1,r.length=256)∧ ∀j:Nat,j<i→s.1[(pt P' (j:Int)).toNat]? =some ((rows.getD j []).map (pt P'))∧s.2[(pt P' (j:Int)).toNat]? =some (rule.getD j 0))
  (N:=N) (s:=(List.replicate m' (List.replicate 256 0),List.replicate m' 0)) Om ⟨by simp,by simp,fun r hr=>by rw[List.eq_of_mem_replicate hr];exact List.length_replicate,fun j hj=>by omega⟩
  (fun i p s hx hI=>by
   obtain⟨R,U⟩:=s;obtain⟨k1,k2,k3,k4⟩:=hI;simp only at k1 k2 k3 k4;have hi:=lt_len hx;have hir:0≤(i:Int)∧(i:Int)<(rows.length:Int):=by omega
   have hpi:pt P' (i:Int)=p:=by unfold pt;rw[Int.toNat_natCast];exact getD_of hx
   have hpr:=hC.pt_rng hir;rw[hpi]at hpr;obtain⟨pn,rfl⟩: ∃pn:Nat,p=(pn:Int):=⟨p.toNat,by omega⟩;obtain⟨row,r1,r2,r3,r4⟩:=row_nat h (show i<rows.length by omega);have hmr:=merge_row (N:=N) (P:=P') (p:=pn) (R:=R) (row:=row) hN Om k3 (hs.w row r3) (fun y hy=>by have:=r4 y hy;omega);have gr:idx rule (i:Int)=some (rule.getD i 0):=by rw[getD_of (List.getElem?_eq_getElem (show i<rule.length by omega))];exact idx_nat _
   have hpU:pn<U.length:=by omega
   refine⟨(R.set pn (row.map (pt P')),U.set pn (rule.getD i 0)),?_,by simpa using k1,by simpa using k2,fun r hr=>?_,fun j hj=>?_⟩
   ·unfold F_136;simp only[show((i:Int)<(P'.length:Int)) by omega,decide_true,if_true,idx_of hx,r1,bind,Option.bind_some];rw[hmr];simp only[gr,idx_nat hpU,setI_nat hpU,Option.bind_some];rw[w64_succ Om]
   ·rcases List.mem_or_eq_of_mem_set hr with hr|rfl
    ·exact k3 r hr
    rw[List.length_map];exact hs.w row r3
   have hjr:0≤(j:Int)∧(j:Int)<(rows.length:Int):=by omega
   have hpj:=hC.pt_rng hjr;by_cases he:pt P' (j:Int)=(pn:Int)
   ·have:=hC.same hs h hjr hir (he.trans hpi.symm);rw[Int.toNat_natCast,Int.toNat_natCast,r2]at this;rw[he,Int.toNat_natCast,List.getElem?_set_self Om,List.getElem?_set_self hpU,this.1,this.2];exact⟨rfl,rfl⟩
   rw[List.getElem?_set_ne Om,List.getElem?_set_ne Om];refine k4 j ?_;by_cases hji:j=i
   ·subst hji;exact absurd hpi he
   omega)
  (fun s _=>by unfold F_136;simp)
 rw[show iterO N (fun s=>F_136 N rows rule P' s.1 s.2.1 s.2.2) (0,List.replicate m' (List.replicate 256 0),List.replicate m' 0)=_ from h1];simp only[Option.bind_some];obtain⟨e1,e2⟩:=mg_ext hs h hC h2 h3 (fun j hj=>h5 j Om)
 obtain⟨E,q1,q2⟩:=loop_inv (f:=fun s=>F_137 N entry P' s.1 s.2) (fun i (s:LI)=>(s,(i:Int))) id entry (fun i s=>s=(entry.take i).map (pt P')) (N:=N) (s:=[]) Om Sm
  (fun i y s hx hI=>by
   have hi:=lt_len hx;have hyr:=h.ent y (List.mem_of_getElem? hx);have gy:=pt_idx (part:=P') hPl hyr;have hsl:s.length=i:=by rw[hI,List.length_map,List.length_take];omega
   refine⟨s++ [pt P' y],?_,by rw[hI,List.take_add_one,hx,List.map_append];rfl⟩;unfold F_137;simp only[show((i:Int)<(entry.length:Int)) by omega,decide_true,if_true,idx_of hx,gy,bind,Option.bind_some];rw[app_eq (by rw[List.length_singleton];omega)];simp only[Option.bind_some];rw[w64_succ Om])
  (fun s _=>by unfold F_137;simp)
 rw[List.take_length]at q2;rw[show iterO N (fun s=>F_137 N entry P' s.1 s.2) ([],0)=_ from q1,e1,e2,q2];rfl
theorem refMerge_row{row:LI}(hN:4294967296≤N)(hw:row.length=256)(hr: ∀y∈row,0≤y∧y<(P.length:Int)):
 iterO N (fun s=>F_83 N P row s.1 s.2) (0,List.replicate 256 0)=some (row.map (pt P)):=by
 obtain⟨r,h1,h2,h3⟩:=loop_inv (f:=fun s=>F_83 N P row s.1 s.2) (fun c (s:LI)=>((c:Int),s)) id row
  (fun c s=>s.length=256∧ ∀c',c'<c→s[c']? =(row.map (pt P))[c']?) (N:=N) (s:=List.replicate 256 0) Om ⟨List.length_replicate,fun c' hc=>by omega⟩
  (fun c y s hx hI=>by
   obtain⟨k1,k2⟩:=hI;have hc:=lt_len hx;have hyr:=hr y (List.mem_of_getElem? hx);have hcs:c<s.length:=by omega
   have gy:=pt_idx (part:=P) (n:=P.length) rfl hyr;refine⟨s.set c (pt P y),?_,by simpa using k1,fun c' hc'=>?_⟩
   ·unfold F_83;simp only[show((c:Int)<256) by omega,decide_true,if_true,idx_of hx,gy,idx_nat hcs,setI_nat hcs,bind,Option.bind_some];rw[w64_succ Om]
   by_cases he:c'=c
   ·subst he;rw[List.getElem?_set_self hcs,List.getElem?_map,hx];rfl
   rw[List.getElem?_set_ne Om];exact k2 c' Om)
  (fun s _=>by unfold F_83;simp[hw])
 rw[show iterO N (fun s=>F_83 N P row s.1 s.2) (0,List.replicate 256 0)=_ from h1,id]
 congr 1
 exact List.ext_getElem? fun c=>by
  by_cases hc:c<256
  ·exact h3 c Om
  rw[List.getElem?_eq_none Om,List.getElem?_eq_none (by simp;omega)]
theorem refMerge_spec(hN:4294967296≤N)(hs:Sz rows rule entry)(h:Rt rows rule entry)(hC:Cls rows rule P m):F_12 N rows rule entry=some (mgRows P m rows,mgRule P m rule,mgEntry P entry):=by
 have hn2:=h.n2;have hru:=h.ru;have he2:=h.e2;obtain⟨P',m',p1,p2⟩:=refParts_spec (N:=N) hN hs h;obtain⟨rfl,rfl⟩:=p2.uniq hC;have hml:=hC.rg.le;have hPl:=hC.len;unfold F_12;simp only[p1,bind,Option.bind_some]
 obtain⟨s,h1,k,h2,h3,h4,h5⟩:=loop_inv (f:=fun s=>F_82 N rows rule P' s.1 s.2.1 s.2.2) (fun i (s:List LI×LI)=>((i:Int),s.1,s.2)) (fun s=>(s.1,s.2)) P'
  (fun i s=> ∃k,RG (P'.take i) k∧s.1.length=k∧s.2.length=k∧ ∀j:Nat,j<i→s.1[(pt P' (j:Int)).toNat]? =some ((rows.getD j []).map (pt P'))∧s.2[(pt P' (j:Int)).toNat]? =some (rule.getD j 0))
  (N:=N) (s:=([],[])) Om ⟨0,.nil,rfl,rfl,fun j hj=>by omega⟩
  (fun i p s hx hI=>by
   obtain⟨R,U⟩:=s;obtain⟨k,k1,k2,k3,k4⟩:=hI;simp only at k2 k3 k4;have hi:=lt_len hx;have hir:0≤(i:Int)∧(i:Int)<(rows.length:Int):=by omega
   have hpi:pt P' (i:Int)=p:=by unfold pt;rw[Int.toNat_natCast];exact getD_of hx
   obtain⟨row,r1,r2,r3,r4⟩:=row_nat h (show i<rows.length by omega);have hkl:=k1.le;rw[List.length_take]at hkl;have gr:idx rule (i:Int)=some (rule.getD i 0):=by rw[getD_of (List.getElem?_eq_getElem (show i<rule.length by omega))];exact idx_nat _
   obtain⟨k',hk'⟩:=hC.rg.take (i+1);have ht:P'.take (i+1)=P'.take i++ [p]:=by rw[List.take_add_one,hx];rfl
   rw[ht]at hk';have hk2:=hk';rcases hk'.inv with⟨i1,i2⟩|⟨k0,rfl,i1,rfl⟩
   ·obtain⟨_,rfl⟩:=i1.uniq k1 rfl (fun _ _ _ _=>Iff.rfl);have hpr:=k1.mem.1 i2;obtain⟨jn,hjl,hje⟩:=List.getElem_of_mem i2;rw[List.length_take]at hjl
    have hpj:pt P' (jn:Int)=p:=by
     unfold pt;rw[Int.toNat_natCast,getD_of (List.getElem?_eq_getElem (show jn<P'.length by omega))];rw[List.getElem_take]at hje;exact hje
    refine⟨(R,U),?_,_,by rw[ht];exact hk2,k2,k3,fun j hj=>?_⟩
    ·unfold F_82;simp only[show((i:Int)<(P'.length:Int)) by omega,decide_true,if_true,idx_of hx,show p<(R.length:Int) by omega,bind,Option.bind_some];rw[w64_succ Om]
    by_cases hji:j=i
    ·subst hji;have h4:=k4 jn Om;have:=hC.same hs h (a:=(jn:Int)) (b:=(j:Int)) Om hir (hpj.trans hpi.symm);rw[Int.toNat_natCast,Int.toNat_natCast]at this;rw[hpi,←hpj,h4.1,h4.2,this.1,this.2];exact⟨rfl,rfl⟩
    exact k4 j Om
   obtain⟨_,rfl⟩:=i1.uniq k1 rfl (fun _ _ _ _=>Iff.rfl);have hmr:=refMerge_row (N:=N) (P:=P') (row:=row) hN (hs.w row r3) (fun y hy=>by have:=r4 y hy;omega);refine⟨(R++ [row.map (pt P')],U++ [rule.getD i 0]),?_,k0+1,by rw[ht];exact hk2,by simp[k2],by simp[k3],fun j hj=>?_⟩
   ·unfold F_82;simp only[show((i:Int)<(P'.length:Int)) by omega,decide_true,if_true,idx_of hx,show¬((k0:Int)<(R.length:Int)) by omega,decide_false,Bool.false_eq_true,if_false,r1,bind,Option.bind_some];rw[hmr];simp only[Option.bind_some];rw[app_eq (by rw[List.length_singleton];omega)];simp only[Option.bind_some,gr];rw[app_eq (by rw[List.length_singleton];omega)];simp only[Option.bind_some];rw[w64_succ Om]
   by_cases hji:j=i
   ·subst hji;rw[hpi,Int.toNat_natCast,r2,←k2,List.getElem?_concat_length,k2,←k3,List.getElem?_concat_length];exact⟨rfl,rfl⟩
   have hh:=k4 j Om;rw[List.getElem?_append_left (lt_len hh.1),List.getElem?_append_left (lt_len hh.2)];exact hh)
  (fun s _=>by unfold F_82;simp)
 rw[List.take_length]at h2;obtain⟨_,rfl⟩:=h2.uniq hC.rg rfl (fun _ _ _ _=>Iff.rfl);rw[show iterO N (fun s=>F_82 N rows rule P' s.1 s.2.1 s.2.2) (0,[],[])=_ from h1];simp only[Option.bind_some];obtain⟨e1,e2⟩:=mg_ext hs h hC h3 h4 (fun j hj=>h5 j Om)
 obtain⟨E,q1,q2⟩:=loop_inv (f:=fun s=>F_131 N entry P' s.1 s.2) (fun i (s:LI)=>(s,(i:Int))) id entry (fun i s=>s=(entry.take i).map (pt P')) (N:=N) (s:=[]) Om Sm
  (fun i y s hx hI=>by
   have hi:=lt_len hx;have hyr:=h.ent y (List.mem_of_getElem? hx);have gy:=pt_idx (part:=P') hPl hyr;have hsl:s.length=i:=by rw[hI,List.length_map,List.length_take];omega
   refine⟨s++ [pt P' y],?_,by rw[hI,List.take_add_one,hx,List.map_append];rfl⟩;unfold F_131;simp only[show((i:Int)<(entry.length:Int)) by omega,decide_true,if_true,idx_of hx,gy,bind,Option.bind_some];rw[app_eq (by rw[List.length_singleton];omega)];simp only[Option.bind_some];rw[w64_succ Om])
  (fun s _=>by unfold F_131;simp)
 rw[List.take_length]at q2;rw[show iterO N (fun s=>F_131 N entry P' s.1 s.2) ([],0)=_ from q1,e1,e2,q2];rfl
end
open Go Go.Eng
set_option maxRecDepth 100000
section
variable {N:Nat}{rows:List LI}{rule entry:LI}
theorem refRowT{o P row:LI}{n:Nat}(hN:4294967296≤N)(hg: ∀x:Nat,x<n→P[x]? =some (pl o x))(hw:row.length=256)(hr: ∀y∈row,0≤y∧y<(n:Int)):
 iterO N (fun s=>F_80 N P row s.1 s.2) (List.replicate 256 0,0)=some (row.map (pl o)):=by
 obtain⟨r,h1,h2,h3⟩:=loop_inv (f:=fun s=>F_80 N P row s.1 s.2) (fun i (s:LI)=>(s,(i:Int))) id row (fun i r=>r.length=256∧ ∀j:Nat,j<i→r[j]? =(row[j]?).map (pl o)) (N:=N) (s:=List.replicate 256 0) Om
  ⟨by simp,fun j hj=>by omega⟩
  (fun i x r hx hI=>by
   obtain⟨k1,k2⟩:=hI;have hi:=lt_len hx;have hxr:=hr x (List.mem_of_getElem? hx);obtain⟨v,rfl⟩: ∃v:Nat,x=(v:Int):=⟨x.toNat,by omega⟩;have hv:v<n:=by omega
   have hir:i<r.length:=by omega
   refine⟨r.set i (pl o v),?_,by simp[k1],fun j hj=>?_⟩
   ·unfold F_80;simp only[show((i:Int)<256) by omega,decide_true,if_true,idx_of hx,idx_of (hg v hv),idx_nat hir,setI_nat hir,bind,Option.bind_some];rw[w64_succ Om]
   by_cases hj:j=i
   ·subst hj;rw[List.getElem?_set_self hir,hx];rfl
   rw[List.getElem?_set_ne Om,k2 j Om])
  (fun s _=>by unfold F_80;simp[hw])
 rw[show iterO N (fun s=>F_80 N P row s.1 s.2) (List.replicate 256 0,0)=_ from h1]
 congr 1
 apply List.ext_getElem?;intro j;by_cases h:j<row.length
 ·rw[id,h3 j h,List.getElem?_map]
 rw[id,List.getElem?_eq_none Om,List.getElem?_eq_none (by simp;omega)]
theorem refTrim_spec(hN:4294967296≤N)(hs:Sz rows rule entry)(h:Rt rows rule entry):
 F_4 N rows rule entry=some (reRows (kp rows rule entry) rows,reRule (kp rows rule entry) rule,reEntry (kp rows rule entry) entry):=by
 have hA:Acc rows.length (kp rows rule entry):=kp_acc;have hn1:=h.n1;have hn2:=h.n2;have he2:=h.e2;have hru:=h.ru;obtain⟨L1,a1,a2,a3⟩:=refReached_spec (N:=N) hN hs h;obtain⟨L2,b1,b2,b3⟩:=refLive_spec (N:=N) hN hs h;unfold F_4;simp only[a1,b1,bind,Option.bind_some];rw[mk_eq Om];simp only[Option.bind_some]
 obtain⟨P,p1,p2,p3⟩:=refNumber (N:=N) (k:=kpf rows rule entry) hN rfl hn1 Om a2 b2 (by simp[kpf]) (fun j h0 hj=>by
  have e1:bt L1 j=rch rows entry j:=by rw[Bool.eq_iff_iff,a3 j hj,rch_iff]
  have e2:bt L2 j=lv rows rule j:=by rw[Bool.eq_iff_iff,b3 j hj,lv_iff]
  have e0:(j==0)=false:=by simp;omega
  rw[e1,e2,kpf,e0,Bool.false_or])
 rw[p1];simp only[Option.bind_some];have hz:pl (kp rows rule entry) 0=0:=pl_zero hA (kp_zero h);change ∀x:Nat,x<rows.length→P[x]? =some (pl (kp rows rule entry) x)at p3
 obtain⟨s1,q1,q2,q3⟩:=loop_inv (f:=fun s=>F_79 N rows rule P s.1 s.2.1 s.2.2) (fun i (s:List LI×LI)=>((i:Int),s.1,s.2)) id rows
  (fun i s=>s.1=(lst (kpf rows rule entry) i).map (fun s=>(rows.getD s.toNat []).map (pl (kp rows rule entry)))∧s.2=(lst (kpf rows rule entry) i).map (fun s=>rule.getD s.toNat 0)) (N:=N) (s:=([],[])) Om ⟨by simp[lst],by simp[lst]⟩
  (fun i x s hx hI=>by
   obtain⟨k1,k2⟩:=hI;obtain⟨R,U⟩:=s;simp only at k1 k2;have hi:=lt_len hx;have hvu:i<rule.length:=by omega
   have hli:=lst_len (kpf rows rule entry) i;have l1:R.length≤i:=by rw[k1];simp;omega
   have l2:U.length≤i:=by rw[k2];simp;omega
   have hsu:=lst_succ (kpf rows rule entry) i;have hPi:idx P (i:Int)=some (pl (kp rows rule entry) i):=idx_of (p3 i hi);have hrow:=List.mem_of_getElem? hx
   have gate:(((if(decide ((i:Int)>0))=true then(some (pl (kp rows rule entry) i==0))else(some false)):Option Bool))=some (!kpf rows rule entry i):=by
    by_cases h0:i=0
    ·subst h0;simp[kpf]
    have:(i:Int)>0:=by omega
    simp only[this,decide_true,if_true]
    congr 1
    cases hk:kpf rows rule entry i with
    |false=>
      unfold kp;rw[pl_lst hi,hk];rfl
    |true=>
      have hm:(i:Int)∈kp rows rule entry:=mem_lst.2 ⟨by omega,by simpa using hk⟩
      have hne: ¬pl (kp rows rule entry) (i:Int)=0:=fun e=>by
       have:=pl_inj hm ((mem_kp h).2 (.inl rfl)) (e.trans hz.symm);omega
      simpa using hne
   by_cases hk:kpf rows rule entry i=true
   ·refine⟨(R++ [x.map (pl (kp rows rule entry))],U++ [rule[i]]),?_,?_,?_⟩
    ·unfold F_79;simp only[show((i:Int)<(rows.length:Int)) by omega,decide_true,if_true,idx_of hx,hPi,bind,Option.bind_some,gate,hk,Bool.not_true,Bool.false_eq_true,if_false];rw[refRowT hN p3 (hs.w x hrow) (h.row x hrow)];simp only[Option.bind_some];rw[app_eq (by simp;omega)];simp only[Option.bind_some,idx_nat hvu];rw[app_eq (by simp;omega)];simp only[Option.bind_some];rw[w64_succ Om]
    ·show R++_=_;rw[hsu,if_pos hk,List.map_append,k1];simp only[List.map_cons,List.map_nil,Int.toNat_natCast];rw[getD_of hx]
    show U++_=_;rw[hsu,if_pos hk,List.map_append,k2];simp only[List.map_cons,List.map_nil,Int.toNat_natCast];rw[getD_of (List.getElem?_eq_getElem hvu)]
   have hk':kpf rows rule entry i=false:=by simpa using hk
   refine⟨(R,U),?_,?_,?_⟩
   ·unfold F_79;simp only[show((i:Int)<(rows.length:Int)) by omega,decide_true,if_true,idx_of hx,hPi,bind,Option.bind_some,gate,hk',Bool.not_false];rw[w64_succ Om]
   ·show R=_;rw[hsu,if_neg hk,k1]
   show U=_;rw[hsu,if_neg hk,k2])
  (fun s _=>by unfold F_79;simp)
 rw[show iterO N (fun s=>F_79 N rows rule P s.1 s.2.1 s.2.2) (0,[],[])=_ from q1];obtain⟨s1a,s1b⟩:=s1;simp only at q2 q3;subst q2 q3;simp only[Option.bind_some,id]
 obtain⟨s3,w1,w2⟩:=loop_inv (f:=fun s=>F_126 N entry P s.1 s.2) (fun i (s:LI)=>(s,(i:Int))) id entry (fun i s=>s=(reEntry (kp rows rule entry) entry).take i) (N:=N) (s:=[]) Om Sm
  (fun i x s hx k1=>by
   have hi:=lt_len hx;have hxr:=h.ent x (List.mem_of_getElem? hx);obtain⟨v,rfl⟩: ∃v:Nat,x=(v:Int):=⟨x.toNat,by omega⟩;have l1:s.length≤i:=by rw[k1];simp;omega
   refine⟨s++ [pl (kp rows rule entry) v],?_,?_⟩
   ·unfold F_126;simp only[show((i:Int)<(entry.length:Int)) by omega,decide_true,if_true,idx_of hx,idx_of (p3 v Om),bind,Option.bind_some];rw[app_eq (by simp;omega)];simp only[Option.bind_some];rw[w64_succ Om]
   have:(reEntry (kp rows rule entry) entry)[i]? =some (pl (kp rows rule entry) v):=by unfold reEntry;rw[List.getElem?_map,hx];rfl
   rw[List.take_add_one,this,k1];rfl)
  (fun s _=>by unfold F_126;simp)
 rw[show iterO N (fun s=>F_126 N entry P s.1 s.2) ([],0)=_ from w1];rw[List.take_of_length_le (by simp[reEntry])]at w2;subst w2;rfl
end
open Go Go.Eng
set_option maxRecDepth 100000
theorem upto_succ(n:Nat):upto (n+1)=upto n++ [(n:Int)]:=by simp[upto,List.range_succ]
theorem rg_upto: ∀m:Nat,RG (upto m) m
 |0=> .nil
 |m+1=>by rw[upto_succ];exact(rg_upto m).new
theorem RG.full{P:LI}{m:Nat}(h:RG P m):m=P.length→P=upto m:=by
 induction h with
 |nil=>intro _;rfl
 | @old P m x h hx ih=>
   intro q;have:=h.le;simp at q;omega
 | @new P m h ih=>
   intro q;rw[upto_succ,ih (by simpa using q)]
theorem pt_upto{n:Nat}{s:Int}(h:0≤s∧s<n):pt (upto n) s=s:=by
 have hl:s.toNat<(upto n).length:=by rw[upto_len];omega
 unfold pt;rw[getD_of (List.getElem?_eq_getElem hl),upto_get];omega
section
variable {N:Nat}{rows:List LI}{rule entry P:LI}{m:Nat}
theorem mgRows_len:(mgRows P m rows).length=m:=by simp[mgRows]
theorem mgRule_len:(mgRule P m rule).length=m:=by simp[mgRule]
theorem Cls.pos(h:Rt rows rule entry)(hC:Cls rows rule P m):pt P 0=0∧1≤m:=by
 have:=hC.len;have hn:=h.n1;have hf:=hC.rg.first Om;exact⟨by unfold pt;exact getD_of hf.1,hf.2⟩
theorem Cls.ex(hC:Cls rows rule P m){v:Int}(hv:0≤v∧v<m): ∃s:Int,(0≤s∧s<(rows.length:Int))∧pt P s=v:=by
 obtain⟨r1,r2⟩:=hC.rep (v:=v.toNat) Om;exact⟨_,⟨by omega,r1⟩,by rw[r2];omega⟩
theorem mg_sz(hs:Sz rows rule entry)(h:Rt rows rule entry)(hC:Cls rows rule P m):Sz (mgRows P m rows) (mgRule P m rule) (mgEntry P entry):=by
 have hml:=hC.rg.le;have hl:=hC.len;have hn2:=h.n2;have he:=h.e2;refine⟨fun r hr=>?_,by rw[mgRows_len];omega,by rw[mgRule_len];omega,by simp only[mgEntry,List.length_map];omega⟩;obtain⟨v,hv,rfl⟩:=List.mem_map.1 hr;obtain⟨r1,_⟩:=hC.rep (List.mem_range.1 hv);rw[List.length_map];have:=(row_nxt hs (s:=((P.idxOf (v:Int):Nat):Int)) Om).1;rwa[Int.toNat_natCast]at this
theorem mg_right(hs:Sz rows rule entry)(h:Rt rows rule entry)(hC:Cls rows rule P m):Rt (mgRows P m rows) (mgRule P m rule) (mgEntry P entry):=by
 have hml:=hC.rg.le;have hl:=hC.len;have hn2:=h.n2;obtain⟨h0,h1⟩:=hC.pos h;have hrow0:=mg_row hs h hC (s:=0) (by have:=h.n1;omega);rw[h0]at hrow0;refine⟨by rw[mgRows_len];exact h1,by rw[mgRows_len];omega,by rw[mgRows_len,mgRule_len],by simpa[mgEntry]using h.e1,by simpa[mgEntry]using h.e2,fun r hr x hx=>?_,fun x hx=>?_,fun x hx=>?_,?_,?_⟩
 ·rw[mgRows_len];obtain⟨v,hv,rfl⟩:=List.mem_map.1 hr;obtain⟨r1,_⟩:=hC.rep (List.mem_range.1 hv);obtain⟨y,hy,rfl⟩:=List.mem_map.1 hx;obtain⟨row,q1,q2,q3,q4⟩:=row_nat h (i:=P.idxOf (v:Int)) Om;rw[q2]at hy;exact hC.pt_rng (q4 y hy)
 ·obtain⟨v,hv,rfl⟩:=List.mem_map.1 hx;obtain⟨r1,_⟩:=hC.rep (List.mem_range.1 hv);have hru:=h.ru;have hrl:P.idxOf (v:Int)<rule.length:=by omega
  rw[getD_of (List.getElem?_eq_getElem hrl)];exact h.rul _ (List.getElem_mem hrl)
 ·rw[mgRows_len];obtain⟨y,hy,rfl⟩:=List.mem_map.1 hx;exact hC.pt_rng (h.ent y hy)
 ·have:=hrow0.1;rw[show((0:Int)).toNat=0 by rfl]at this;rw[this,getD_of h.r0,List.map_replicate,h0]
 have:=hrow0.2;rw[show((0:Int)).toNat=0 by rfl]at this;rw[this,getD_of h.u0]
theorem mg_nxt(hs:Sz rows rule entry)(h:Rt rows rule entry)(hC:Cls rows rule P m){s c:Int}(hr:0≤s∧s<(rows.length:Int))(hc:0≤c∧c<256):nxt (mgRows P m rows) (pt P s) c=pt P (nxt rows s c):=by
 have h1:=(mg_row hs h hC hr).1;have h2:=(row_nxt hs hr).2 c.toNat Om;rw[show((c.toNat:Nat):Int)=c by omega]at h2;show((mgRows P m rows).getD (pt P s).toNat []).getD c.toNat 0=_;rw[getD_of h1];refine getD_of ?_;rw[List.getElem?_map,h2];rfl
theorem mg_rul(hs:Sz rows rule entry)(h:Rt rows rule entry)(hC:Cls rows rule P m){s:Int}(hr:0≤s∧s<(rows.length:Int)):(mgRule P m rule).getD (pt P s).toNat 0=rule.getD s.toNat 0:=getD_of (mg_row hs h hC hr).2
theorem foldl_rng(hs:Sz rows rule entry)(h:Rt rows rule entry): ∀{t:LI} {s:Int},Byt t→0≤s∧s<(rows.length:Int)→0≤t.foldl (nxt rows) s∧t.foldl (nxt rows) s<(rows.length:Int)
 | [],_,_,hr=>hr
 |c::t,s,hb,hr=>foldl_rng hs h (t:=t) (fun x hx=>hb x (by simp[hx])) (nxt_rng hs h hr (hb c Sm))
theorem mg_foldl(hs:Sz rows rule entry)(h:Rt rows rule entry)(hC:Cls rows rule P m): ∀{t:LI} {s:Int},Byt t→0≤s∧s<(rows.length:Int)→t.foldl (nxt (mgRows P m rows)) (pt P s)=pt P (t.foldl (nxt rows) s)
 | [],_,_,_=>rfl
 |c::t,s,hb,hr=>by
   have hc:=hb c Sm;rw[List.foldl_cons,List.foldl_cons,mg_nxt hs h hC hr hc];exact mg_foldl hs h hC (fun x hx=>hb x (by simp[hx])) (nxt_rng hs h hr hc)
theorem mg_alk(hs:Sz rows rule entry)(h:Rt rows rule entry)(hC:Cls rows rule P m){a b:Int}(ha:0≤a∧a<(rows.length:Int))(hb:0≤b∧b<(rows.length:Int)):Alk (mgRows P m rows) (mgRule P m rule) (pt P a) (pt P b)↔Alk rows rule a b:=by
 unfold Alk;constructor
 ·intro q t ht;have:=q t ht;rwa[mg_foldl hs h hC ht ha,mg_foldl hs h hC ht hb,mg_rul hs h hC (foldl_rng hs h ht ha),mg_rul hs h hC (foldl_rng hs h ht hb)]at this
 intro q t ht;rw[mg_foldl hs h hC ht ha,mg_foldl hs h hC ht hb,mg_rul hs h hC (foldl_rng hs h ht ha),mg_rul hs h hC (foldl_rng hs h ht hb)];exact q t ht
theorem cls_upto{n:Nat}(hn:rows.length=n)(hd: ∀a b:Int,0≤a∧a<(n:Int)→0≤b∧b<(n:Int)→Alk rows rule a b→a=b):Cls rows rule (upto n) n:=by
 refine⟨rg_upto n,by rw[upto_len,hn],fun i k hi hk=>?_⟩;have h1:(upto n)[i]? =some (i:Int):=by rw[List.getElem?_eq_getElem (by rw[upto_len];omega),upto_get]
 have h2:(upto n)[k]? =some (k:Int):=by rw[List.getElem?_eq_getElem (by rw[upto_len];omega),upto_get]
 rw[h1,h2,Option.some.injEq];constructor
 ·intro q;rw[q];exact .refl _
 intro q;exact hd _ _ Om Om q
theorem mg_cls(hs:Sz rows rule entry)(h:Rt rows rule entry)(hC:Cls rows rule P m):Cls (mgRows P m rows) (mgRule P m rule) (upto m) m:=by
 refine cls_upto mgRows_len fun a b ha hb hk=>?_;obtain⟨x,hx,rfl⟩:=hC.ex ha;obtain⟨y,hy,rfl⟩:=hC.ex hb;exact(hC.pt_iff hx hy).2 ((mg_alk hs h hC hx hy).1 hk)
theorem mg_rch(hs:Sz rows rule entry)(h:Rt rows rule entry)(hC:Cls rows rule P m){s:Int}(hr:Rch rows entry s):Rch (mgRows P m rows) (mgEntry P entry) (pt P s):=by
 induction hr with
 |zero=>rw[(hC.pos h).1];exact .zero
 |ent hx=>exact .ent (List.mem_map_of_mem hx)
 | @step s y hr hy ih=>
   refine ih.step ?_;rw[getD_of (mg_row hs h hC (hr.rng h)).1];exact List.mem_map_of_mem hy
theorem mg_lv(hs:Sz rows rule entry)(h:Rt rows rule entry)(hC:Cls rows rule P m){s:Int}(hl:Lv rows rule s):Lv (mgRows P m rows) (mgRule P m rule) (pt P s):=by
 induction hl with
 |here a b hr=>
   have hp:=hC.pt_rng ⟨a,b⟩;exact .here hp.1 (by rw[mgRows_len];exact hp.2) (by rw[mg_rul hs h hC ⟨a,b⟩];exact hr)
 |step a b hy _ ih=>
   have hp:=hC.pt_rng ⟨a,b⟩;refine .step hp.1 (by rw[mgRows_len];exact hp.2) ?_ ih;rw[getD_of (mg_row hs h hC ⟨a,b⟩).1];exact List.mem_map_of_mem hy
theorem kp_full(hl:(kp rows rule entry).length=rows.length):kp rows rule entry=upto rows.length:=by
 unfold kp at hl ⊢;refine lst_all fun j hj=>?_;unfold lst at hl;rw[List.length_map]at hl;have:=List.length_filter_eq_length_iff.1 (hl.trans List.length_range.symm);exact this j (List.mem_range.2 hj)
theorem kp_all(h:Rt rows rule entry)(hk: ∀x:Int,0<x→x<(rows.length:Int)→Rch rows entry x∧Lv rows rule x):(kp rows rule entry).length=rows.length:=by
 have: ∀x∈upto rows.length,x∈kp rows rule entry:=fun x hx=>by
  have hr:=(rg_upto rows.length).mem.1 hx;rw[mem_kp h];by_cases h0:x=0
  ·exact .inl h0
  exact .inr (hk x Om hr.2)
 have hnd:(upto rows.length).Nodup:=by
  unfold upto List.Nodup;rw[List.pairwise_map];exact(List.nodup_range (n:=rows.length)).imp fun hne q=>hne Om
 have h1:=nodup_len hnd this;rw[upto_len]at h1;have h2:=(kp_acc (rows:=rows) (rule:=rule) (entry:=entry)).len;omega
theorem mg_kp(hs:Sz rows rule entry)(h:Rt rows rule entry)(hC:Cls rows rule P m)(hk:(kp rows rule entry).length=rows.length):(kp (mgRows P m rows) (mgRule P m rule) (mgEntry P entry)).length=(mgRows P m rows).length:=by
 refine kp_all (mg_right hs h hC) fun v hv0 hv1=>?_;rw[mgRows_len]at hv1;obtain⟨s,hs',rfl⟩:=hC.ex (v:=v) ⟨by omega,hv1⟩;have hm:s∈kp rows rule entry:=by rw[kp_full hk];exact(rg_upto _).mem.2 hs'
 rcases(mem_kp h).1 hm with rfl|⟨q1,q2⟩
 ·rw[(hC.pos h).1]at hv0;omega
 exact⟨mg_rch hs h hC q1,mg_lv hs h hC q2⟩
def Lst(rows:List LI)(rule entry:LI):Prop:=Rt rows rule entry∧(kp rows rule entry).length=rows.length∧Cls rows rule (upto rows.length) rows.length
theorem isLeast_spec(hN:4294967296≤N)(hs:Sz rows rule entry): ∃b,F_167 N rows rule entry=some b∧(b=true↔Lst rows rule entry):=by
 obtain⟨b,h1,h2⟩:=isTrim_spec (N:=N) hN hs;unfold F_167;rw[h1]
 cases b with
 |false=>
   refine⟨false,rfl,⟨(fun q=>by cases q),fun q=>?_⟩⟩;exact absurd (h2.2 ⟨q.1,q.2.1⟩) Sm
 |true=>
   obtain⟨hR,hk⟩:=h2.1 rfl;obtain⟨P,m,p1,p2⟩:=parts_spec (N:=N) hN hs hR;refine⟨(m:Int)==(rows.length:Int),by simp[p1],?_⟩;rw[beq_iff_eq];constructor
   ·intro q;have hm:m=rows.length:=by omega
    subst hm;have:=p2.rg.full p2.len.symm;exact⟨hR,hk,this▸p2⟩
   intro q;have:=(p2.uniq q.2.2).2;omega
noncomputable abbrev tRows(rows:List LI)(rule entry:LI):=reRows (kp rows rule entry) rows
noncomputable abbrev tRule(rows:List LI)(rule entry:LI):=reRule (kp rows rule entry) rule
noncomputable abbrev tEntry(rows:List LI)(rule entry:LI):=reEntry (kp rows rule entry) entry
theorem t_right(h:Rt rows rule entry):Rt (tRows rows rule entry) (tRule rows rule entry) (tEntry rows rule entry):=reO_right h kp_acc (kp_zero h)
theorem t_sz(hs:Sz rows rule entry)(h:Rt rows rule entry):Sz (tRows rows rule entry) (tRule rows rule entry) (tEntry rows rule entry):=reO_sz hs h kp_acc
theorem t_kp(h:Rt rows rule entry):(kp (tRows rows rule entry) (tRule rows rule entry) (tEntry rows rule entry)).length=(tRows rows rule entry).length:=by rw[kp_re h,upto_len]
theorem cls_ex(hs:Sz rows rule entry)(h:Rt rows rule entry): ∃P m,Cls rows rule P m:=by
 obtain⟨P,m,_,h2⟩:=refParts_spec (N:=4294967296) (Nat.le_refl _) hs h;exact⟨P,m,h2⟩
theorem least_spec(hN:4294967296≤N)(hs:Sz rows rule entry)(h:Rt rows rule entry)(hC:Cls (tRows rows rule entry) (tRule rows rule entry) P m):
 F_200 N rows rule entry=some (mgRows P m (tRows rows rule entry),mgRule P m (tRule rows rule entry),mgEntry P (tEntry rows rule entry)):=by
 unfold F_200;simp only[trim_spec hN hs h,merge_spec hN (t_sz hs h) (t_right h) hC,bind,Option.bind_some]
theorem least_lst(hs:Sz rows rule entry)(h:Rt rows rule entry)(hC:Cls (tRows rows rule entry) (tRule rows rule entry) P m):
 Lst (mgRows P m (tRows rows rule entry)) (mgRule P m (tRule rows rule entry)) (mgEntry P (tEntry rows rule entry)):=by
 refine⟨mg_right (t_sz hs h) (t_right h) hC,mg_kp (t_sz hs h) (t_right h) hC (t_kp h),?_⟩;have:=mg_cls (t_sz hs h) (t_right h) hC;rwa[mgRows_len]
end
end Go.Proofs.YtchjfkdljnmmgaaGreatDoor
