import Derived.Test.YtnkednnnkifenaaGreatDoorNfaFilesP5
namespace Go.Proofs.YtnkednnnkifenaaGreatDoor
open Go Go.Eng
theorem lt_len{α:Type}{xs:List α}{i:Nat}{x:α}(h:xs[i]? =some x):i<xs.length:=(List.getElem?_eq_some_iff.1 h).1
open Go Go.Eng
theorem range_get{n i x:Nat}(h:(List.range n)[i]? =some x):i<n∧x=i:=by
 have hl:=lt_len h;simp at hl;rw[List.getElem?_range hl]at h;exact⟨hl,(Option.some.inj h).symm⟩
theorem sameInts_spec{N:Nat}{a b:List Int}(hN:4294967296≤N)(ha:a.length<4294967296):F_66 N a b=some (decide (a=b)):=by
 unfold F_66;by_cases h:a.length=b.length
 case neg=>
  have:((a.length:Int) != (b.length:Int))=true:=by simp;omega
  have hne:a≠b:=fun e=>h (by rw[e]);simp[this,hne]
 have e0:((a.length:Int) != (b.length:Int))=false:=by simp[h]
 simp only[e0,Bool.false_eq_true,if_false]
 rw[loop_any (List.range a.length) (fun i=>a.getD i 0 != b.getD i 0) false (by simp;omega) (fun i x hx=>by
  obtain⟨hi,rfl⟩:=range_get hx;have hib:x<b.length:=by omega
  unfold F_242;have g1:a.getD x 0=a[x]:=by simp[List.getD,List.getElem?_eq_getElem hi]
  have g2:b.getD x 0=b[x]:=by simp[List.getD,List.getElem?_eq_getElem hib]
  rw[g1,g2];simp only[show((x:Int)<(a.length:Int)) by omega,decide_true,if_true,idx_nat hi,idx_nat hib,bind,Option.bind_some];rw[w64_succ (by omega)]) (by simp[F_242])]
 by_cases c:((List.range a.length).any fun i=>a.getD i 0 != b.getD i 0)=true
 ·have:a≠b:=by
   obtain⟨i,_,hp⟩:=List.any_eq_true.1 c;intro e;simp[e]at hp
  rw[if_pos c];simp[this]
 have:a=b:=by
  apply List.ext_getElem h;intro i h1 h2;have h3:=List.any_eq_false.1 (by simpa using c:((List.range a.length).any fun i=>a.getD i 0 != b.getD i 0)=false) i (by simpa using h1);have g1:a.getD i 0=a[i]:=by simp[List.getD,List.getElem?_eq_getElem h1]
  have g2:b.getD i 0=b[i]:=by simp[List.getD,List.getElem?_eq_getElem h2]
  rw[g1,g2]at h3;simpa using h3
 rw[if_neg c];simp[this]
open Go Go.Eng
set_option maxRecDepth 100000
theorem ba_ext{a b:ByteArray}(h:a.data.toList=b.data.toList):a=b:=by
 obtain⟨⟨a⟩⟩:=a;obtain⟨⟨b⟩⟩:=b;simp at h;rw[h]
theorem ba_toList(b:ByteArray):b.toList=b.data.toList:=by
 have go: ∀(k i:Nat) (r:List UInt8),i+k=b.size→ByteArray.toList.loop b i r=r.reverse++b.data.toList.drop i:=by
  intro k
  induction k with
  |zero=>
    intro i r h;unfold ByteArray.toList.loop;rw[if_neg (by omega),List.drop_of_length_le (by have:b.data.toList.length=b.size:=(by rw[Array.length_toList];rfl);omega),List.append_nil]
  |succ k ih=>
    intro i r h;unfold ByteArray.toList.loop;have hl:b.data.toList.length=b.size:=by rw[Array.length_toList];rfl
    have hi:i<b.data.toList.length:=by omega
    rw[if_pos (by omega),ih (i+1) _ (by omega),List.drop_eq_getElem_cons hi,List.reverse_cons,List.append_assoc]
    have:b.get! i=b.data.toList[i]:=by
     have hi':i<b.data.size:=by simpa using hi
     show b.data[i]! =_;rw[getElem!_pos b.data i hi'];simp
    rw[this];rfl
 have:=go b.size 0 [] (by omega);simpa[ByteArray.toList]using this
open Go Go.Eng
def lst(f:Nat→Bool)(n:Nat):List Int:=((List.range n).filter f).map fun(j:Nat)=>(j:Int)
open Go Go.Eng
abbrev Stt:=List Int×(Int×Int×Int×Int)×Int×Int
structure NRt(S:List Stt)(E:List Int):Prop where
 n1:1≤S.length
 n2:S.length≤4000
 e1:1≤E.length
 e2:E.length≤8
 ent: ∀x∈E,0≤x∧x<(S.length:Int)
 to: ∀s∈S,-1≤s.2.2.1∧s.2.2.1<(S.length:Int)
 set0: ∀s∈S,s.2.2.1= -1→s.2.1=(0,0,0,0)
 rul: ∀s∈S,-1≤s.2.2.2∧s.2.2.2≤47
 free: ∀s∈S,∀x∈s.1,0≤x∧x<(S.length:Int)
def outN(n x:Int):Bool:=decide (x<0)||decide (x≥n)
def badS(n:Int)(s:Stt):Bool:=
 (decide (s.2.2.1< -1)||decide (s.2.2.1≥n)||decide (s.2.2.2< -1)||decide (s.2.2.2>47)||(s.2.2.1== -1&&([s.2.1.1,s.2.1.2.1,s.2.1.2.2.1,s.2.1.2.2.2]:List Int) != [0,0,0,0]))||s.1.any (outN n)
def rtB(S:List Stt)(E:List Int):Bool:=
 decide (1≤S.length)&&decide (S.length≤4000)&&decide (1≤E.length)&&decide (E.length≤8)&& !(E.any (outN S.length))&& !(S.any (badS S.length))
theorem outN_f{n x:Int}(h:outN n x=false):0≤x∧x<n:=by
 unfold outN at h;simp at h;omega
theorem outN_of{n x:Int}(h:0≤x∧x<n):outN n x=false:=by
 unfold outN;simp;omega
theorem rtB_iff(S:List Stt)(E:List Int):rtB S E=true↔NRt S E:=by
 unfold rtB;simp only[Bool.and_eq_true,decide_eq_true_eq,Bool.not_eq_true',List.any_eq_false];constructor
 ·rintro⟨⟨⟨⟨⟨a1,a2⟩,a3⟩,a4⟩,a5⟩,a6⟩
  have h6: ∀s∈S,(-1≤s.2.2.1∧s.2.2.1<(S.length:Int))∧(-1≤s.2.2.2∧s.2.2.2≤47)∧(s.2.2.1= -1→s.2.1=(0,0,0,0))∧ ∀x∈s.1,0≤x∧x<(S.length:Int):=by
   intro s hs;have:=a6 s hs;unfold badS at this;rw[Bool.not_eq_true,Bool.or_eq_false_iff,List.any_eq_false]at this;obtain⟨b1,b2⟩:=this;simp only[Bool.or_eq_false_iff,decide_eq_false_iff_not]at b1;obtain⟨⟨⟨⟨c1,c2⟩,c3⟩,c4⟩,c5⟩:=b1;refine⟨by omega,by omega,fun h=>?_,fun x hx=>outN_f (by simpa using b2 x hx)⟩;rw[h]at c5;obtain⟨_,⟨a,b,c,d⟩,_,_⟩:=s;simpa using c5
  exact⟨a1,a2,a3,a4,fun x hx=>outN_f (by simpa using a5 x hx),fun s hs=>(h6 s hs).1,fun s hs=>(h6 s hs).2.2.1,fun s hs=>(h6 s hs).2.1,fun s hs=>(h6 s hs).2.2.2⟩
 intro h;refine⟨⟨⟨⟨⟨h.n1,h.n2⟩,h.e1⟩,h.e2⟩,fun x hx=>by rw[outN_of (h.ent x hx)];simp⟩,fun s hs=>?_⟩;have h1:=h.to s hs;have h2:=h.rul s hs;have h3:=h.set0 s hs
 have h4:s.1.any (outN S.length)=false:=by
  rw[List.any_eq_false];intro x hx;rw[outN_of (h.free s hs x hx)];simp
 unfold badS;rw[h4];obtain⟨_,⟨a,b,c,d⟩,to,ru⟩:=s;simp only at h1 h2 h3 ⊢;have g1: ¬to< -1:=by omega
 have g2: ¬to≥(S.length:Int):=by omega
 have g3: ¬ru< -1:=by omega
 have g4: ¬ru>47:=by omega
 by_cases g5:to= -1
 ·have:=h3 g5;simp only[Prod.mk.injEq]at this;obtain⟨rfl,rfl,rfl,rfl⟩:=this;simp[g3,g4,g5];omega
 simp[g1,g2,g3,g4,g5]
section
variable {N:Nat}{S:List Stt}{E:List Int}
theorem nright1(x n:Int):F_129 N x n=some (outN n x):=by
 unfold F_129 outN;by_cases h:x<0<;>simp[h]
theorem ncontains{xs:List Int}{n:Int}(hN:4294967296≤N)(hl:xs.length<4294967296):F_176 N xs n=some (xs.any (outN n)):=by
 unfold F_176 F_110
 rw[loop_find xs (outN n) (fun i=>(i:Int)) (by omega) (fun i x hx=>by
  have hi:=lt_len hx;unfold F_257;simp only[show((i:Int)<(xs.length:Int)) by omega,decide_true,if_true,idx_of hx,nright1,bind,Option.bind_some];rw[w64_succ (by omega)]) (by unfold F_257;simp)]
 cases h:xs.findIdx? (outN n)with
 |none=>
   have:xs.any (outN n)=false:=List.any_eq_false.2 fun x hx=>by rw[List.findIdx?_eq_none_iff.1 h x hx];simp
   simp[this]
 |some k=>
   obtain⟨hk,hp,_⟩:=List.findIdx?_eq_some_iff_getElem.1 h;have:xs.any (outN n)=true:=List.any_eq_true.2 ⟨_,List.getElem_mem hk,hp⟩;rw[this];simp
structure NSz(S:List Stt)(E:List Int):Prop where
 a:S.length<4294967296
 b:E.length<4294967296
 c: ∀s∈S,s.1.length<4294967296
theorem nfaRight_spec(hN:4294967296≤N)(hs:NSz S E):F_37 N S E=some (rtB S E):=by
 unfold F_37
 rw[loop_any S (badS S.length) false (by have:=hs.a;omega) (fun i s hx=>by
  have hi:=lt_len hx;have hc:=hs.c s (List.mem_of_getElem? hx);have ha:=hs.a;obtain⟨fr,⟨a,b,c,d⟩,to,ru⟩:=s;unfold F_252 badS;simp only[show((i:Int)<(S.length:Int)) by omega,decide_true,if_true,idx_of hx,nright1,F_170,ncontains hN hc,bind,Option.bind_some];rw[w64_succ (by omega)];generalize fr.any (outN S.length)=q;by_cases g5:to= -1
  ·subst g5;have e1:outN (S.length:Int) (-1)=true:=by unfold outN;simp
   have g2: ¬((-1:Int)≥(S.length:Int)):=by omega
   by_cases g6:([a,b,c,d]:List Int)= [0,0,0,0]
   ·have e6:(([a,b,c,d]:List Int)== [0,0,0,0])=true:=by rw[g6];rfl
    have e7:(([a,b,c,d]:List Int) != [0,0,0,0])=false:=by rw[g6];rfl
    cases q<;>by_cases g3:ru< -1<;>by_cases g4:ru≥48<;>simp[e6,e7,g3,g4,g2,show(ru>47)=(ru≥48)from by simp;omega]
   have e6:(([a,b,c,d]:List Int)== [0,0,0,0])=false:=by simpa using g6
   have e7:(([a,b,c,d]:List Int) != [0,0,0,0])=true:=by simpa using g6
   simp[e6,e7,e1]
  have e5:(to== -1)=false:=by simpa using g5
  by_cases g7:0≤to∧to<(S.length:Int)
  ·have e1:=outN_of g7;have g1: ¬to< -1:=by omega
   have g2: ¬to≥(S.length:Int):=by omega
   cases q<;>by_cases g3:ru< -1<;>by_cases g4:ru≥48<;>simp[e5,e1,g1,g2,g3,g4,show(ru>47)=(ru≥48)from by simp;omega]
  have e1:outN (S.length:Int) to=true:=by
   cases h:outN (S.length:Int) to with
   |true=>rfl
   |false=>exact absurd (outN_f h) g7
  have g1:to< -1∨to≥(S.length:Int):=by omega
  rcases g1 with g1|g1<;>simp[e5,e1,g1]) (by unfold F_252;simp)]
 unfold rtB
 cases hS:S.any (badS S.length)with
 |true=>simp
 |false=>
   simp only[Bool.false_eq_true,if_false,bind,Option.bind_some,ncontains hN hs.b];by_cases a1:1≤E.length
   ·by_cases a2:E.length≤8
    ·by_cases a3:1≤S.length
     ·by_cases a4:S.length≤4000
      ·have b1:(E.length:Int)≥1:=by omega
       have b2:(E.length:Int)≤8:=by omega
       have b3:(S.length:Int)≥1:=by omega
       have b4:(S.length:Int)≤4000:=by omega
       simp[a1,a2,a3,a4,b1,b2,b3,b4]
      have b1:(E.length:Int)≥1:=by omega
      have b2:(E.length:Int)≤8:=by omega
      have b3:(S.length:Int)≥1:=by omega
      have b4: ¬(S.length:Int)≤4000:=by omega
      simp[a4,b1,b2,b3,b4]
     have b1:(E.length:Int)≥1:=by omega
     have b2:(E.length:Int)≤8:=by omega
     have b3: ¬(S.length:Int)≥1:=by omega
     simp[a3,b1,b2,b3]
    have b1:(E.length:Int)≥1:=by omega
    have b2: ¬(E.length:Int)≤8:=by omega
    simp[a2,b1,b2]
   have b1: ¬(E.length:Int)≥1:=by omega
   simp[a1,b1]
end
open Go Go.Eng
section
variable {N:Nat}{S:List Stt}{E:List Int}
theorem of15_spec{m:Int}(hN:4294967296≤N)(hm:m<4294967296): ∃p,F_74 N S E m=some p∧(p.2=true→p.1=S∧(S.length:Int)≤m∧(E.length:Int)≤20∧ ∀s∈S,s.1.length≤100):=by
 unfold F_74;by_cases a1:(E.length:Int)>20
 ·exact⟨([],false),by simp[a1],by simp⟩
 by_cases a2:(S.length:Int)>m
 ·exact⟨([],false),by simp[a1,a2],by simp⟩
 simp only[a1,a2,decide_false,Bool.false_eq_true,if_false,bind,Option.bind_some]
 obtain⟨r,hr,hq⟩:=iterO_while (f:=fun s:Int×List Stt=>F_240 N S s.1 s.2) (fun s=> ∃i:Nat,i≤S.length∧s=((i:Int),S.take i)∧ ∀t∈S.take i,t.1.length≤100) (fun s=>S.length-s.1.toNat)
  (fun r=>match r with| .inl x=>x=S∧ ∀t∈S,t.1.length≤100| .inr z=>z.2=false) (fun s hI=>by
   obtain⟨i,hi,rfl,hf⟩:=hI;unfold F_240;by_cases hil:i<S.length
   ·have hx:S[i]? =some S[i]:=List.getElem?_eq_getElem hil;simp only[show((i:Int)<(S.length:Int)) by omega,decide_true,if_true,idx_of hx,bind,Option.bind_some];by_cases b1:(S[i].1.length:Int)>100
    ·right;exact⟨.inr (S.take i,false),by simp[b1],rfl⟩
    left;refine⟨(((i+1:Nat):Int),S.take (i+1)),?_,⟨i+1,by omega,rfl,fun t ht=>?_⟩,by simp;omega⟩
    ·simp only[b1,decide_false,Bool.false_eq_true,if_false];rw[app_eq (by simp;omega),w64_succ (by omega),List.take_add_one,hx];rfl
    rw[List.take_add_one,hx]at ht;rcases List.mem_append.1 ht with ht|ht
    ·exact hf t ht
    simp at ht;subst ht;omega
   right;obtain rfl:i=S.length:=by omega
   refine⟨.inl S,by simp,rfl,fun t ht=>hf t (by simpa using ht)⟩) (N:=N) (s:=(0,[])) ⟨0,by omega,by simp,by simp⟩ (by simp;omega)
 rw[hr]
 cases r with
 |inl x=>exact⟨(x,true),rfl,fun _=>⟨hq.1,by omega,by omega,hq.2⟩⟩
 |inr z=>exact⟨z,rfl,fun h=>by rw[hq]at h;cases h⟩
def frF(S:List Stt)(x:Int):List Int:=((S[x.toNat]?).map (fun s=>s.1)).getD []
inductive RchF(S:List Stt)(L:List Int):Int→Prop
 |base {x:Int}:x∈L→RchF S L x
 |step {s y:Int}:RchF S L s→y∈frF S s→RchF S L y
theorem RchF.mono{L L':List Int}(hl: ∀x∈L,RchF S L' x){x:Int}(hr:RchF S L x):RchF S L' x:=by
 induction hr with
 |base hx=>exact hl _ hx
 |step _ hy ih=>exact .step ih hy
end
open Go Go.Eng
set_option maxRecDepth 100000
section
variable {N:Nat}{S S':List Stt}{E E':List Int}
theorem st_eq{s t:Stt}:s=t↔s.1=t.1∧([s.2.1.1,s.2.1.2.1,s.2.1.2.2.1,s.2.1.2.2.2]:List Int)= [t.2.1.1,t.2.1.2.1,t.2.1.2.2.1,t.2.1.2.2.2]∧s.2.2.1=t.2.2.1∧s.2.2.2=t.2.2.2:=by
 obtain⟨a,⟨b,c,d,e⟩,f,g⟩:=s;obtain⟨a',⟨b',c',d',e'⟩,f',g'⟩:=t;simp only[Prod.mk.injEq,List.cons.injEq,and_true,and_assoc]
theorem any_ne{α:Type}[DecidableEq α]{a b:List α}(h:a.length=b.length):((List.range a.length).any fun i=>decide (a[i]? ≠b[i]?))=decide (a≠b):=by
 rw[Bool.eq_iff_iff,List.any_eq_true,decide_eq_true_iff];constructor
 ·rintro⟨i,_,hi⟩ e;rw[e]at hi;simp at hi
 intro hne;apply Classical.byContradiction;intro hn;refine hne (List.ext_getElem? fun i=>?_);by_cases hi:i<a.length
 ·exact Classical.byContradiction fun hx=>hn ⟨i,by simpa using hi,by simpa using hx⟩
 rw[List.getElem?_eq_none (by omega),List.getElem?_eq_none (by omega)]
theorem nrefSame_spec(hN:4294967296≤N)(hs:NSz S E):F_79 N S E S' E'=some (decide (S=S'∧E=E')):=by
 unfold F_79;rw[sameInts_spec hN hs.b];simp only[bind,Option.bind_some];by_cases h1:E=E'
 ·rw[decide_eq_true h1];simp only[Bool.not_true,Bool.false_eq_true,if_false,Option.bind_some];by_cases h:S.length=S'.length
  ·have e0:((S.length:Int) != (S'.length:Int))=false:=by simp[h]
   simp only[e0,Bool.false_eq_true,if_false]
   rw[loop_any (List.range S.length) (fun i=>decide (S[i]? ≠S'[i]?)) false (by have:=hs.a;simp;omega) (fun i x hx=>by
    obtain⟨hi,rfl⟩:=range_get hx;have hib:x<S'.length:=by omega
    have ha:=hs.a;unfold F_246;rw[if_pos (by simp;omega),idx_nat hi,idx_nat hib];simp only[bind,Option.bind_some];rw[sameInts_spec hN (hs.c _ (List.getElem_mem hi)),List.getElem?_eq_getElem hi,List.getElem?_eq_getElem hib];simp only[Option.bind_some];rw[w64_succ (by omega)];have key:=st_eq (s:=S[x]) (t:=S'[x]);by_cases c:S[x]=S'[x]
    ·obtain⟨k1,k2,k3,k4⟩:=key.1 c;simp[c]
    by_cases k1:S[x].1=S'[x].1
    ·by_cases k2:([S[x].2.1.1,S[x].2.1.2.1,S[x].2.1.2.2.1,S[x].2.1.2.2.2]:List Int)= [S'[x].2.1.1,S'[x].2.1.2.1,S'[x].2.1.2.2.1,S'[x].2.1.2.2.2]
     ·by_cases k3:S[x].2.2.1=S'[x].2.2.1
      ·have k4: ¬S[x].2.2.2=S'[x].2.2.2:=fun k4=>c (key.2 ⟨k1,k2,k3,k4⟩);rw[decide_eq_true k1,if_neg (by simp),if_neg (by simpa using k2),if_neg (by simpa using k3)];simp[k4,c]
      rw[decide_eq_true k1,if_neg (by simp),if_neg (by simpa using k2),if_pos (by simpa using k3)];simp[c]
     rw[decide_eq_true k1,if_neg (by simp),if_pos (bne_iff_ne.2 k2)];simp[c]
    rw[decide_eq_false k1,if_pos (by simp)];simp[c]) (by simp[F_246]),any_ne h]
   by_cases c:S=S'<;>simp[c,h1]
  have e0:((S.length:Int) != (S'.length:Int))=true:=by simp;omega
  have hne:S≠S':=fun e=>h (by rw[e]);simp[e0,hne]
 rw[decide_eq_false h1];simp[h1]
end
open Go Go.Eng
set_option maxRecDepth 100000
mutual
def cnt:Nd→Nat
 | .mk _ _ l _ _ _=>1+cntL l
def cntL:List Nd→Nat
 | []=>0
 |x::l=>cnt x+cntL l
end
abbrev kd(t:Nd):List Nd:=t.un.2.2.1
theorem cnt_un(t:Nd):cnt t=1+cntL (kd t):=by
 cases t;simp only[cnt];rfl
theorem cntL_mem{x:Nd}: ∀{l:List Nd},x∈l→cnt x≤cntL l
 |y::l,h=>by
   simp only[cntL];rcases List.mem_cons.1 h with rfl|h
   ·omega
   have:=cntL_mem h;omega
theorem cnt_kid{t x:Nd}(h:x∈kd t):cnt x<cnt t:=by
 have:=cntL_mem h;rw[cnt_un t];omega
theorem cntL_len: ∀(l:List Nd),l.length≤cntL l
 | []=>Nat.le_refl _
 |x::l=>by
   have:=cntL_len l;have:=cnt_un x;simp only[cntL,List.length_cons];omega
theorem cntL_drop{l:List Nd}{i:Nat}{x:Nd}(h:l[i]? =some x):cntL (l.drop i)=cnt x+cntL (l.drop (i+1)):=by
 rw[List.drop_eq_getElem_cons (lt_len h)];simp only[cntL];rw[(List.getElem?_eq_some_iff.1 h).2]
theorem Nd.of_eq(x:Nd):Nd.of (x.un.1,(x.un.2.1.1,x.un.2.1.2.1,x.un.2.1.2.2.1,x.un.2.1.2.2.2),x.un.2.2.1,x.un.2.2.2.1,x.un.2.2.2.2.1,x.un.2.2.2.2.2)=x:=by
 cases x;rfl
theorem of7_spec: ∀(L:Nat) (t:Nd) (N:Nat),L+5≤N→1≤L→L≤1000→
 ∃ks,F_22 N t.un.1 t.un.2.1.1 t.un.2.1.2.1 t.un.2.1.2.2.1 t.un.2.1.2.2.2 t.un.2.2.1 t.un.2.2.2.1 t.un.2.2.2.2.1 t.un.2.2.2.2.2 (L:Int)=some (ks,((L-cnt t:Nat):Int))∧(cnt t<L→ks=kd t):=by
 intro L
 induction L using Nat.strongRecOn with
 |ind L IH=>
   intro t N hN h1 h2;obtain⟨M,rfl⟩: ∃m,N=m+1:=⟨N-1,by omega⟩
   have key: ∀(left i:Nat) (acc:List Nd) (K:Nat),left<K→left<L→acc.length=i→i+left≤1000→i≤(kd t).length→
    ∃acc',(iterO K (fun s=>F_65 M (F_22 M) (kd t) s.1 s.2.1 s.2.2) ((left:Int),(i:Int),acc)=some (.inl (((left-cntL ((kd t).drop i):Nat):Int),acc'))∨
      iterO K (fun s=>F_65 M (F_22 M) (kd t) s.1 s.2.1 s.2.2) ((left:Int),(i:Int),acc)=some (.inr (acc',((left-cntL ((kd t).drop i):Nat):Int))))∧
      (cntL ((kd t).drop i)<left→acc'=acc++(kd t).drop i):=by
    intro left
    induction left using Nat.strongRecOn with
    |ind left ih=>
      intro i acc K hK hL ha hb hi;obtain⟨K,rfl⟩: ∃m,K=m+1:=⟨K-1,by omega⟩;by_cases hlt:i<(kd t).length
      ·have hx:(kd t)[i]? =some (kd t)[i]:=List.getElem?_eq_getElem hlt;generalize(kd t)[i]=x at hx;have hc:=cntL_drop hx;have hp:=cnt_un x;by_cases h0:left=0
       ·refine⟨acc,.inr ?_,fun h=>by omega⟩;subst h0;simp only[iterO,F_65];rw[if_pos (by simpa using hlt),idx_of hx];simp
       obtain⟨ks,e1,e2⟩:=IH left hL x M (by omega) (by omega) (by omega);obtain⟨acc',g1,g2⟩:=ih (left-cnt x) (by omega) (i+1) (acc++ [Nd.of (x.un.1,(x.un.2.1.1,x.un.2.1.2.1,x.un.2.1.2.2.1,x.un.2.1.2.2.2),ks,x.un.2.2.2.1,x.un.2.2.2.2.1,x.un.2.2.2.2.2)]) K (by omega) (by omega) (by simp[ha]) (by omega) (by omega)
       have hs:F_65 M (F_22 M) (kd t) (left:Int) (i:Int) acc=some (.inl (((left-cnt x:Nat):Int),((i+1:Nat):Int),acc++ [Nd.of (x.un.1,(x.un.2.1.1,x.un.2.1.2.1,x.un.2.1.2.2.1,x.un.2.1.2.2.2),ks,x.un.2.2.2.1,x.un.2.2.2.2.1,x.un.2.2.2.2.2)])):=by
        unfold F_65;rw[if_pos (by simpa using hlt),idx_of hx];simp only[bind,Option.bind_some];rw[if_neg (by simp;omega),e1];simp only[Option.bind_some];rw[app_eq (by simp;omega),w64_succ (by omega)];rfl
       refine⟨acc',?_,fun h=>?_⟩
       ·simp only[iterO,hs];rw[hc,show left-(cnt x+cntL ((kd t).drop (i+1)))=left-cnt x-cntL ((kd t).drop (i+1)) by omega];exact g1
       rw[g2 (by omega),e2 (by omega),Nd.of_eq,List.append_assoc,List.drop_eq_getElem_cons hlt,(List.getElem?_eq_some_iff.1 hx).2];rfl
      have hd:(kd t).drop i= []:=List.drop_eq_nil_of_le (by omega);refine⟨acc,.inl ?_,fun _=>by simp[hd]⟩;simp only[iterO,F_65];rw[if_neg (by simpa using hlt),hd];simp[cntL]
   obtain⟨acc',g1,g2⟩:=key (L-1) 0 [] M (by omega) (by omega) rfl (by omega) (by omega);have hw:w64 ((L:Int)-1)=((L-1:Nat):Int):=by rw[w64,wrap64]<;>omega
   have hcu:=cnt_un t;rw[List.drop_zero]at g1 g2;refine⟨acc',?_,fun h=>by rw[g2 (by omega)];rfl⟩;rw[F_22,hw,show L-cnt t=L-1-cntL (kd t) by omega];rcases g1 with g1|g1
   ·show(iterO M (fun s=>F_65 M (F_22 M) (kd t) s.1 s.2.1 s.2.2) (((L-1:Nat):Int),((0:Nat):Int),[]) >>= _)=_;rw[g1];rfl
   show(iterO M (fun s=>F_65 M (F_22 M) (kd t) s.1 s.2.1 s.2.2) (((L-1:Nat):Int),((0:Nat):Int),[]) >>= _)=_;rw[g1];rfl
abbrev Rl:=List Int×Nd×Int×Int
structure Short(C Nm:List ByteArray)(R:List Rl):Prop where
 c:C.length≤20
 r:R.length≤60
 n:Nm.length≤60
 t: ∀r∈R,cnt r.2.1<700∧r.1.length≤50
theorem of14_spec{N:Nat}{C Nm:List ByteArray}{R:List Rl}(hN:4294967296≤N)(hs:Short C Nm R):F_59 N C Nm R=some R:=by
 have hr:=hs.r;unfold F_59
 have:=loop_fold (f:=fun s:Int×List Rl=>F_151 N R s.1 s.2) (fun i (s:List Rl)=>((i:Int),s)) id R (fun s x=>s++ [x]) (fun i s=>s.length=i) (N:=N) (s:=[]) (by omega) rfl
  (fun i r s hx hI=>by
   have hi:=lt_len hx;obtain⟨ks,e1,e2⟩:=of7_spec 700 r.2.1 N (by omega) (by omega) (by omega);have hc:=hs.t r (List.mem_of_getElem? hx);unfold F_151;rw[if_pos (by simpa using hi),idx_of hx];simp only[bind,Option.bind_some];rw[show((700:Int))=((700:Nat):Int)from rfl,e1,w64_succ (by omega)];simp only[Option.bind_some];rw[e2 hc.1,Nd.of_eq,app_eq (by simp;omega)];exact⟨rfl,by simp[hI]⟩)
  (fun s _=>by unfold F_151;simp)
 have hf: ∀(l acc:List Rl),l.foldl (fun s x=>s++ [x]) acc=acc++l:=by
  intro l
  induction l with
  |nil=>simp
  |cons x l ih=>intro acc;rw[List.foldl_cons,ih];simp
 rw[hf]at this;show(iterO N (fun s=>F_151 N R s.1 s.2) (((0:Nat):Int),[]) >>= _)=_;rw[this];rfl
open Go Go.Eng
set_option maxRecDepth 100000
def sl(s:ByteArray):List Int:=s.data.toList.map fun u=>((u.toNat:Nat):Int)
theorem sl_len(s:ByteArray):(sl s).length=s.size:=by
 unfold sl;rw[List.length_map,Array.length_toList];rfl
theorem sidx_sl(s:ByteArray)(i:Int):sidx s i=idx (sl s) i:=by
 unfold sidx idx sl;rw[List.getElem?_map]
theorem emp_sl(s:ByteArray):(s.toList==ByteArray.empty.toList)=decide (s.size=0):=by
 rw[ba_toList,ba_toList];have:s.size=s.data.toList.length:=by rw[Array.length_toList];rfl
 rw[this];show(s.data.toList== [])=_;cases s.data.toList<;>simp
def ltC(c:Int):Bool:=decide (97≤c)&&decide (c≤122)
def dgC(c:Int):Bool:=decide (48≤c)&&decide (c≤57)
def nmB(l:List Int):Bool:=decide (1≤l.length)&&decide (l.length≤12)&&ltC (l.getD 0 0)&&l.all (fun c=>ltC c||dgC c)
theorem nm_code{N:Nat}{s:ByteArray}(hN:9300000000000000000≤N)(hs:s.size≤maxLen):F_21 N s=some (nmB (sl s)):=by
 have hm:s.size<9223372036854775808:=by unfold maxLen at hs;omega
 have hl:=sl_len s;unfold F_21
 rw[loop_any (List.range s.size) (fun i=> !ltC ((sl s).getD i 0)&&(i==0|| !dgC ((sl s).getD i 0))) false (by simp;omega) (fun i x hx=>by
  obtain⟨hi,rfl⟩:=range_get hx
  have hx:(sl s)[x]? =some ((sl s).getD x 0):=by
   rw[List.getD,List.getElem?_eq_getElem (by omega)];rfl
  generalize(sl s).getD x 0=c at hx;unfold F_117;rw[if_pos (by simpa using hi)];simp only[sidx_sl,idx_of hx,bind,Option.bind_some];rw[w64_succ (by omega)];unfold ltC dgC;by_cases c1:97≤c
  ·by_cases c2:c≤122
   ·simp[c1,c2]
   by_cases h0:x=0
   ·subst h0;simp[c1,c2]
   have: ¬(x:Int)=0:=by omega
   have c3: ¬c<48:=by omega
   have c4:c>57:=by omega
   simp[c1,c2,h0,c3,c4]
  by_cases h0:x=0
  ·subst h0;simp[c1]
  by_cases c3:c<48
  ·simp[c1,h0,c3]
  by_cases c4:c>57
  ·simp[c1,h0,c3,c4]
  simp[c1,h0,c3,c4,show 48≤c by omega,show c≤57 by omega]) (by unfold F_117;simp)]
 by_cases h0:s.size=0
 ·have e:sl s= []:=List.eq_nil_of_length_eq_zero (by omega)
  have e2:(s.toList != ByteArray.empty.toList)=false:=by
   show(!(s.toList==ByteArray.empty.toList))=_;rw[emp_sl];simp[h0]
  rw[h0,e2,nmB,e];rfl
 have e2:(s.toList != ByteArray.empty.toList)=true:=by
  show(!(s.toList==ByteArray.empty.toList))=_;rw[emp_sl];simp[h0]
 simp only[e2,if_true,bind,Option.bind_some]
 cases hl:sl s with
 |nil=>
   have:=sl_len s;rw[hl]at this;simp at this;omega
 |cons c t=>
   have hsz:s.size=t.length+1:=by rw[←sl_len s,hl];rfl
   rw[hsz,List.range_succ_eq_map,List.any_cons,List.any_map]
   have e3:(fun i=> !ltC ((c::t).getD i 0)&&(i==0|| !dgC ((c::t).getD i 0)))∘Nat.succ=fun i=> !(ltC (t.getD i 0)||dgC (t.getD i 0)):=by
    funext i;simp[Bool.not_or]
   rw[e3]
   have e4:((List.range t.length).any fun i=> !(ltC (t.getD i 0)||dgC (t.getD i 0)))= !t.all (fun c=>ltC c||dgC c):=by
    rw[List.any_eq_not_all_not]
    congr 1
    simp only[Bool.not_not];rw[Bool.eq_iff_iff,List.all_eq_true,List.all_eq_true];constructor
    ·intro h x hx;obtain⟨i,hi,rfl⟩:=List.getElem_of_mem hx;have:=h i (by simpa using hi);rwa[List.getD,List.getElem?_eq_getElem hi]at this
    intro h i hi;have hi:i<t.length:=by simpa using hi
    have:=h _ (List.getElem_mem hi);rw[List.getD,List.getElem?_eq_getElem hi];exact this
   rw[e4];unfold nmB;simp only[List.length_cons,List.getD_cons_zero,List.all_cons];generalize t.all (fun c=>ltC c||dgC c)=q;by_cases c3:t.length+1≤12
   ·have c4:(t.length:Int)+1≤12:=by omega
    cases ltC c<;>cases q<;>simp[c3,c4]
   have c4: ¬(t.length:Int)+1≤12:=by omega
   cases ltC c<;>cases q<;>simp[c3,c4]
theorem nm_ref{N:Nat}{s:ByteArray}(hN:9300000000000000000≤N):F_75 N s=some (nmB (sl s)):=by
 have hl:=sl_len s;unfold F_75 nmB;by_cases h1:s.size<1
 ·have:(s.size:Int)<1:=by omega
  have h2: ¬1≤s.size:=by omega
  simp[this,hl,h2]
 by_cases h2:s.size>12
 ·have:(s.size:Int)>12:=by omega
  have h3: ¬s.size≤12:=by omega
  simp[this,hl,h3]
 have b1: ¬(s.size:Int)<1:=by omega
 have b2: ¬(s.size:Int)>12:=by omega
 have hx:(sl s)[0]? =some ((sl s).getD 0 0):=by
  rw[List.getD,List.getElem?_eq_getElem (by omega)];rfl
 have e0:sidx s 0=some ((sl s).getD 0 0):=by
  rw[sidx_sl];exact idx_of (i:=0) hx
 simp only[b1,b2,decide_false,Bool.false_eq_true,if_false,e0,bind,Option.bind_some]
 rw[loop_any (sl s) (fun c=> !(ltC c||dgC c)) false (by omega) (fun i c hx=>by
  have hi:=lt_len hx;unfold F_243;rw[if_pos (by simpa using(show(i:Int)<(s.size:Int) by omega))];simp only[sidx_sl,idx_of hx,bind,Option.bind_some];rw[w64_succ (by omega)];unfold ltC dgC;by_cases c1:c<97
  ·by_cases c3:c<48
   ·simp[c1,c3,show¬97≤c by omega,show¬48≤c by omega]
   by_cases c4:c>57
   ·simp[c1,c3,c4,show¬97≤c by omega,show¬c≤57 by omega]
   simp[c1,c3,c4,show¬97≤c by omega,show 48≤c by omega,show c≤57 by omega]
  by_cases c2:c>122
  ·simp[c1,c2,show¬c≤122 by omega,show c>57 by omega,show¬c≤57 by omega]
  simp[c1,c2,show 97≤c by omega,show c≤122 by omega]) (by unfold F_243;rw[hl];simp)]
 have e5:((sl s).any fun c=> !(ltC c||dgC c))= !(sl s).all (fun c=>ltC c||dgC c):=by
  rw[List.any_eq_not_all_not];simp
 rw[e5,hl];generalize(sl s).all (fun c=>ltC c||dgC c)=q;have g1:1≤s.size:=by omega
 have g2:s.size≤12:=by omega
 generalize(sl s).getD 0 0=c;unfold ltC;by_cases c1:c<97
 ·simp[c1,show¬97≤c by omega]
 by_cases c2:c>122
 ·simp[c1,c2,show¬c≤122 by omega]
 cases q<;>simp[c1,c2,g1,g2,show 97≤c by omega,show c≤122 by omega]
open Go Go.Eng
set_option maxRecDepth 100000
def bareB(k:Int)(z:Bool)(mn mx:Int)(e:Bool):Bool:=(k==1||z)&&(k==4||(mn==0&&mx==0))&&(k==5||e)
def kindB(k:Int)(n:Nat)(mn mx:Int)(q:Bool):Bool:=
 if(k==1)=true then n==0 else if(k==2)=true then true else if(k==3)=true then decide (2≤n)else
  if(k==4)=true then n==1&&decide (0≤mn)&&decide (mn≤40)&&(mx== -1||(decide (mn≤mx)&&decide (1≤mx)&&decide (mx≤40)))else k==5&&n==0&&q
def okB(k:Int)(z:Bool)(n:Nat)(mn mx:Int)(e q:Bool):Bool:=bareB k z mn mx e&&kindB k n mn mx q
theorem imax_le{a b c:Int}:a≥imax b c↔b≤a∧c≤a:=by
 unfold imax;split<;>omega
theorem bare_spec{N:Nat}{k a b c d:Int}{l:List Nd}{mn mx:Int}{s:ByteArray}:
 F_178 N k a b c d l mn mx s=some (bareB k (([a,b,c,d]:List Int)== [0,0,0,0]) mn mx (s.toList==ByteArray.empty.toList)):=by
 unfold F_178 bareB;generalize(([a,b,c,d]:List Int)== [0,0,0,0])=z;generalize(s.toList==ByteArray.empty.toList)=e;generalize(k==1)=k1;generalize(k==4)=k4;generalize(k==5)=k5;generalize(mn==0)=m1;generalize(mx==0)=m2;cases z<;>cases e<;>cases k1<;>cases k4<;>cases k5<;>cases m1<;>cases m2<;>rfl
theorem beq_nat(n m:Nat):((n:Int)==(m:Int))=(n==m):=by
 rw[Bool.eq_iff_iff,beq_iff_eq,beq_iff_eq];omega
theorem node_code{N:Nat}{k a b c d:Int}{l:List Nd}{mn mx:Int}{s:ByteArray}(hN:9300000000000000000≤N)(hs:s.size≤maxLen):
 F_179 N k a b c d l mn mx s=some (okB k (([a,b,c,d]:List Int)== [0,0,0,0]) l.length mn mx (s.toList==ByteArray.empty.toList) (nmB (sl s))):=by
 unfold F_179 okB kindB;rw[bare_spec,nm_code hN hs,show((l.length:Int)==0)=(l.length==0)from beq_nat _ 0,show((l.length:Int)==1)=(l.length==1)from beq_nat _ 1]
 have e2:decide (mx≥imax mn 1)=(decide (mn≤mx)&&decide (1≤mx)):=by
  rw[Bool.eq_iff_iff];simp only[decide_eq_true_eq,Bool.and_eq_true];exact imax_le
 have e3:decide ((l.length:Int)≥2)=decide (2≤l.length):=by
  rw[Bool.eq_iff_iff,decide_eq_true_eq,decide_eq_true_eq];omega
 rw[e2,e3];simp only[ge_iff_le];generalize bareB k (([a,b,c,d]:List Int)== [0,0,0,0]) mn mx (s.toList==ByteArray.empty.toList)=z;generalize nmB (sl s)=q;generalize(l.length==0)=n0;generalize(l.length==1)=n1;generalize decide (2≤l.length)=n2;generalize decide (0≤mn)=m1;generalize decide (mn≤40)=m2;generalize(mx== -1)=m3;generalize decide (mn≤mx)=m4;generalize decide (1≤mx)=m5;generalize decide (mx≤40)=m6;cases z
 ·rfl
 cases h1:k==1
 ·cases h2:k==2
  ·cases h3:k==3
   ·cases h4:k==4
    ·cases h5:k==5<;>cases n0<;>cases q<;>rfl
    cases n1<;>cases m1<;>cases m2<;>cases m3<;>cases m4<;>cases m5<;>cases m6<;>rfl
   rfl
  rfl
 rfl
theorem node_ref{N:Nat}{k a b c d:Int}{l:List Nd}{n:Nat}{mn mx lv:Int}{s:ByteArray}(hN:9300000000000000000≤N):
 F_185 N k a b c d l mn mx s lv (n:Int)=some (okB k (([a,b,c,d]:List Int)== [0,0,0,0]) n mn mx (s.toList==ByteArray.empty.toList) (nmB (sl s))):=by
 unfold F_185 okB kindB bareB;rw[nm_ref hN,show(k != 1)= !(k==1)from rfl,show(k != 4)= !(k==4)from rfl,show(k != 5)= !(k==5)from rfl,show(mn != 0)= !(mn==0)from rfl,show(mx != 0)= !(mx==0)from rfl,show(([a,b,c,d]:List Int) != [0,0,0,0])= !(([a,b,c,d]:List Int)== [0,0,0,0])from rfl,show(s.toList != ByteArray.empty.toList)= !(s.toList==ByteArray.empty.toList)from rfl,show((n:Int) != 1)= !((n:Int)==1)from rfl,show((n:Int)==0)=(n==0)from beq_nat _ 0,show((n:Int)==1)=(n==1)from beq_nat _ 1]
 have e3:decide ((n:Int)>1)=decide (2≤n):=by
  rw[Bool.eq_iff_iff,decide_eq_true_eq,decide_eq_true_eq];omega
 have e4:decide (mn<0)= !decide (0≤mn):=by
  rw[Bool.eq_iff_iff];simp
 have e5:decide (mn>40)= !decide (mn≤40):=by
  rw[Bool.eq_iff_iff];simp
 rw[e3,e4,e5];simp only[ge_iff_le];generalize(([a,b,c,d]:List Int)== [0,0,0,0])=z;generalize(s.toList==ByteArray.empty.toList)=e;generalize nmB (sl s)=q;generalize(n==0)=n0;generalize(n==1)=n1;generalize decide (2≤n)=n2;generalize decide (0≤mn)=m1;generalize decide (mn≤40)=m2;generalize(mx== -1)=m3;generalize decide (mn≤mx)=m4;generalize decide (1≤mx)=m5;generalize decide (mx≤40)=m6;generalize(mn==0)=m7;generalize(mx==0)=m8;cases h1:k==1
 ·cases h2:k==2
  ·cases h3:k==3
   ·cases h4:k==4
    ·cases h5:k==5<;>cases z<;>cases e<;>cases m7<;>cases m8<;>cases n0<;>cases q<;>rfl
    have h5:(k==5)=false:=by
     rw[beq_iff_eq.1 h4];rfl
    rw[h5];cases z
    ·rfl
    cases e
    ·rfl
    cases n1<;>cases m1<;>cases m2<;>cases m3<;>cases m4<;>cases m5<;>cases m6<;>rfl
   have h4:(k==4)=false:=by
    rw[beq_iff_eq.1 h3];rfl
   have h5:(k==5)=false:=by
    rw[beq_iff_eq.1 h3];rfl
   rw[h4,h5];cases z<;>cases e<;>cases m7<;>cases m8<;>rfl
  have h4:(k==4)=false:=by
   rw[beq_iff_eq.1 h2];rfl
  have h5:(k==5)=false:=by
   rw[beq_iff_eq.1 h2];rfl
  rw[h4,h5];cases z<;>cases e<;>cases m7<;>cases m8<;>rfl
 have h4:(k==4)=false:=by
  rw[beq_iff_eq.1 h1];rfl
 have h5:(k==5)=false:=by
  rw[beq_iff_eq.1 h1];rfl
 rw[h4,h5];cases z<;>cases e<;>cases m7<;>cases m8<;>rfl
open Go Go.Eng
set_option maxRecDepth 100000
mutual
def wk:Nat→Nd→List (Nd×Int)
 |lv,.mk k s l a b t=>(.mk k s l a b t,(lv:Int))::(if lv>24 then []else wkL (lv+1) l)
def wkL:Nat→List Nd→List (Nd×Int)
 |_,[]=>[]
 |lv,x::l=>wk lv x++wkL lv l
end
theorem wk_un(lv:Nat)(t:Nd):wk lv t=(t,(lv:Int))::(if lv>24 then []else wkL (lv+1) (kd t)):=by
 cases t;simp only[wk];rfl
theorem wkL_drop{lv:Nat}{l:List Nd}{i:Nat}{x:Nd}(h:l[i]? =some x):wkL lv (l.drop i)=wk lv x++wkL lv (l.drop (i+1)):=by
 rw[List.drop_eq_getElem_cons (lt_len h)];simp only[wkL];rw[(List.getElem?_eq_some_iff.1 h).2]
def run{σ α:Type}(Y:α→σ→Option (σ×Bool)):List α→Nat→σ→Option ((σ×Int) ⊕ ((σ×Int) ⊕ (σ×Int)))
 | [],n,s=>some (.inr (.inr (s,(n:Int))))
 |_::_,0,s=>some (.inl (s,0))
 |x::xs,n+1,s=>Y x s >>= fun q=>if(!q.2)=true then some (.inr (.inl (q.1,((n+1:Nat):Int))))else run Y xs n q.1
def nxt{σ α:Type}(Y:α→σ→Option (σ×Bool))(ys:List α):(σ×Int) ⊕ ((σ×Int) ⊕ (σ×Int))→Option ((σ×Int) ⊕ ((σ×Int) ⊕ (σ×Int)))
 | .inl p=>some (.inl p)
 | .inr (.inl p)=>some (.inr (.inl p))
 | .inr (.inr p)=>run Y ys p.2.toNat p.1
theorem run_app{σ α:Type}(Y:α→σ→Option (σ×Bool))(ys:List α): ∀(xs:List α) (n:Nat) (s:σ),run Y (xs++ys) n s=run Y xs n s >>= nxt Y ys
 | [],n,s=>by simp[run,nxt,bind]
 |x::xs,0,s=>by simp[run,nxt,bind]
 |x::xs,n+1,s=>by
   simp only[List.cons_append,run,bind]
   cases Y x s with
   |none=>rfl
   |some q=>
     simp only[Option.bind_some];by_cases h:(!q.2)=true
     ·rw[if_pos h,if_pos h];rfl
     rw[if_neg h,if_neg h];exact run_app Y ys xs n q.1
def cv{σ:Type}:(σ×Int) ⊕ ((σ×Int) ⊕ (σ×Int))→(σ×Int) ⊕ ((σ×Int) ⊕ ((σ×Int) ⊕ (σ×Int)))
 | .inl p=> .inr (.inl p)
 | .inr (.inl p)=> .inr (.inr (.inl p))
 | .inr (.inr p)=> .inl p
theorem run_nat{σ α:Type}{Y:α→σ→Option (σ×Bool)}: ∀{xs:List α} {n:Nat} {s:σ} {p:σ×Int},run Y xs n s=some (.inr (.inr p))→ ∃m:Nat,p.2=(m:Int)∧m≤n
 | [],n,s,p,h=>by
   simp only[run,Option.some.injEq,Sum.inr.injEq]at h;subst h;exact⟨n,rfl,Nat.le_refl _⟩
 |x::xs,0,s,p,h=>by simp[run]at h
 |x::xs,n+1,s,p,h=>by
   simp only[run,bind]at h
   cases hy:Y x s with
   |none=>rw[hy]at h;simp at h
   |some q=>
     rw[hy]at h;simp only[Option.bind_some]at h;split at h
     ·simp at h
     obtain⟨m,h1,h2⟩:=run_nat h;exact⟨m,h1,by omega⟩
theorem walk_run{σ:Type}(Y:Nd×Int→σ→Option (σ×Bool)): ∀(c:Nat) (t:Nd),cnt t=c→ ∀(lv n N:Nat) (s:σ),cnt t+5≤N→cnt t<100000→lv≤25→n≤100000→
 F_28 N (n:Int) Y s t.un.1 t.un.2.1.1 t.un.2.1.2.1 t.un.2.1.2.2.1 t.un.2.1.2.2.2 t.un.2.2.1 t.un.2.2.2.1 t.un.2.2.2.2.1 t.un.2.2.2.2.2 (lv:Int)=run Y (wk lv t) n s:=by
 intro c
 induction c using Nat.strongRecOn with
 |ind c IH=>
   intro t hc lv n N s hN hb hlv hn;obtain⟨M,rfl⟩: ∃m,N=m+1:=⟨N-1,by omega⟩;have hcu:=cnt_un t;have hll:=cntL_len (kd t);rw[F_28,wk_un]
   cases n with
   |zero=>simp[run]
   |succ n=>
     have e0:(((n+1:Nat):Int)==0)=false:=by simp;omega
     have e1:w64 (((n+1:Nat):Int)-1)=(n:Int):=by rw[w64,wrap64]<;>omega
     simp only[e0,e1,Bool.false_eq_true,if_false,Nd.of_eq,run,bind]
     cases hY:Y (t,(lv:Int)) s with
     |none=>rfl
     |some q=>
       simp only[Option.bind_some];by_cases hq:(!q.2)=true
       ·rw[if_pos hq,if_pos hq]
       rw[if_neg hq,if_neg hq];by_cases h24:lv>24
       ·have:(lv:Int)>24:=by omega
        simp[this,h24,run]
       have h24': ¬(lv:Int)>24:=by omega
       simp only[h24',decide_false,Bool.false_eq_true,if_false,h24]
       have key: ∀(r i n K:Nat) (s:σ),i+r=(kd t).length→r<K→n≤100000→
        iterO K (fun s=>F_91 M (F_28 M) Y (kd t) (lv:Int) s.1 s.2.1 s.2.2) (s,(n:Int),(i:Int))=(run Y (wkL (lv+1) ((kd t).drop i)) n s).map cv:=by
        intro r
        induction r with
        |zero=>
          intro i n K s hi hK hn;obtain⟨K,rfl⟩: ∃m,K=m+1:=⟨K-1,by omega⟩;rw[List.drop_eq_nil_of_le (by omega)];simp only[iterO,F_91];rw[if_neg (by simp;omega)];simp[wkL,run,cv]
        |succ r ih=>
          intro i n K s hi hK hn;obtain⟨K,rfl⟩: ∃m,K=m+1:=⟨K-1,by omega⟩;have hlt:i<(kd t).length:=by omega
          have hx:(kd t)[i]? =some (kd t)[i]:=List.getElem?_eq_getElem hlt;generalize(kd t)[i]=x at hx;have hm:=cnt_kid (List.mem_of_getElem? hx);have hw:w64 ((lv:Int)+1)=((lv+1:Nat):Int):=w64_succ (by omega);have e:=IH (cnt x) (by omega) x rfl (lv+1) n M s (by omega) (by omega) (by omega) hn
          have hs:F_91 M (F_28 M) Y (kd t) (lv:Int) s (n:Int) (i:Int)=(run Y (wk (lv+1) x) n s).bind (fun z=>match z with
           | .inl p=>some (.inr (.inr (.inl p)))
           | .inr (.inl p)=>some (.inr (.inr (.inr (.inl p))))
           | .inr (.inr p)=>some (.inl (p.1,p.2,((i+1:Nat):Int)))):=by
           unfold F_91;rw[if_pos (by simpa using hlt),idx_of hx];simp only[bind,Option.bind_some];rw[hw,e,w64_succ (by omega)]
           cases run Y (wk (lv+1) x) n s with
           |none=>rfl
           |some z=>
             match z with
             | .inl p=>rfl
             | .inr (.inl p)=>rfl
             | .inr (.inr p)=>rfl
          rw[wkL_drop hx,run_app];simp only[iterO,hs]
          cases hr:run Y (wk (lv+1) x) n s with
          |none=>rfl
          |some z=>
            match z,hr with
            | .inl p,_=>rfl
            | .inr (.inl p),_=>rfl
            | .inr (.inr p),hr=>
              obtain⟨m,h1,h2⟩:=run_nat hr;obtain⟨s',q'⟩:=p;simp only at h1;subst h1;simp only[bind,Option.bind_some,nxt,Int.toNat_natCast];exact ih (i+1) m K s' (by omega) (by omega) (by omega)
       have:=key (kd t).length 0 n M q.1 (by omega) (by omega) (by omega);rw[List.drop_zero]at this;rw[show((0:Int))=((0:Nat):Int)from rfl,this]
       cases run Y (wkL (lv+1) (kd t)) n q.1 with
       |none=>rfl
       |some z=>
         match z with
         | .inl p=>rfl
         | .inr (.inl p)=>rfl
         | .inr (.inr p)=>rfl
def okT(t:Nd):Bool:=
 okB t.un.1 (([t.un.2.1.1,t.un.2.1.2.1,t.un.2.1.2.2.1,t.un.2.1.2.2.2]:List Int)== [0,0,0,0]) (kd t).length t.un.2.2.2.1 t.un.2.2.2.2.1 (t.un.2.2.2.2.2.toList==ByteArray.empty.toList) (nmB (sl t.un.2.2.2.2.2))
def okX(x:Nd×Int):Bool:=decide (x.2≤24)&&okT x.1
def rtT(t:Nd):Bool:=decide ((wk 1 t).length≤600)&&(wk 1 t).all okX
mutual
theorem wk_Q: ∀(lv:Nat) (t:Nd),NdQ t→ ∀x∈wk lv t,NdQ x.1
 |lv,.mk k s l a b t,h,x,hx=>by
   have hl:NdQL l:=by simp only[NdQ]at h;exact h.2
   simp only[wk]at hx;rcases List.mem_cons.1 hx with rfl|hx
   ·exact h
   split at hx
   ·simp at hx
   exact wkL_Q (lv+1) l hl x hx
theorem wkL_Q: ∀(lv:Nat) (l:List Nd),NdQL l→ ∀x∈wkL lv l,NdQ x.1
 |_,[],_,x,hx=>by simp[wkL]at hx
 |lv,y::l,h,x,hx=>by
   simp only[NdQL]at h;simp only[wkL]at hx;rcases List.mem_append.1 hx with hx|hx
   ·exact wk_Q lv y h.1 x hx
   exact wkL_Q lv l h.2 x hx
end
def yR(N:Nat):Nd×Int→Int ⊕ Unit→Option ((Int ⊕ Unit)×Bool):=YS (σ1:=Int) (σ2:=Unit) (fun x s=>F_89 N x.1 x.2 s)
theorem right_run{N:Nat}(hN:9300000000000000000≤N): ∀(l:List (Nd×Int)) (m:Nat),m≤600→(∀x∈l,NdQ x.1)→
 (if m+l.length≤600∧l.all okX=true then∃n,run (yR N) l (601-m) (.inl (m:Int))=some (.inr (.inr (.inl (((m+l.length:Nat)):Int),n)))
  else∃n,run (yR N) l (601-m) (.inl (m:Int))=some (.inr (.inl (.inr (),n))))
 | [],m,hm,_=>by
   rw[if_pos (by simpa using hm)];exact⟨_,rfl⟩
 |x::l,m,hm,hq=>by
   have hx:=hq x (by simp)
   have e:run (yR N) (x::l) (601-m) (.inl (m:Int))=
    (if m+1≤600∧okX x=true then run (yR N) l (601-(m+1)) (.inl ((m+1:Nat):Int))else some (.inr (.inl (.inr (),((601-m:Nat):Int))))):=by
    have r0:yR N x (.inl (m:Int))=some (if m+1≤600∧okX x=true then(.inl ((m+1:Nat):Int),true)else(.inr (),false)):=by
     show F_89 N x.1 x.2 (m:Int)=_;unfold F_89;rw[node_code hN hx.text,w64_succ (by omega)];have:okT x.1=okB x.1.un.1 (([x.1.un.2.1.1,x.1.un.2.1.2.1,x.1.un.2.1.2.2.1,x.1.un.2.1.2.2.2]:List Int)== [0,0,0,0]) x.1.un.2.2.1.length x.1.un.2.2.2.1 x.1.un.2.2.2.2.1 (x.1.un.2.2.2.2.2.toList==ByteArray.empty.toList) (nmB (sl x.1.un.2.2.2.2.2)):=rfl;rw[←this];unfold okX;by_cases h1:x.2>24
     ·have h1': ¬x.2≤24:=by omega
      simp[h1,h1']
     have h1':x.2≤24:=by omega
     by_cases h2:m+1≤600
     ·have h3: ¬600<(m:Int)+1:=by omega
      cases okT x.1<;>simp[h1,h1',h2,h3]
     have h3:600<(m:Int)+1:=by omega
     simp[h1,h2,h3]
    rw[show 601-m=(601-(m+1))+1 by omega];simp only[run];rw[r0];by_cases h:m+1≤600∧okX x=true
    ·rw[if_pos h,if_pos h];rfl
    rw[if_neg h,if_neg h];rfl
   rw[e];by_cases h1:m+1≤600∧okX x=true
   ·rw[if_pos h1];have ih:=right_run hN l (m+1) h1.1 (fun y hy=>hq y (by simp[hy]))
    have e2:(m+(x::l).length≤600∧(x::l).all okX=true)↔(m+1+l.length≤600∧l.all okX=true):=by
     simp only[List.length_cons,List.all_cons,h1.2,Bool.true_and];rw[show m+(l.length+1)=m+1+l.length by omega]
    by_cases h2:m+1+l.length≤600∧l.all okX=true
    ·rw[if_pos h2]at ih;rw[if_pos (e2.2 h2)];obtain⟨n,hn⟩:=ih;exact⟨n,by rw[hn,List.length_cons,show m+1+l.length=m+(l.length+1) by omega]⟩
    rw[if_neg h2]at ih;rw[if_neg (fun h=>h2 (e2.1 h))];exact ih
   rw[if_neg h1,if_neg]
   ·exact⟨_,rfl⟩
   rintro⟨h2,h3⟩;simp only[List.length_cons,List.all_cons,Bool.and_eq_true]at h2 h3;exact h1 ⟨by omega,h3.1⟩
theorem right_code{N:Nat}{t:Nd}(hN:9300000000000000000≤N)(hc:cnt t<1000)(hq:NdQ t):
 F_27 N t.un.1 t.un.2.1.1 t.un.2.1.2.1 t.un.2.1.2.2.1 t.un.2.1.2.2.2 t.un.2.2.1 t.un.2.2.2.1 t.un.2.2.2.2.1 t.un.2.2.2.2.2=some (rtT t):=by
 unfold F_27 F_40 F_90;have e:=walk_run (yR N) _ t rfl 1 601 N (.inl 0) (by omega) (by omega) (by omega) (by omega);have r:=right_run hN (wk 1 t) 0 (by omega) (fun x hx=>wk_Q 1 t hq x hx);simp only[bind,Option.bind_some];rw[show(YS (σ1:=Int) (σ2:=Unit) fun x s=>F_89 N x.1 x.2 s)=yR N from rfl,show((601:Int))=((601:Nat):Int)from rfl,show((1:Int))=((1:Nat):Int)from rfl,e];unfold rtT;by_cases h:0+(wk 1 t).length≤600∧(wk 1 t).all okX=true
 ·rw[if_pos h]at r;obtain⟨n,hn⟩:=r;have hn:run (yR N) (wk 1 t) 601 (.inl 0)=_:=hn;rw[hn];have h1:(wk 1 t).length≤600:=by omega
  simp[h.2,h1]
 rw[if_neg h]at r;obtain⟨n,hn⟩:=r;have hn:run (yR N) (wk 1 t) 601 (.inl 0)=_:=hn;rw[hn];by_cases h1:(wk 1 t).length≤600
 ·have:(wk 1 t).all okX=false:=by
   cases hh:(wk 1 t).all okX with
   |false=>rfl
   |true=>exact absurd ⟨by omega,hh⟩ h
  simp[this]
 simp[h1]
def stp(x:Nd×Int):Nd×Int×Int:=(Nd.of (x.1.un.1,(x.1.un.2.1.1,x.1.un.2.1.2.1,x.1.un.2.1.2.2.1,x.1.un.2.1.2.2.2),[],x.1.un.2.2.2.1,x.1.un.2.2.2.2.1,x.1.un.2.2.2.2.2),x.2,((kd x.1).length:Int))
theorem walk_ref: ∀(c:Nat) (t:Nd),cnt t=c→ ∀(lv N:Nat) (acc:List (Nd×Int×Int)),cnt t+5≤N→cnt t<100000→lv≤25→acc.length≤601→
 F_33 N t.un.1 t.un.2.1.1 t.un.2.1.2.1 t.un.2.1.2.2.1 t.un.2.1.2.2.2 t.un.2.2.1 t.un.2.2.2.1 t.un.2.2.2.2.1 t.un.2.2.2.2.2 (lv:Int) acc=some (acc++((wk lv t).take (601-acc.length)).map stp):=by
 intro c
 induction c using Nat.strongRecOn with
 |ind c IH=>
   intro t hc lv N acc hN hb hlv ha;obtain⟨M,rfl⟩: ∃m,N=m+1:=⟨N-1,by omega⟩;have hcu:=cnt_un t;have hll:=cntL_len (kd t);rw[F_33];by_cases h6:acc.length=601
   ·have:(acc.length:Int)≥601:=by omega
    rw[if_pos (by simpa using this),h6];simp
   have: ¬(acc.length:Int)≥601:=by omega
   rw[if_neg (by simpa using this),app_eq (by simp;omega)];simp only[bind,Option.bind_some];have e0:601-acc.length=(600-acc.length)+1:=by omega
   rw[wk_un,e0,List.take_succ_cons,List.map_cons];have e1:(Nd.of (t.un.1,(t.un.2.1.1,t.un.2.1.2.1,t.un.2.1.2.2.1,t.un.2.1.2.2.2),[],t.un.2.2.2.1,t.un.2.2.2.2.1,t.un.2.2.2.2.2),(lv:Int),(t.un.2.2.1.length:Int))=stp (t,(lv:Int)):=rfl;rw[e1];generalize stp (t,(lv:Int))=y;by_cases h24:lv>24
   ·have:(lv:Int)>24:=by omega
    rw[if_pos (by simpa using this),if_pos h24];simp
   have: ¬(lv:Int)>24:=by omega
   rw[if_neg (by simpa using this),if_neg h24]
   have key: ∀(r i K:Nat) (acc:List (Nd×Int×Int)),i+r=(kd t).length→r<K→acc.length≤601→
    iterO K (fun s=>F_94 M (F_33 M) (kd t) (lv:Int) s.1 s.2) (acc,(i:Int))=some (.inl (acc++((wkL (lv+1) ((kd t).drop i)).take (601-acc.length)).map stp))∨
    iterO K (fun s=>F_94 M (F_33 M) (kd t) (lv:Int) s.1 s.2) (acc,(i:Int))=some (.inr (acc++((wkL (lv+1) ((kd t).drop i)).take (601-acc.length)).map stp)):=by
    intro r
    induction r with
    |zero=>
      intro i K acc hi hK ha;obtain⟨K,rfl⟩: ∃m,K=m+1:=⟨K-1,by omega⟩;rw[List.drop_eq_nil_of_le (by omega)];refine .inl ?_;simp only[iterO,F_94];rw[if_neg (by simp;omega)];simp[wkL]
    |succ r ih=>
      intro i K acc hi hK ha;obtain⟨K,rfl⟩: ∃m,K=m+1:=⟨K-1,by omega⟩;have hlt:i<(kd t).length:=by omega
      have hx:(kd t)[i]? =some (kd t)[i]:=List.getElem?_eq_getElem hlt;generalize(kd t)[i]=x at hx;have hm:=cnt_kid (List.mem_of_getElem? hx);by_cases h6:acc.length=601
      ·refine .inr ?_;have:(acc.length:Int)≥601:=by omega
       simp only[iterO,F_94];rw[if_pos (by simpa using hlt),idx_of hx];simp only[bind,Option.bind_some];rw[if_pos (by simpa using this),h6];simp
      have h6': ¬(acc.length:Int)≥601:=by omega
      have hw:w64 ((lv:Int)+1)=((lv+1:Nat):Int):=w64_succ (by omega);have e:=IH (cnt x) (by omega) x rfl (lv+1) M acc (by omega) (by omega) (by omega) ha
      have hs:F_94 M (F_33 M) (kd t) (lv:Int) acc (i:Int)=some (.inl (acc++((wk (lv+1) x).take (601-acc.length)).map stp,((i+1:Nat):Int))):=by
       unfold F_94;rw[if_pos (by simpa using hlt),idx_of hx];simp only[bind,Option.bind_some];rw[if_neg (by simpa using h6'),hw,e,w64_succ (by omega)];rfl
      have hl:(acc++((wk (lv+1) x).take (601-acc.length)).map stp).length=acc.length+min (601-acc.length) (wk (lv+1) x).length:=by simp
      have g:=ih (i+1) K (acc++((wk (lv+1) x).take (601-acc.length)).map stp) (by omega) (by omega) (by rw[hl];omega)
      have e3:acc++((wk (lv+1) x).take (601-acc.length)).map stp++((wkL (lv+1) ((kd t).drop (i+1))).take (601-(acc++((wk (lv+1) x).take (601-acc.length)).map stp).length)).map stp=acc++((wkL (lv+1) ((kd t).drop i)).take (601-acc.length)).map stp:=by
       rw[hl,wkL_drop hx,List.take_append,List.map_append,List.append_assoc]
       congr 4
       omega
      rw[e3]at g;simp only[iterO,hs];exact g
   have hl:(acc++ [y]).length=acc.length+1:=by simp
   have g:=key (kd t).length 0 M (acc++ [y]) (by omega) (by omega) (by omega);rw[List.drop_zero,hl,show 601-(acc.length+1)=600-acc.length by omega,show acc++ [y]++((wkL (lv+1) (kd t)).take (600-acc.length)).map stp=acc++y::((wkL (lv+1) (kd t)).take (600-acc.length)).map stp by simp]at g;rw[show((0:Int))=((0:Nat):Int)from rfl];rcases g with g|g<;>rw[g]<;>rfl
theorem right_ref{N:Nat}{t:Nd}(hN:9300000000000000000≤N)(hc:cnt t<1000):
 F_76 N t.un.1 t.un.2.1.1 t.un.2.1.2.1 t.un.2.1.2.2.1 t.un.2.1.2.2.2 t.un.2.2.1 t.un.2.2.2.1 t.un.2.2.2.2.1 t.un.2.2.2.2.2=some (rtT t):=by
 unfold F_76;rw[show((1:Int))=((1:Nat):Int)from rfl,walk_ref _ t rfl 1 N [] (by omega) (by omega) (by omega) (by simp)];simp only[bind,Option.bind_some,List.nil_append,List.length_nil,Nat.sub_zero]
 rw[loop_any (((wk 1 t).take 601).map stp) (fun y=>decide (y.2.1>24)|| !okB y.1.un.1 (([y.1.un.2.1.1,y.1.un.2.1.2.1,y.1.un.2.1.2.2.1,y.1.un.2.1.2.2.2]:List Int)== [0,0,0,0]) y.2.2.toNat y.1.un.2.2.2.1 y.1.un.2.2.2.2.1 (y.1.un.2.2.2.2.2.toList==ByteArray.empty.toList) (nmB (sl y.1.un.2.2.2.2.2))) false (by simp;omega) (fun i y hy=>by
  have hi:=lt_len hy
  have hi6:i<601:=by
   simp at hi;omega
  unfold F_244;rw[if_pos (by simpa using hi),idx_of hy];simp only[bind,Option.bind_some]
  have hn:y.2.2=((y.2.2.toNat:Nat):Int):=by
   have:=List.mem_of_getElem? hy;obtain⟨x,_,rfl⟩:=List.mem_map.1 this;simp[stp]
  rw[hn,node_ref hN,w64_succ (by omega)];rw[←hn];by_cases h:y.2.1>24
  ·simp[h]
  generalize okB y.1.un.1 (([y.1.un.2.1.1,y.1.un.2.1.2.1,y.1.un.2.1.2.2.1,y.1.un.2.1.2.2.2]:List Int)== [0,0,0,0]) y.2.2.toNat y.1.un.2.2.2.1 y.1.un.2.2.2.2.1 (y.1.un.2.2.2.2.2.toList==ByteArray.empty.toList) (nmB (sl y.1.un.2.2.2.2.2))=q;cases q<;>simp[h]) (by unfold F_244;simp)]
 rw[List.any_map]
 have e2:((fun y:Nd×Int×Int=>decide (y.2.1>24)|| !okB y.1.un.1 (([y.1.un.2.1.1,y.1.un.2.1.2.1,y.1.un.2.1.2.2.1,y.1.un.2.1.2.2.2]:List Int)== [0,0,0,0]) y.2.2.toNat y.1.un.2.2.2.1 y.1.un.2.2.2.2.1 (y.1.un.2.2.2.2.2.toList==ByteArray.empty.toList) (nmB (sl y.1.un.2.2.2.2.2)))∘stp)=fun x=> !okX x:=by
  funext x
  have e3:decide (x.2>24)= !decide (x.2≤24):=by
   rw[Bool.eq_iff_iff];simp
  unfold okX;rw[Bool.not_and,←e3];rfl
 rw[e2];unfold rtT
 have e4:((wk 1 t).take 601).any (fun x=> !okX x)= !((wk 1 t).take 601).all okX:=by
  rw[List.any_eq_not_all_not];simp
 rw[e4];by_cases h:(wk 1 t).length≤600
 ·rw[List.take_of_length_le (by omega)];have:((wk 1 t).length:Int)≤600:=by omega
  cases(wk 1 t).all okX<;>simp[h,this]
 have: ¬(min 601 (wk 1 t).length≤600):=by omega
 cases((wk 1 t).take 601).all okX<;>simp[h]<;>omega
open Go Go.Eng
set_option maxRecDepth 100000
def RT(lv:Nat)(t:Nd):Prop:= ∀x∈wk lv t,okX x=true
theorem RT.node{lv:Nat}{t:Nd}(h:RT lv t):lv≤24∧okT t=true:=by
 have:=h (t,(lv:Int)) (by rw[wk_un];simp);unfold okX at this;simp only[Bool.and_eq_true,decide_eq_true_eq]at this;exact⟨by omega,this.2⟩
theorem wkL_mem{lv:Nat}{x:Nd}: ∀{l:List Nd},x∈l→ ∀y∈wk lv x,y∈wkL lv l
 |z::l,h,y,hy=>by
   simp only[wkL];rcases List.mem_cons.1 h with rfl|h
   ·exact List.mem_append.2 (.inl hy)
   exact List.mem_append.2 (.inr (wkL_mem h y hy))
theorem RT.kid{lv:Nat}{t x:Nd}(h:RT lv t)(hx:x∈kd t):RT (lv+1) x:=fun y hy=>by
 have h24:=h.node.1;refine h y ?_;rw[wk_un,if_neg (by omega)];exact List.mem_cons_of_mem _ (wkL_mem hx y hy)
theorem RT.of{t:Nd}(h:rtT t=true):RT 1 t:=by
 unfold rtT at h;simp only[Bool.and_eq_true,List.all_eq_true]at h;exact h.2
abbrev kn(t:Nd):Int:=t.un.1
abbrev lo(t:Nd):Int:=t.un.2.2.2.1
abbrev hi(t:Nd):Int:=t.un.2.2.2.2.1
theorem ok_kind{t:Nd}(h:okT t=true):(kn t=1∧kd t= [])∨kn t=2∨(kn t=3∧2≤(kd t).length)∨
 (kn t=4∧(kd t).length=1∧0≤lo t∧lo t≤40∧(hi t= -1∨(lo t≤hi t∧1≤hi t∧hi t≤40)))∨(kn t=5∧kd t= []):=by
 unfold okT okB kindB at h;rw[Bool.and_eq_true]at h;have h:=h.2;simp only[beq_iff_eq]at h;split at h
 ·rename_i h1;exact .inl ⟨h1,List.eq_nil_of_length_eq_zero (by simpa using h)⟩
 split at h
 ·rename_i h1;exact .inr (.inl h1)
 split at h
 ·rename_i h1;exact .inr (.inr (.inl ⟨h1,by simpa using h⟩))
 split at h
 ·rename_i h1;simp only[Bool.and_eq_true,Bool.or_eq_true,beq_iff_eq,decide_eq_true_eq]at h;have h2:hi t= -1∨((lo t≤hi t∧1≤hi t)∧hi t≤40):=h.2;exact .inr (.inr (.inr (.inl ⟨h1,h.1.1.1,h.1.1.2,h.1.2,h2.imp id fun h=>⟨h.1.1,h.1.2,h.2⟩⟩)))
 simp only[Bool.and_eq_true,beq_iff_eq]at h;exact .inr (.inr (.inr (.inr ⟨h.1.1,List.eq_nil_of_length_eq_zero h.1.2⟩)))
def adj(k mn mx x:Int):Int:=if k=4 then(if mx= -1 then min (x*(mn+1)) 1048576 else min (x*mx) 1048576)else x
mutual
def wgt:Nd→Int
 | .mk k _ l mn mx _=>wgtL k mn mx 1 l
def wgtL:Int→Int→Int→Int→List Nd→Int
 |_,_,_,w,[]=>w
 |k,mn,mx,w,x::l=>wgtL k mn mx (min (w+adj k mn mx (wgt x)) 1048576) l
end
theorem wgt_un(t:Nd):wgt t=wgtL (kn t) (lo t) (hi t) 1 (kd t):=by
 cases t;simp only[wgt];rfl
theorem wgtL_drop{k mn mx w:Int}{l:List Nd}{i:Nat}{x:Nd}(h:l[i]? =some x):wgtL k mn mx w (l.drop i)=wgtL k mn mx (min (w+adj k mn mx (wgt x)) 1048576) (l.drop (i+1)):=by
 rw[List.drop_eq_getElem_cons (lt_len h)];simp only[wgtL];rw[(List.getElem?_eq_some_iff.1 h).2]
theorem mul_bd{a b:Int}(h1:0≤a)(h2:a≤1048576)(h3:0≤b)(h4:b≤41):0≤a*b∧a*b≤42991616:=by
 refine⟨Int.mul_nonneg h1 h3,?_⟩;have:=Int.mul_le_mul h2 h4 h3 (by omega);omega
structure Bd(k mn mx:Int):Prop where
 b:k=4→0≤mn∧mn≤40∧(mx= -1∨(1≤mx∧mx≤40))
theorem ok_bd{t:Nd}(h:okT t=true):Bd (kn t) (lo t) (hi t):=⟨fun h4=>by
 rcases ok_kind h with⟨h1,_⟩|h1|⟨h1,_⟩|⟨_,_,a,b,c⟩|⟨h1,_⟩
 ·omega
 ·omega
 ·omega
 ·exact⟨a,b,by omega⟩
 omega⟩
theorem adj_bd{k mn mx x:Int}(h:Bd k mn mx)(h1:1≤x)(h2:x≤1048576):0≤adj k mn mx x∧adj k mn mx x≤1048576:=by
 unfold adj;split
 ·rename_i h4;obtain⟨a,b,c⟩:=h.b h4;split
  ·have:=(mul_bd (a:=x) (b:=mn+1) (by omega) h2 (by omega) (by omega)).1;omega
  have:=(mul_bd (a:=x) (b:=mx) (by omega) h2 (by omega) (by omega)).1;omega
 omega
theorem wgtL_bd{k mn mx:Int}(h:Bd k mn mx): ∀(l:List Nd) (w:Int),(∀x∈l,1≤wgt x∧wgt x≤1048576)→1≤w→w≤1048576→1≤wgtL k mn mx w l∧wgtL k mn mx w l≤1048576
 | [],w,_,h1,h2=>by simp only[wgtL];omega
 |x::l,w,hx,h1,h2=>by
   simp only[wgtL];have:=hx x (by simp);have:=adj_bd h this.1 this.2;exact wgtL_bd h l _ (fun y hy=>hx y (by simp[hy])) (by omega) (by omega)
theorem wgt_bd: ∀(c:Nat) (t:Nd),cnt t=c→ ∀lv,RT lv t→1≤wgt t∧wgt t≤1048576:=by
 intro c
 induction c using Nat.strongRecOn with
 |ind c IH=>
   intro t hc lv h;rw[wgt_un];exact wgtL_bd (ok_bd h.node.2) _ _ (fun x hx=>IH (cnt x) (by have:=cnt_kid hx;omega) x rfl _ (h.kid hx)) (by omega) (by omega)
theorem cut_spec(N:Nat)(x:Int):F_124 N x=some (min x 1048576):=by
 unfold F_124;by_cases h:x>1048576
 ·rw[if_pos (by simpa using h)]
  congr 1;omega
 rw[if_neg (by simpa using h)]
 congr 1;omega
theorem weight_ref: ∀(c:Nat) (t:Nd),cnt t=c→ ∀(lv N:Nat),RT lv t→cnt t+5≤N→cnt t<100000→
 F_34 N t.un.1 t.un.2.1.1 t.un.2.1.2.1 t.un.2.1.2.2.1 t.un.2.1.2.2.2 t.un.2.2.1 t.un.2.2.2.1 t.un.2.2.2.2.1 t.un.2.2.2.2.2=some (wgt t):=by
 intro c
 induction c using Nat.strongRecOn with
 |ind c IH=>
   intro t hc lv N h hN hb;obtain⟨M,rfl⟩: ∃m,N=m+1:=⟨N-1,by omega⟩;have hcu:=cnt_un t;have hll:=cntL_len (kd t);have hbd:=ok_bd h.node.2;rw[F_34]
   have key: ∀(r i K:Nat) (w:Int),i+r=(kd t).length→r<K→1≤w→w≤1048576→
    iterO K (fun s=>F_123 M (F_34 M) (kn t) (kd t) (lo t) (hi t) s.1 s.2) ((i:Int),w)=some (wgtL (kn t) (lo t) (hi t) w ((kd t).drop i)):=by
    intro r
    induction r with
    |zero=>
      intro i K w hi_ hK h1 h2;obtain⟨K,rfl⟩: ∃m,K=m+1:=⟨K-1,by omega⟩;rw[List.drop_eq_nil_of_le (by omega)];simp only[iterO,F_123];rw[if_neg (by simp;omega)];simp[wgtL]
    |succ r ih=>
      intro i K w hi_ hK h1 h2;obtain⟨K,rfl⟩: ∃m,K=m+1:=⟨K-1,by omega⟩;have hlt:i<(kd t).length:=by omega
      have hx:(kd t)[i]? =some (kd t)[i]:=List.getElem?_eq_getElem hlt;generalize(kd t)[i]=x at hx;have hmem:=List.mem_of_getElem? hx;have hm:=cnt_kid hmem;have e:=IH (cnt x) (by omega) x rfl (lv+1) M (h.kid hmem) (by omega) (by omega);have hw:=wgt_bd _ x rfl _ (h.kid hmem);have ha:=adj_bd hbd hw.1 hw.2
      have hs:F_123 M (F_34 M) (kn t) (kd t) (lo t) (hi t) (i:Int) w=some (.inl (((i+1:Nat):Int),min (w+adj (kn t) (lo t) (hi t) (wgt x)) 1048576)):=by
       unfold F_123;rw[if_pos (by simpa using hlt),idx_of hx];simp only[bind,Option.bind_some];rw[e,w64_succ (by omega)];simp only[Option.bind_some,cut_spec];have fin: ∀z:Int,0≤z→z≤1048576→w64 (w+z)=w+z:=fun z h3 h4=>by rw[w64,wrap64]<;>omega
       by_cases h4:kn t=4
       ·obtain⟨a,b,c⟩:=hbd.b h4;have e4:(kn t==4)=true:=by simpa using h4
        rw[e4];by_cases h5:hi t= -1
        ·have e5:(hi t== -1)=true:=by simpa using h5
         have eq1:w64 (lo t+1)=lo t+1:=by rw[w64,wrap64]<;>omega
         have mb:=mul_bd (a:=wgt x) (b:=lo t+1) (by omega) hw.2 (by omega) (by omega);have eq2:w64 (wgt x*(lo t+1))=wgt x*(lo t+1):=by rw[w64,wrap64]<;>omega
         have ea:adj (kn t) (lo t) (hi t) (wgt x)=min (wgt x*(lo t+1)) 1048576:=by unfold adj;rw[if_pos h4,if_pos h5]
         rw[ea]at ha;simp only[e5,if_true,Option.bind_some,eq1,eq2,ea,fin _ ha.1 ha.2]
        have e5:(hi t== -1)=false:=by simpa using h5
        have mb:=mul_bd (a:=wgt x) (b:=hi t) (by omega) hw.2 (by omega) (by omega);have eq2:w64 (wgt x*hi t)=wgt x*hi t:=by rw[w64,wrap64]<;>omega
        have ea:adj (kn t) (lo t) (hi t) (wgt x)=min (wgt x*hi t) 1048576:=by unfold adj;rw[if_pos h4,if_neg h5]
        rw[ea]at ha;simp only[e5,if_true,Bool.false_eq_true,if_false,Option.bind_some,eq2,ea,fin _ ha.1 ha.2]
       have e4:(kn t==4)=false:=by simpa using h4
       have ea:adj (kn t) (lo t) (hi t) (wgt x)=wgt x:=by unfold adj;rw[if_neg h4]
       rw[ea]at ha;simp only[e4,Bool.false_eq_true,if_false,Option.bind_some,ea,fin _ ha.1 ha.2]
      simp only[iterO,hs];rw[wgtL_drop hx];exact ih (i+1) K _ (by omega) (by omega) (by omega) (by omega)
   have g:=key (kd t).length 0 M 1 (by omega) (by omega) (by omega) (by omega);rw[List.drop_zero,←wgt_un]at g;show(iterO M (fun s=>F_123 M (F_34 M) (kn t) (kd t) (lo t) (hi t) s.1 s.2) (((0:Nat):Int),1) >>= _)=_;rw[g];rfl
open Go Go.Eng
set_option maxRecDepth 100000
theorem or_tot{N:Nat}(hN:5≤N)(x1 x2 x3 x4 x5 x6 x7 x8:Int): ∃r,F_23 N x1 x2 x3 x4 x5 x6 x7 x8=some r:=by
 obtain⟨M,rfl⟩: ∃m,N=m+5:=⟨N-5,by omega⟩;unfold F_23
 have s: ∀(j:Nat) (a b c d:Int),j<4→ ∃e f g h,F_171 (M+5) x5 x6 x7 x8 a b c d (j:Int)=some (.inl (e,f,g,h,((j+1:Nat):Int))):=fun j a b c d hj=>by
  unfold F_171;rw[if_pos (by simpa using(show(j:Int)<4 by omega))];have h1:j<([a,b,c,d]:List Int).length:=hj;have h2:j<([x5,x6,x7,x8]:List Int).length:=hj;simp only[idx_nat h1,idx_nat h2,bind,Option.bind_some,setI_nat h1];rw[w64_succ (by omega)];exact⟨_,_,_,_,rfl⟩
 obtain⟨a1,b1,c1,d1,h1⟩:=s 0 x1 x2 x3 x4 (by omega);obtain⟨a2,b2,c2,d2,h2⟩:=s 1 a1 b1 c1 d1 (by omega);obtain⟨a3,b3,c3,d3,h3⟩:=s 2 a2 b2 c2 d2 (by omega);obtain⟨a4,b4,c4,d4,h4⟩:=s 3 a3 b3 c3 d3 (by omega);have h5:F_171 (M+5) x5 x6 x7 x8 a4 b4 c4 d4 ((4:Nat):Int)=some (.inr (a4,b4,c4,d4)):=rfl;rw[show((0:Int))=((0:Nat):Int)from rfl];simp only[iterO,h1,h2,h3,h4,h5];exact⟨_,rfl⟩
theorem times_tot{N:Nat}(a b:Int): ∃r,F_88 N a b=some r:=by
 unfold F_88;by_cases h:a>0
 ·have:nz a=some ():=by unfold nz;rw[if_neg (by omega)]
  rw[if_pos (by simpa using h),this];simp only[bind,Option.bind_some];split<;>exact⟨_,rfl⟩
 rw[if_neg (by simpa using h)];exact⟨_,rfl⟩
theorem behind_tot{N:Nat}(hN:5≤N)(x1 x2 x18 x19:Bool)(x3 x4 x5 x6 x7 x8 x9 x10 x11 x12 x13 x14 x15 x16 x17:Int)(x20 x21 x22 x23 x24 x25 x26 x27 x28 x29 x30 x31 x32 x33 x34:Int): ∃r,F_228 N x1 x2 x3 x4 x5 x6 x7 x8 x9 x10 x11 x12 x13 x14 x15 x16 x17 x18 x19 x20 x21 x22 x23 x24 x25 x26 x27 x28 x29 x30 x31 x32 x33 x34=some r:=by
 have o:=or_tot hN;unfold F_228 F_70 F_63;simp only[bind,Option.bind_some];obtain⟨⟨p1,p2,p3,p4⟩,e1⟩:=o x14 x15 x16 x17 x31 x32 x33 x34;obtain⟨⟨q1,q2,q3,q4⟩,e2⟩:=o x6 x7 x8 x9 x23 x24 x25 x26;obtain⟨⟨r1,r2,r3,r4⟩,e3⟩:=o x27 x28 x29 x30 x10 x11 x12 x13;rw[e1,e2,e3];cases x1<;>cases x18<;>cases x2<;>cases x19<;>exact⟨_,rfl⟩
theorem orF_tot{N:Nat}(hN:5≤N)(x1 x2 x18 x19:Bool)(x3 x4 x5 x6 x7 x8 x9 x10 x11 x12 x13 x14 x15 x16 x17:Int)(x20 x21 x22 x23 x24 x25 x26 x27 x28 x29 x30 x31 x32 x33 x34:Int): ∃r,F_229 N x1 x2 x3 x4 x5 x6 x7 x8 x9 x10 x11 x12 x13 x14 x15 x16 x17 x18 x19 x20 x21 x22 x23 x24 x25 x26 x27 x28 x29 x30 x31 x32 x33 x34=some r:=by
 have o:=or_tot hN;unfold F_229;simp only[bind];obtain⟨⟨p1,p2,p3,p4⟩,e1⟩:=o x14 x15 x16 x17 x31 x32 x33 x34;obtain⟨⟨q1,q2,q3,q4⟩,e2⟩:=o x6 x7 x8 x9 x23 x24 x25 x26;obtain⟨⟨r1,r2,r3,r4⟩,e3⟩:=o x10 x11 x12 x13 x27 x28 x29 x30;rw[e1,e2,e3];cases x1<;>cases x18<;>cases x2<;>exact⟨_,rfl⟩
theorem again_tot{N:Nat}(x1 x2:Bool)(x3 x4 x5 x6 x7 x8 x9 x10 x11 x12 x13 x14 x15 x16 x17 x18 x19:Int): ∃r,F_227 N x1 x2 x3 x4 x5 x6 x7 x8 x9 x10 x11 x12 x13 x14 x15 x16 x17 x18 x19=some r:=by
 unfold F_227 F_173 F_70;obtain⟨a,e1⟩:=times_tot (N:=N) x3 x18;obtain⟨b,e2⟩:=times_tot (N:=N) x4 x19;rw[e1,e2];simp only[bind,Option.bind_some];cases x1
 ·cases x2<;>cases x19==(-1)<;>cases decide (x4>0)<;>exact⟨_,rfl⟩
 cases x18==0<;>exact⟨_,rfl⟩
open Go Go.Eng
set_option maxRecDepth 100000
theorem l1_tot{M:Nat}(hM:5≤M)(lst:List (Bool×Bool×Int×Int×Int×(Int×Int×Int×Int)×(Int×Int×Int×Int)×(Int×Int×Int×Int)))(hl:lst.length<M)(hl2:lst.length<4294967296)(s0:Bool×Bool×Int×Int×Int×Int×Int×Int×Int×Int×Int×Int×Int×Int×Int×Int): ∃r,iterO M (fun s:Int×Bool×Bool×Int×Int×Int×Int×Int×Int×Int×Int×Int×Int×Int×Int×Int×Int=>F_174 M lst s.1 s.2.1 s.2.2.1 s.2.2.2.1 s.2.2.2.2.1 s.2.2.2.2.2.1 s.2.2.2.2.2.2.1 s.2.2.2.2.2.2.2.1 s.2.2.2.2.2.2.2.2.1 s.2.2.2.2.2.2.2.2.2.1 s.2.2.2.2.2.2.2.2.2.2.1 s.2.2.2.2.2.2.2.2.2.2.2.1 s.2.2.2.2.2.2.2.2.2.2.2.2.1 s.2.2.2.2.2.2.2.2.2.2.2.2.2.1 s.2.2.2.2.2.2.2.2.2.2.2.2.2.2.1 s.2.2.2.2.2.2.2.2.2.2.2.2.2.2.2.1 s.2.2.2.2.2.2.2.2.2.2.2.2.2.2.2.2) (0,s0)=some r:=by
 obtain⟨r,h,_⟩:=loop_inv (f:=fun s:Int×Bool×Bool×Int×Int×Int×Int×Int×Int×Int×Int×Int×Int×Int×Int×Int×Int=>F_174 M lst s.1 s.2.1 s.2.2.1 s.2.2.2.1 s.2.2.2.2.1 s.2.2.2.2.2.1 s.2.2.2.2.2.2.1 s.2.2.2.2.2.2.2.1 s.2.2.2.2.2.2.2.2.1 s.2.2.2.2.2.2.2.2.2.1 s.2.2.2.2.2.2.2.2.2.2.1 s.2.2.2.2.2.2.2.2.2.2.2.1 s.2.2.2.2.2.2.2.2.2.2.2.2.1 s.2.2.2.2.2.2.2.2.2.2.2.2.2.1 s.2.2.2.2.2.2.2.2.2.2.2.2.2.2.1 s.2.2.2.2.2.2.2.2.2.2.2.2.2.2.2.1 s.2.2.2.2.2.2.2.2.2.2.2.2.2.2.2.2) (fun i (s:Bool×Bool×Int×Int×Int×Int×Int×Int×Int×Int×Int×Int×Int×Int×Int×Int)=>((i:Int),s)) id lst (fun _ _=>True) (N:=M) (s:=s0) hl trivial (fun i y s hx _=>by
  have hi:=lt_len hx;obtain⟨b1,b2,a3,a4,a5,a6,a7,a8,a9,a10,a11,a12,a13,a14,a15,a16⟩:=s;obtain⟨y1,y2,y3,y4,y5,⟨y6,y7,y8,y9⟩,⟨y10,y11,y12,y13⟩,⟨y14,y15,y16,y17⟩⟩:=y;obtain⟨r,e⟩:=behind_tot hM b1 b2 y1 y2 a3 a4 0 a5 a6 a7 a8 a9 a10 a11 a12 a13 a14 a15 a16 y3 y4 y5 y6 y7 y8 y9 y10 y11 y12 y13 y14 y15 y16 y17;unfold F_174;rw[if_pos (by simpa using hi),idx_of hx];simp only[bind,Option.bind_some];rw[e,w64_succ (by omega)];exact⟨r,rfl,trivial⟩) (fun s _=>by unfold F_174;simp)
 exact⟨r,h⟩
theorem l2_tot{M:Nat}(hM:5≤M)(lst:List (Bool×Bool×Int×Int×Int×(Int×Int×Int×Int)×(Int×Int×Int×Int)×(Int×Int×Int×Int)))(hl:lst.length<M)(hl2:lst.length<4294967296)(s0:Bool×Bool×Int×Int×Int×Int×Int×Int×Int×Int×Int×Int×Int×Int×Int×Int×Int): ∃r,iterO M (fun s:Int×Bool×Bool×Int×Int×Int×Int×Int×Int×Int×Int×Int×Int×Int×Int×Int×Int×Int=>F_175 M lst s.1 s.2.1 s.2.2.1 s.2.2.2.1 s.2.2.2.2.1 s.2.2.2.2.2.1 s.2.2.2.2.2.2.1 s.2.2.2.2.2.2.2.1 s.2.2.2.2.2.2.2.2.1 s.2.2.2.2.2.2.2.2.2.1 s.2.2.2.2.2.2.2.2.2.2.1 s.2.2.2.2.2.2.2.2.2.2.2.1 s.2.2.2.2.2.2.2.2.2.2.2.2.1 s.2.2.2.2.2.2.2.2.2.2.2.2.2.1 s.2.2.2.2.2.2.2.2.2.2.2.2.2.2.1 s.2.2.2.2.2.2.2.2.2.2.2.2.2.2.2.1 s.2.2.2.2.2.2.2.2.2.2.2.2.2.2.2.2.1 s.2.2.2.2.2.2.2.2.2.2.2.2.2.2.2.2.2) (0,s0)=some r:=by
 obtain⟨r,h,_⟩:=loop_inv (f:=fun s:Int×Bool×Bool×Int×Int×Int×Int×Int×Int×Int×Int×Int×Int×Int×Int×Int×Int×Int=>F_175 M lst s.1 s.2.1 s.2.2.1 s.2.2.2.1 s.2.2.2.2.1 s.2.2.2.2.2.1 s.2.2.2.2.2.2.1 s.2.2.2.2.2.2.2.1 s.2.2.2.2.2.2.2.2.1 s.2.2.2.2.2.2.2.2.2.1 s.2.2.2.2.2.2.2.2.2.2.1 s.2.2.2.2.2.2.2.2.2.2.2.1 s.2.2.2.2.2.2.2.2.2.2.2.2.1 s.2.2.2.2.2.2.2.2.2.2.2.2.2.1 s.2.2.2.2.2.2.2.2.2.2.2.2.2.2.1 s.2.2.2.2.2.2.2.2.2.2.2.2.2.2.2.1 s.2.2.2.2.2.2.2.2.2.2.2.2.2.2.2.2.1 s.2.2.2.2.2.2.2.2.2.2.2.2.2.2.2.2.2) (fun i (s:Bool×Bool×Int×Int×Int×Int×Int×Int×Int×Int×Int×Int×Int×Int×Int×Int×Int)=>((i:Int),s)) id lst (fun _ _=>True) (N:=M) (s:=s0) hl trivial (fun i y s hx _=>by
  have hi:=lt_len hx;obtain⟨b1,b2,a3,a4,a5,a6,a7,a8,a9,a10,a11,a12,a13,a14,a15,a16,a17⟩:=s;obtain⟨y1,y2,y3,y4,y5,⟨y6,y7,y8,y9⟩,⟨y10,y11,y12,y13⟩,⟨y14,y15,y16,y17⟩⟩:=y;obtain⟨r,e⟩:=orF_tot hM b1 b2 y1 y2 a3 a4 a5 a6 a7 a8 a9 a10 a11 a12 a13 a14 a15 a16 a17 y3 y4 y5 y6 y7 y8 y9 y10 y11 y12 y13 y14 y15 y16 y17;unfold F_175;rw[if_pos (by simpa using hi),idx_of hx];simp only[bind,Option.bind_some];rw[e,w64_succ (by omega)];exact⟨r,rfl,trivial⟩) (fun s _=>by unfold F_175;simp)
 exact⟨r,h⟩
theorem wgtL_ne{k mn mx:Int}(h:k≠4): ∀(l:List Nd) (w:Int),wgtL k mn mx w l=wgtL 0 0 0 w l
 | [],w=>by simp only[wgtL]
 |x::l,w=>by
   simp only[wgtL];have e1:adj k mn mx (wgt x)=wgt x:=by unfold adj;rw[if_neg h]
   have e2:adj 0 0 0 (wgt x)=wgt x:=rfl;rw[e1,e2];exact wgtL_ne h l _
theorem imin_min(a b:Int):imin a b=min a b:=by
 unfold imin;split<;>omega
theorem times_spec{N:Nat}{a n:Int}(h1:1≤a)(h2:a≤1048576)(h3:0≤n)(h4:n≤41):F_88 N a n=some (min (a*n) 1048576):=by
 have mb:=mul_bd (a:=a) (b:=n) (by omega) h2 h3 h4;have ew:w64 (a*n)=a*n:=by rw[w64,wrap64]<;>omega
 have hq:(1048576:Int).tdiv a=1048576/a:=Int.tdiv_eq_ediv_of_nonneg (by omega);have hq0:0≤(1048576:Int)/a:=Int.ediv_nonneg (by omega) (by omega);have hq1:(1048576:Int)/a≤1048576:=Int.ediv_le_self _ (by omega)
 have hq2:(1048576:Int)<a*(1048576/a+1):=by
  have:=Int.lt_mul_ediv_self_add (x:=1048576) (k:=a) (by omega);rw[Int.mul_add,Int.mul_one];omega
 unfold F_88;have hn:nz a=some ():=by unfold nz;rw[if_neg (by omega)]
 rw[if_pos (by simpa using(show a>0 by omega)),hn];simp only[bind,Option.bind_some,hq];rw[show w64 ((1048576:Int)/a)=1048576/a by rw[w64,wrap64]<;>omega];by_cases c:n>1048576/a
 ·rw[if_pos (by simpa using c)];have:a*(1048576/a+1)≤a*n:=Int.mul_le_mul_of_nonneg_left (by omega) (by omega)
  congr 1
  omega
 rw[if_neg (by simpa using c),ew,imin_min]
set_option maxHeartbeats 1000000 in
theorem known_spec: ∀(c:Nat) (t:Nd),cnt t=c→ ∀(lv N:Nat),RT lv t→cnt t+10≤N→cnt t<100000→
 ∃r,F_15 N t.un.1 t.un.2.1.1 t.un.2.1.2.1 t.un.2.1.2.2.1 t.un.2.1.2.2.2 t.un.2.2.1 t.un.2.2.2.1 t.un.2.2.2.2.1 t.un.2.2.2.2.2=some r∧r.2.2.2.2.1=wgt t:=by
 intro c
 induction c using Nat.strongRecOn with
 |ind c IH=>
   intro t hc lv N h hN hb;obtain⟨M,rfl⟩: ∃m,N=m+1:=⟨N-1,by omega⟩;have hcu:=cnt_un t;have hll:=cntL_len (kd t);have hbd:=ok_bd h.node.2;have hkw: ∀x∈kd t,1≤wgt x∧wgt x≤1048576:=fun x hx=>wgt_bd _ x rfl _ (h.kid hx);rw[F_15]
   have key: ∀(r i K:Nat) (lst:List (Bool×Bool×Int×Int×Int×(Int×Int×Int×Int)×(Int×Int×Int×Int)×(Int×Int×Int×Int))) (w:Int),i+r=(kd t).length→r<K→lst.length=i→1≤w→w≤1048576→(∀(j:Nat) (x:Nd) (y:(Bool×Bool×Int×Int×Int×(Int×Int×Int×Int)×(Int×Int×Int×Int)×(Int×Int×Int×Int))),(kd t)[j]? =some x→lst[j]? =some y→y.2.2.2.2.1=wgt x)→
    ∃lst',iterO K (fun s=>F_142 M (F_15 M) (kd t) s.1 s.2.1 s.2.2) ((i:Int),lst,w)=some (lst',wgtL 0 0 0 w ((kd t).drop i))∧lst'.length=(kd t).length∧ ∀(j:Nat) (x:Nd) (y:(Bool×Bool×Int×Int×Int×(Int×Int×Int×Int)×(Int×Int×Int×Int)×(Int×Int×Int×Int))),(kd t)[j]? =some x→lst'[j]? =some y→y.2.2.2.2.1=wgt x:=by
    intro r
    induction r with
    |zero=>
      intro i K lst w hi_ hK hl h1 h2 hp;obtain⟨K,rfl⟩: ∃m,K=m+1:=⟨K-1,by omega⟩;rw[List.drop_eq_nil_of_le (by omega)];refine⟨lst,?_,by omega,hp⟩;simp only[iterO,F_142];rw[if_neg (by simp;omega)];simp[wgtL]
    |succ r ih=>
      intro i K lst w hi_ hK hl h1 h2 hp;obtain⟨K,rfl⟩: ∃m,K=m+1:=⟨K-1,by omega⟩;have hlt:i<(kd t).length:=by omega
      have hx:(kd t)[i]? =some (kd t)[i]:=List.getElem?_eq_getElem hlt;generalize(kd t)[i]=x at hx;have hmem:=List.mem_of_getElem? hx;have hm:=cnt_kid hmem;obtain⟨⟨f1,f2,f3,f4,f5,f6,f7,f8,f9,f10,f11,f12,f13,f14,f15,f16,f17⟩,e,ew⟩:=IH (cnt x) (by omega) x rfl (lv+1) M (h.kid hmem) (by omega) (by omega);simp only at ew;have hw:=hkw x hmem
      have hs:F_142 M (F_15 M) (kd t) (i:Int) lst w=some (.inl (((i+1:Nat):Int),lst++ [(f1,f2,f3,f4,f5,(f6,f7,f8,f9),(f10,f11,f12,f13),(f14,f15,f16,f17))],min (w+wgt x) 1048576)):=by
       unfold F_142;rw[if_pos (by simpa using hlt),idx_of hx];simp only[bind,Option.bind_some];rw[e,w64_succ (by omega)];simp only[Option.bind_some];rw[app_eq (by simp;omega)];simp only[Option.bind_some,F_63];rw[ew,imin_min,show w64 (w+wgt x)=w+wgt x by rw[w64,wrap64]<;>omega]
      obtain⟨lst',g1,g2,g3⟩:=ih (i+1) K (lst++ [(f1,f2,f3,f4,f5,(f6,f7,f8,f9),(f10,f11,f12,f13),(f14,f15,f16,f17))]) (min (w+wgt x) 1048576) (by omega) (by omega) (by simp[hl]) (by omega) (by omega) (fun j x' y hj hy=>by
       by_cases c:j<lst.length
       ·rw[List.getElem?_append_left c]at hy;exact hp j x' y hj hy
       have:=lt_len hy;simp at this;obtain rfl:j=i:=by omega
       rw[List.getElem?_append_right (by omega),hl,Nat.sub_self]at hy;simp only[List.getElem?_cons_zero,Option.some.injEq]at hy;rw[hx]at hj;obtain rfl:=Option.some.inj hj;rw[←hy];exact ew)
      refine⟨lst',?_,g2,g3⟩;simp only[iterO,hs];rw[wgtL_drop hx];exact g1
   obtain⟨lst,g,hl,hp⟩:=key (kd t).length 0 M [] 1 (by omega) (by omega) rfl (by omega) (by omega) (fun j x y _ hy=>by simp at hy);rw[List.drop_zero]at g;have g:iterO M (fun s=>F_142 M (F_15 M) (kd t) s.1 s.2.1 s.2.2) (0,[],1)=some (lst,wgtL 0 0 0 1 (kd t)):=g;rw[g];simp only[bind,Option.bind_some];have hwne:kn t≠4→wgtL 0 0 0 1 (kd t)=wgt t:=fun hne=>by rw[wgt_un,wgtL_ne hne]
   generalize wgtL 0 0 0 1 (kd t)=W at hwne;rcases ok_kind h.node.2 with⟨k1,_⟩|k2|⟨k3,n3⟩|⟨k4,n4,a,b,c⟩|⟨k5,_⟩
   ·have e1:(t.un.1==1)=true:=by simpa using k1
    have hW:=hwne (by omega);rw[if_pos e1];unfold F_170 F_70;simp only[Option.bind_some];split<;>exact⟨_,rfl,hW⟩
   ·have e1: ¬(t.un.1==1)=true:=by show¬(kn t==1)=true;rw[k2];decide
    have e2:(t.un.1==2)=true:=by simpa using k2
    have hW:=hwne (by omega);rw[if_neg e1,if_pos e2];unfold F_173;simp only[Option.bind_some];obtain⟨⟨r1,r2,r3,r4,r5,r6,r7,r8,r9,r10,r11,r12,r13,r14,r15,r16⟩,er⟩:=l1_tot (M:=M) (by omega) lst (by omega) (by omega) (false,true,0,0,0,0,0,0,0,0,0,0,0,0,0,0);rw[er];exact⟨_,rfl,hW⟩
   ·have e1: ¬(t.un.1==1)=true:=by show¬(kn t==1)=true;rw[k3];decide
    have e2: ¬(t.un.1==2)=true:=by show¬(kn t==2)=true;rw[k3];decide
    have e3:(t.un.1==3)=true:=by simpa using k3
    have hW:=hwne (by omega);rw[if_neg e1,if_neg e2,if_pos e3];have h0:0<lst.length:=by omega
    have i0:idx lst 0=some lst[0]:=idx_nat h0
    have s0:slc lst 1 (lst.length:Int)=some (lst.drop 1):=by
     unfold slc;rw[if_pos (by omega)];simp
    rw[i0];simp only[Option.bind_some];rw[s0];simp only[Option.bind_some];obtain⟨⟨r1,r2,r3,r4,r5,r6,r7,r8,r9,r10,r11,r12,r13,r14,r15,r16,r17⟩,er⟩:=l2_tot (M:=M) (by omega) (lst.drop 1) (by simp;omega) (by simp;omega) (lst[0].1,lst[0].2.1,lst[0].2.2.1,lst[0].2.2.2.1,lst[0].2.2.2.2.1,lst[0].2.2.2.2.2.1.1,lst[0].2.2.2.2.2.1.2.1,lst[0].2.2.2.2.2.1.2.2.1,lst[0].2.2.2.2.2.1.2.2.2,lst[0].2.2.2.2.2.2.1.1,lst[0].2.2.2.2.2.2.1.2.1,lst[0].2.2.2.2.2.2.1.2.2.1,lst[0].2.2.2.2.2.2.1.2.2.2,lst[0].2.2.2.2.2.2.2.1,lst[0].2.2.2.2.2.2.2.2.1,lst[0].2.2.2.2.2.2.2.2.2.1,lst[0].2.2.2.2.2.2.2.2.2.2);rw[er];exact⟨_,rfl,hW⟩
   ·have e1: ¬(t.un.1==1)=true:=by show¬(kn t==1)=true;rw[k4];decide
    have e2: ¬(t.un.1==2)=true:=by show¬(kn t==2)=true;rw[k4];decide
    have e3: ¬(t.un.1==3)=true:=by show¬(kn t==3)=true;rw[k4];decide
    have e4:(t.un.1==4)=true:=by simpa using k4
    rw[if_neg e1,if_neg e2,if_neg e3,if_pos e4];have h0:0<lst.length:=by omega
    have i0:idx lst 0=some lst[0]:=idx_nat h0
    obtain⟨x,hz⟩: ∃z,kd t= [z]:=by
     match hk:kd t,n4 with
     | [z],_=>exact⟨z,rfl⟩
    have hx:(kd t)[0]? =some x:=by rw[hz];rfl
    have hy:lst[0]? =some lst[0]:=List.getElem?_eq_getElem h0;have hwy:=hp 0 _ _ hx hy;have hkx:=hkw _ (List.mem_of_getElem? hx)
    have hwt:wgt t=min (1+adj (kn t) (lo t) (hi t) (wgt x)) 1048576:=by
     rw[wgt_un,hz];simp only[wgtL]
    rw[i0];simp only[Option.bind_some];obtain⟨⟨r1,r2,r3,r4,r5,r6,r7,r8,r9,r10,r11,r12,r13,r14,r15,r16,r17⟩,er⟩:=again_tot (N:=M) lst[0].1 lst[0].2.1 lst[0].2.2.1 lst[0].2.2.2.1 lst[0].2.2.2.2.1 lst[0].2.2.2.2.2.1.1 lst[0].2.2.2.2.2.1.2.1 lst[0].2.2.2.2.2.1.2.2.1 lst[0].2.2.2.2.2.1.2.2.2 lst[0].2.2.2.2.2.2.1.1 lst[0].2.2.2.2.2.2.1.2.1 lst[0].2.2.2.2.2.2.1.2.2.1 lst[0].2.2.2.2.2.2.1.2.2.2 lst[0].2.2.2.2.2.2.2.1 lst[0].2.2.2.2.2.2.2.2.1 lst[0].2.2.2.2.2.2.2.2.2.1 lst[0].2.2.2.2.2.2.2.2.2.2 t.un.2.2.2.1 t.un.2.2.2.2.1;rw[er];simp only[Option.bind_some];rw[hwy];unfold F_63
    have fin: ∀z:Int,0≤z→z≤1048576→imin (w64 (1+z)) 1048576=min (1+z) 1048576:=fun z h3 h4=>by
     rw[imin_min,show w64 (1+z)=1+z by rw[w64,wrap64]<;>omega]
    have ha:=adj_bd hbd hkx.1 hkx.2;by_cases h5:hi t= -1
    ·have e5:(t.un.2.2.2.2.1== -1)=true:=by simpa using h5
     have eq1:w64 (t.un.2.2.2.1+1)=lo t+1:=by
      show w64 (lo t+1)=_;rw[w64,wrap64]<;>omega
     rw[if_pos e5,eq1];simp only[Option.bind_some];rw[times_spec hkx.1 hkx.2 (by omega) (by omega)];have ea:adj (kn t) (lo t) (hi t) (wgt x)=min (wgt x*(lo t+1)) 1048576:=by unfold adj;rw[if_pos k4,if_pos h5]
     rw[ea]at ha hwt;refine⟨_,rfl,?_⟩;exact(fin _ ha.1 ha.2).trans hwt.symm
    have e5: ¬(t.un.2.2.2.2.1== -1)=true:=by simpa using h5
    rw[if_neg e5];simp only[Option.bind_some];rw[times_spec hkx.1 hkx.2 (show 0≤hi t by omega) (show hi t≤41 by omega)];have ea:adj (kn t) (lo t) (hi t) (wgt x)=min (wgt x*hi t) 1048576:=by unfold adj;rw[if_pos k4,if_neg h5]
    rw[ea]at ha hwt;refine⟨_,rfl,?_⟩;exact(fin _ ha.1 ha.2).trans hwt.symm
   have e1: ¬(t.un.1==1)=true:=by show¬(kn t==1)=true;rw[k5];decide
   have e2: ¬(t.un.1==2)=true:=by show¬(kn t==2)=true;rw[k5];decide
   have e3: ¬(t.un.1==3)=true:=by show¬(kn t==3)=true;rw[k5];decide
   have e4: ¬(t.un.1==4)=true:=by show¬(kn t==4)=true;rw[k5];decide
   have hW:=hwne (by omega);rw[if_neg e1,if_neg e2,if_neg e3,if_neg e4];exact⟨_,rfl,hW⟩
theorem weight_code{N:Nat}{t:Nd}(hN:9300000000000000000≤N)(hc:cnt t<1000)(hq:NdQ t)(h:rtT t=true):
 F_141 N t.un.1 t.un.2.1.1 t.un.2.1.2.1 t.un.2.1.2.2.1 t.un.2.1.2.2.2 t.un.2.2.1 t.un.2.2.2.1 t.un.2.2.2.2.1 t.un.2.2.2.2.2=some (wgt t):=by
 unfold F_141 F_256;obtain⟨⟨r1,r2,r3,r4,r5,r6,r7,r8,r9,r10,r11,r12,r13,r14,r15,r16,r17⟩,e,ew⟩:=known_spec _ t rfl 1 N (RT.of h) (by omega) (by omega);rw[right_code hN hc hq,h,e];simp only at ew;rw[←ew];rfl
open Go Go.Eng
set_option maxRecDepth 100000
def sumF:List Stt→Nat
 | []=>0
 |s::l=>s.1.length+sumF l
theorem sumF_app: ∀(a b:List Stt),sumF (a++b)=sumF a+sumF b
 | [],b=>by simp[sumF]
 |s::a,b=>by
   simp only[List.cons_append,sumF];rw[sumF_app a b];omega
theorem sumF_set: ∀(S:List Stt) (f:Nat) (x y:Stt),S[f]? =some x→sumF (S.set f y)+x.1.length=sumF S+y.1.length
 | [],f,x,y,h=>by simp at h
 |s::S,0,x,y,h=>by
   simp at h;subst h;simp only[List.set_cons_zero,sumF];omega
 |s::S,f+1,x,y,h=>by
   have:=sumF_set S f x y (by simpa using h);simp only[List.set_cons_succ,sumF];omega
theorem sumF_get: ∀{S:List Stt} {f:Nat} {x:Stt},S[f]? =some x→x.1.length≤sumF S
 | [],f,x,h=>by simp at h
 |s::S,0,x,h=>by
   simp at h;subst h;simp only[sumF];omega
 |s::S,f+1,x,h=>by
   have:=sumF_get (S:=S) (f:=f) (by simpa using h);simp only[sumF];omega
structure SO(n:Int)(s:Stt):Prop where
 to: -1≤s.2.2.1∧s.2.2.1<n
 set0:s.2.2.1= -1→s.2.1=(0,0,0,0)
 rul: -1≤s.2.2.2∧s.2.2.2≤47
 free: ∀x∈s.1,0≤x∧x<n
theorem SO.mono{n m:Int}{s:Stt}(h:SO n s)(hm:n≤m):SO m s:=
 ⟨by have:=h.to;omega,h.set0,h.rul,fun x hx=>by have:=h.free x hx;omega⟩
structure MI(S:List Stt):Prop where
 n:S.length≤4000
 s: ∀s∈S,SO S.length s
 f:sumF S≤1000000+4*S.length
def er(b:Bool):Int:=if b then 2 else 0
theorem eOk_er(b:Bool):eOk errIds (er b)=b:=by cases b<;>rfl
abbrev nw:Stt:=([],(((0:Int),(0:Int),(0:Int),(0:Int)),((-1):Int),((-1):Int)))
theorem SO.nw{n:Int}(h:0≤n):SO n nw:=⟨by simp;omega,fun _=>rfl,by simp,fun x hx=>by simp at hx⟩
def mkS(S:List Stt)(b:Bool):List Stt×Bool×Int:=if 4000≤S.length then(S,true,0)else(S++ [nw],b,(S.length:Int))
theorem state_code(N:Nat)(S:List Stt)(E:List Int)(b:Bool):F_42 N S E (er b)=some ((mkS S b).1,E,er (mkS S b).2.1,(mkS S b).2.2):=by
 unfold F_42 mkS;by_cases h:4000≤S.length
 ·have:(S.length:Int)≥4000:=by omega
  rw[if_pos (by simpa using this),if_pos h];rfl
 have: ¬(S.length:Int)≥4000:=by omega
 rw[if_neg (by simpa using this),if_neg h,app_eq (by simp;omega)];simp only[bind,Option.bind_some];rw[show w64 (((S++ [nw]).length:Int)-1)=(S.length:Int) by rw[w64,wrap64]<;>simp<;>omega]
theorem state_ref(N:Nat)(S:List Stt)(E:List Int)(b:Bool):F_29 N S E b=some ((mkS S b).1,E,(mkS S b).2):=by
 unfold F_29 mkS;by_cases h:4000≤S.length
 ·have:(S.length:Int)≥4000:=by omega
  rw[if_pos (by simpa using this),if_pos h]
 have: ¬(S.length:Int)≥4000:=by omega
 rw[if_neg (by simpa using this),if_neg h,app_eq (by simp;omega)];simp only[bind,Option.bind_some];rw[show w64 (((S++ [nw]).length:Int)-1)=(S.length:Int) by rw[w64,wrap64]<;>simp<;>omega]
structure PS(c:Nat)(S:List Stt)(b:Bool)(S':List Stt)(b':Bool)(e:Int):Prop where
 s0:sumF S≤1000000+4*S.length
 mi:MI S'
 len:S.length≤S'.length
 g:sumF S'+4*S.length≤sumF S+4*S'.length
 ok:b'=false→b=false∧0≤e∧e<S'.length∧sumF S'+4*S.length+c≤sumF S+4*S'.length
theorem mkS_ps{S:List Stt}(b:Bool)(h:MI S):PS 4 S b (mkS S b).1 (mkS S b).2.1 (mkS S b).2.2:=by
 by_cases c:4000≤S.length
 ·have e:mkS S b=(S,true,0):=by unfold mkS;rw[if_pos c]
  rw[e];exact⟨h.f,h,Nat.le_refl _,Nat.le_refl _,fun hb=>by simp at hb⟩
 have e:mkS S b=(S++ [nw],b,(S.length:Int)):=by unfold mkS;rw[if_neg c]
 have hl:(S++ [nw]).length=S.length+1:=by simp
 have hs:sumF (S++ [nw])=sumF S:=by rw[sumF_app];rfl
 have hf:=h.f;rw[e];show PS 4 S b (S++ [nw]) b (S.length:Int);refine⟨hf,⟨by omega,fun s hs=>?_,by omega⟩,by omega,by omega,fun hb=>⟨hb,by omega,by omega,by omega⟩⟩;rcases List.mem_append.1 hs with hs|hs
 ·exact(h.s s hs).mono (by omega)
 simp only[List.mem_singleton]at hs;subst hs;exact .nw (by omega)
def frS(S:List Stt)(b:Bool)(f:Int)(l:List Int):List Stt:=if b then S else match S[f.toNat]? with|some x=>S.set f.toNat (x.1++l,x.2)|none=>S
theorem frS_len(S:List Stt)(b:Bool)(f:Int)(l:List Int):(frS S b f l).length=S.length:=by
 unfold frS;split
 ·rfl
 split<;>simp
theorem frS_get{S:List Stt}{f:Int}{l:List Int}{x:Stt}(h:S[f.toNat]? =some x):frS S false f l=S.set f.toNat (x.1++l,x.2):=by
 unfold frS;rw[h];rfl
theorem get_of{S:List Stt}{f:Int}(h:0≤f∧f<S.length): ∃x,S[f.toNat]? =some x:=⟨_,List.getElem?_eq_getElem (by omega)⟩
theorem frS_two{S:List Stt}{b:Bool}{f:Int}{k t:Int}:frS (frS S b f [k]) b f [t]=frS S b f [k,t]:=by
 cases b
 ·cases h:S[f.toNat]? with
  |none=>
    have: ∀l,frS S false f l=S:=fun l=>by simp[frS,h]
    rw[this,this,this]
  |some x=>
    rw[frS_get h,frS_get h];have hl:=lt_len h;rw[frS_get (x:=(x.1++ [k],x.2)) (by rw[List.getElem?_set_self hl])];simp
 rfl
theorem free_code{N:Nat}{S:List Stt}{E:List Int}{b:Bool}{f:Int}{l:List Int}(hf:b=false→0≤f∧f<S.length)(hs:sumF S≤2000000)(hl:l.length≤100000):F_69 N S E (er b) f l=some (frS S b f l,E):=by
 unfold F_69;rw[eOk_er];cases b
 ·obtain⟨x,hx⟩:=get_of (hf rfl);have hi:idx S f=some x:=by unfold idx;rw[if_pos (hf rfl).1,hx]
  have hxl:=sumF_get hx;rw[frS_get hx];simp only[Bool.not_false,if_true,hi,bind,Option.bind_some];rw[app_eq (by omega)];simp only[Option.bind_some];rw[setI_int (hf rfl).1 (lt_len hx)];rfl
 rfl
theorem free_ref{N:Nat}{S:List Stt}{E:List Int}{b:Bool}{f t:Int}(hf:b=false→0≤f∧f<S.length)(hs:sumF S≤2000000):F_35 N S E b f t=some (frS S b f [t],E):=by
 unfold F_35;cases b
 ·obtain⟨x,hx⟩:=get_of (hf rfl);have hi:idx S f=some x:=by unfold idx;rw[if_pos (hf rfl).1,hx]
  have hxl:=sumF_get hx;rw[frS_get hx];simp only[Bool.not_false,if_true,hi,bind,Option.bind_some];rw[app_eq (by simp;omega)];simp only[Option.bind_some];rw[setI_int (hf rfl).1 (lt_len hx)];rfl
 rfl
theorem frS_sum{S:List Stt}{b:Bool}{f:Int}{l:List Int}(hf:b=false→0≤f∧f<S.length):sumF (frS S b f l)=sumF S+if b then 0 else l.length:=by
 cases b
 ·obtain⟨x,hx⟩:=get_of (hf rfl);rw[frS_get hx];have:=sumF_set S f.toNat x (x.1++l,x.2) hx;simp only[List.length_append]at this;simp only[Bool.false_eq_true,if_false];omega
 rfl
theorem frS_so{S:List Stt}{b:Bool}{f:Int}{l:List Int}{n:Int}(h: ∀s∈S,SO n s)(hl:b=false→ ∀x∈l,0≤x∧x<n): ∀s∈frS S b f l,SO n s:=by
 cases b
 ·unfold frS;simp only[Bool.false_eq_true,if_false];split
  ·rename_i x hx;intro s hs;rcases List.mem_or_eq_of_mem_set hs with hs|hs
   ·exact h s hs
   subst hs;have hx:=h x (List.mem_of_getElem? hx)
   exact⟨hx.to,hx.set0,hx.rul,fun y hy=>by
    rcases List.mem_append.1 hy with hy|hy
    ·exact hx.free y hy
    exact hl rfl y hy⟩
  exact h
 exact h
def frA(S:List Stt)(b:Bool)(t:Int)(ends:List Int):List Stt:=ends.foldl (fun S e=>frS S b e [t]) S
theorem frA_len(b:Bool)(t:Int): ∀(ends:List Int) (S:List Stt),(frA S b t ends).length=S.length
 | [],S=>rfl
 |e::ends,S=>by
   show(frA (frS S b e [t]) b t ends).length=_;rw[frA_len b t ends,frS_len]
theorem frA_sum{b:Bool}{t:Int}: ∀(ends:List Int) (S:List Stt),(b=false→ ∀e∈ends,0≤e∧e<S.length)→sumF (frA S b t ends)=sumF S+if b then 0 else ends.length
 | [],S,_=>by simp[frA]
 |e::ends,S,h=>by
   have e0:frA S b t (e::ends)=frA (frS S b e [t]) b t ends:=rfl;rw[e0,frA_sum ends _ (fun hb x hx=>by rw[frS_len];exact h hb x (by simp[hx])),frS_sum (fun hb=>h hb e (by simp))];cases b
   ·simp only[Bool.false_eq_true,if_false,List.length_cons,List.length_nil];omega
   rfl
theorem frA_so{b:Bool}{t n:Int}(ht:b=false→0≤t∧t<n): ∀(ends:List Int) (S:List Stt),(∀s∈S,SO n s)→ ∀s∈frA S b t ends,SO n s
 | [],S,h=>h
 |e::ends,S,h=>frA_so ht ends _ (frS_so h (fun hb x hx=>by simp only[List.mem_singleton]at hx;subst hx;exact ht hb))
theorem free_loop{E:List Int}{f:List Stt×List Int×Int→Option ((List Stt×List Int×Int) ⊕ (List Stt×List Int))}{N:Nat}{S:List Stt}{b:Bool}{t:Int}{ends:List Int}(hN:ends.length<N)(hl:ends.length≤100000)(hs:sumF S≤1100000)(he:b=false→ ∀e∈ends,0≤e∧e<S.length)
 (hb: ∀(i:Nat) (e:Int) (Z:List Stt),ends[i]? =some e→(b=false→0≤e∧e<Z.length)→sumF Z≤2000000→f (Z,E,(i:Int))=some (.inl (frS Z b e [t],E,((i+1:Nat):Int)))) (h0: ∀Z,f (Z,E,(ends.length:Int))=some (.inr (Z,E))):
 iterO N f (S,E,0)=some (frA S b t ends,E):=by
 have:=loop_fold (f:=f) (fun i (Z:List Stt)=>(Z,E,(i:Int))) (fun Z=>(Z,E)) ends (fun S e=>frS S b e [t]) (fun i Z=>Z.length=S.length∧sumF Z≤1100000+i) (N:=N) (s:=S) hN ⟨rfl,by omega⟩
  (fun i e Z hx hI=>by
   have hi:=lt_len hx;have hv:b=false→0≤e∧e<Z.length:=fun hb'=>by rw[hI.1];exact he hb' e (List.mem_of_getElem? hx)
   refine⟨hb i e Z hx hv (by omega),by rw[frS_len];exact hI.1,?_⟩;rw[frS_sum hv];cases b
   ·simp only[Bool.false_eq_true,if_false,List.length_cons,List.length_nil];omega
   simp only[if_true];omega)
  (fun Z _=>h0 Z)
 exact this
theorem PS.rfl'{S:List Stt}{b:Bool}{e:Int}(h:MI S)(he:b=false→0≤e∧e<S.length):PS 0 S b S b e:=
 ⟨h.f,h,Nat.le_refl _,Nat.le_refl _,fun hb=>⟨hb,(he hb).1,(he hb).2,Nat.le_refl _⟩⟩
theorem PS.trans{c d:Nat}{S S1 S2:List Stt}{b b1 b2:Bool}{e1 e2:Int}(h:PS c S b S1 b1 e1)(h2:PS d S1 b1 S2 b2 e2):PS (c+d) S b S2 b2 e2:=
 ⟨h.s0,h2.mi,by have:=h.len;have:=h2.len;omega,by have:=h.g;have:=h2.g;omega,fun hb=>by
  obtain⟨h3,h4,h5,h6⟩:=h2.ok hb;obtain⟨h7,_,_,h8⟩:=h.ok h3;exact⟨h7,h4,h5,by omega⟩⟩
theorem PS.weak{c d:Nat}{S S1:List Stt}{b b1:Bool}{e1:Int}(h:PS c S b S1 b1 e1)(hd:d≤c):PS d S b S1 b1 e1:=
 ⟨h.s0,h.mi,h.len,h.g,fun hb=>by
  obtain⟨h3,h4,h5,h6⟩:=h.ok hb;exact⟨h3,h4,h5,by omega⟩⟩
theorem PS.at{c:Nat}{S S1:List Stt}{b b1:Bool}{e1 e2:Int}(h:PS c S b S1 b1 e1)(he:b1=false→0≤e2∧e2<S1.length):PS c S b S1 b1 e2:=
 ⟨h.s0,h.mi,h.len,h.g,fun hb=>by
  obtain⟨h3,h4,h5,h6⟩:=h.ok hb;exact⟨h3,(he hb).1,(he hb).2,h6⟩⟩
theorem PS.sum{c:Nat}{S S1:List Stt}{b b1:Bool}{e1:Int}(h:PS c S b S1 b1 e1):sumF S1≤1016000:=by
 have:=h.mi.n;have:=h.mi.f;omega
theorem PS.fr{c:Nat}{S S1:List Stt}{b b1:Bool}{e1 f:Int}{l:List Int}(h:PS c S b S1 b1 e1)(hf:b1=false→0≤f∧f<S1.length)(hc:l.length≤c)(hl:b1=false→ ∀x∈l,0≤x∧x<S1.length):PS (c-l.length) S b (frS S1 b1 f l) b1 e1:=by
 have hs:=frS_sum (l:=l) hf;have hn:=frS_len S1 b1 f l;cases b1
 ·obtain⟨h3,h4,h5,h6⟩:=h.ok rfl;simp only[Bool.false_eq_true,if_false]at hs;have:=h.len;have hmf:=h.mi.f;have hg:=h.g;have h0:=h.s0;refine⟨h0,⟨by rw[hn];exact h.mi.n,fun s hs'=>?_,by omega⟩,by omega,by omega,fun _=>⟨h3,h4,by omega,by omega⟩⟩;rw[hn];exact frS_so h.mi.s hl s hs'
 exact⟨h.s0,h.mi,h.len,h.g,fun hb=>by simp at hb⟩
open Go Go.Eng
set_option maxRecDepth 100000
section
variable {M:Nat}{E:List Int}
theorem st_ex(M:Nat)(E:List Int){S:List Stt}(b:Bool)(h:MI S): ∃S1 b1 k,F_42 M S E (er b)=some (S1,E,er b1,k)∧F_29 M S E b=some (S1,E,b1,k)∧PS 4 S b S1 b1 k:=
 ⟨_,_,_,state_code M S E b,state_ref M S E b,mkS_ps b h⟩
def TS(N:Nat)(E:List Int)(t:Nd):Prop:= ∀(S:List Stt) (b:Bool) (f:Int),MI S→(b=false→0≤f∧f<S.length)→ ∃S' b' e,
 F_14 N S E (er b) t.un.1 t.un.2.1.1 t.un.2.1.2.1 t.un.2.1.2.2.1 t.un.2.1.2.2.2 t.un.2.2.1 t.un.2.2.2.1 t.un.2.2.2.2.1 t.un.2.2.2.2.2 f=some (S',E,er b',e)∧
 F_2 N S E b t.un.1 t.un.2.1.1 t.un.2.1.2.1 t.un.2.1.2.2.1 t.un.2.1.2.2.2 t.un.2.2.1 t.un.2.2.2.1 t.un.2.2.2.2.1 t.un.2.2.2.2.2 f=some (S',E,b',e)∧PS 0 S b S' b' e
theorem PS.val{c:Nat}{S S1:List Stt}{b b1:Bool}{e1:Int}(h:PS c S b S1 b1 e1):b1=false→0≤e1∧e1<S1.length:=fun hb=>⟨(h.ok hb).2.1,(h.ok hb).2.2.1⟩
theorem PS.old{c:Nat}{S S1:List Stt}{b b1:Bool}{e1 f:Int}(h:PS c S b S1 b1 e1)(hf:b=false→0≤f∧f<S.length):b1=false→0≤f∧f<S1.length:=fun hb=>by
 have:=hf (h.ok hb).1;have:=h.len;omega
theorem PS.frA'{c:Nat}{S S1:List Stt}{b b1:Bool}{e1 t:Int}{ends:List Int}(h:PS c S b S1 b1 e1)(he:b1=false→ ∀e∈ends,0≤e∧e<S1.length)(hc:ends.length≤c)(ht:b1=false→0≤t∧t<S1.length):PS 0 S b (frA S1 b1 t ends) b1 e1:=by
 have hs:=frA_sum (t:=t) ends S1 he;have hn:=frA_len b1 t ends S1;have h0:=h.s0;have hl:=h.len;have hmf:=h.mi.f;have hg:=h.g;cases b1
 ·obtain⟨h3,h4,h5,h6⟩:=h.ok rfl;simp only[Bool.false_eq_true,if_false]at hs;refine⟨h0,⟨by rw[hn];exact h.mi.n,fun s hs'=>?_,by omega⟩,by omega,by omega,fun _=>⟨h3,h4,by omega,by omega⟩⟩;rw[hn];exact frA_so ht ends S1 h.mi.s s hs'
 simp only[if_true]at hs;refine⟨h0,⟨by rw[hn];exact h.mi.n,fun s hs'=>?_,by omega⟩,by omega,by omega,fun hb=>by simp at hb⟩;rw[hn];exact frA_so (by simp) ends S1 h.mi.s s hs'
theorem cat_loop{ks:List Nd}(hk: ∀x∈ks,TS M E x)(hl:ks.length<100000): ∀(r i K:Nat) (S:List Stt) (b:Bool) (f:Int),i+r=ks.length→r<K→MI S→(b=false→0≤f∧f<S.length)→ ∃S' b' e,
 iterO K (fun s=>F_132 M (F_14 M) ks s.1 s.2.1 s.2.2.1 s.2.2.2.1 s.2.2.2.2) (S,E,er b,f,(i:Int))=some (S',E,er b',e)∧
 iterO K (fun s=>F_126 M (F_2 M) ks s.1 s.2.1 s.2.2.1 s.2.2.2.1 s.2.2.2.2) (S,E,b,f,(i:Int))=some (S',E,b',e)∧PS 0 S b S' b' e:=by
 intro r
 induction r with
 |zero=>
   intro i K S b f hi hK hS hf;obtain⟨K,rfl⟩: ∃m,K=m+1:=⟨K-1,by omega⟩;refine⟨S,b,f,?_,?_,.rfl' hS hf⟩
   ·simp only[iterO,F_132];rw[if_neg (by simp;omega)]
   simp only[iterO,F_126];rw[if_neg (by simp;omega)]
 |succ r ih=>
   intro i K S b f hi hK hS hf;obtain⟨K,rfl⟩: ∃m,K=m+1:=⟨K-1,by omega⟩;have hlt:i<ks.length:=by omega
   have hx:ks[i]? =some ks[i]:=List.getElem?_eq_getElem hlt;generalize ks[i]=x at hx;obtain⟨S1,b1,e1,q1,q2,P⟩:=hk x (List.mem_of_getElem? hx) S b f hS hf;obtain⟨S2,b2,e2,g1,g2,P2⟩:=ih (i+1) K S1 b1 e1 (by omega) (by omega) P.mi P.val
   have s1:F_132 M (F_14 M) ks S E (er b) f (i:Int)=some (.inl (S1,E,er b1,e1,((i+1:Nat):Int))):=by
    unfold F_132;rw[if_pos (by simpa using hlt),idx_of hx];simp only[bind,Option.bind_some];rw[q1,w64_succ (by omega)];rfl
   have s2:F_126 M (F_2 M) ks S E b f (i:Int)=some (.inl (S1,E,b1,e1,((i+1:Nat):Int))):=by
    unfold F_126;rw[if_pos (by simpa using hlt),idx_of hx];simp only[bind,Option.bind_some];rw[q2,w64_succ (by omega)];rfl
   refine⟨S2,b2,e2,?_,?_,P.trans P2⟩
   ·simp only[iterO,s1];exact g1
   simp only[iterO,s2];exact g2
theorem alt_loop{ks:List Nd}(hk: ∀x∈ks,TS M E x)(hl:ks.length<100000){S0:List Stt}{b0:Bool}{f0:Int}: ∀(r i K:Nat) (S:List Stt) (b:Bool) (ends:List Int),i+r=ks.length→r<K→ends.length=i→PS ends.length S0 b0 S b f0→(b=false→ ∀e∈ends,0≤e∧e<S.length)→ ∃S' b' ends',
 iterO K (fun s=>F_130 M (F_14 M) ks f0 s.1 s.2.1 s.2.2.1 s.2.2.2.1 s.2.2.2.2) (S,E,er b,(i:Int),ends)=some (S',E,er b',ends')∧
 iterO K (fun s=>F_96 M (F_2 M) ks f0 s.1 s.2.1 s.2.2.1 s.2.2.2.1 s.2.2.2.2) (S,E,b,ends,(i:Int))=some (S',E,b',ends')∧ends'.length=ks.length∧PS ends'.length S0 b0 S' b' f0∧(b'=false→ ∀e∈ends',0≤e∧e<S'.length):=by
 intro r
 induction r with
 |zero=>
   intro i K S b ends hi hK hn hP he;obtain⟨K,rfl⟩: ∃m,K=m+1:=⟨K-1,by omega⟩;refine⟨S,b,ends,?_,?_,by omega,hP,he⟩
   ·simp only[iterO,F_130];rw[if_neg (by simp;omega)]
   simp only[iterO,F_96];rw[if_neg (by simp;omega)]
 |succ r ih=>
   intro i K S b ends hi hK hn hP he;obtain⟨K,rfl⟩: ∃m,K=m+1:=⟨K-1,by omega⟩;have hlt:i<ks.length:=by omega
   have hx:ks[i]? =some ks[i]:=List.getElem?_eq_getElem hlt;generalize ks[i]=x at hx;obtain⟨S1,b1,k,c1,c2,P1⟩:=st_ex M E b hP.mi;have hf1:=P1.old hP.val;have Q1:=hP.trans P1;have d1:=free_code (N:=M) (E:=E) (l:=[k]) hf1 (by have:=P1.sum;omega) (by simp);have d2:=free_ref (N:=M) (E:=E) (t:=k) hf1 (by have:=P1.sum;omega);have Q2:=Q1.fr (l:=[k]) hf1 (by simp<;>omega) (fun hb y hy=>by simp only[List.mem_singleton]at hy;subst hy;exact P1.val hb);obtain⟨S2,b2,e2,q1,q2,P2⟩:=hk x (List.mem_of_getElem? hx) (frS S1 b1 f0 [k]) b1 k Q2.mi Q2.val;have Q3:=(Q2.trans P2).weak (d:=(ends++ [e2]).length) (by simp<;>omega);have Q4:=Q3.at (e2:=f0) (P2.old (by rw[frS_len];exact hf1))
   obtain⟨S',b',ends',g1,g2,g3,g4,g5⟩:=ih (i+1) K S2 b2 (ends++ [e2]) (by omega) (by omega) (by simp[hn]) Q4 (fun hb y hy=>by
    rcases List.mem_append.1 hy with hy|hy
    ·have h1:=P2.ok hb;have h2:=P1.ok h1.1;have h3:=he h2.1 y hy;have h4:=P1.len;have h5:=P2.len;rw[frS_len]at h5;omega
    simp only[List.mem_singleton]at hy;subst hy;exact P2.val hb)
   have s1:F_130 M (F_14 M) ks f0 S E (er b) (i:Int) ends=some (.inl (S2,E,er b2,((i+1:Nat):Int),ends++ [e2])):=by
    unfold F_130 F_80;rw[if_pos (by simpa using hlt),idx_of hx];simp only[bind,Option.bind_some];rw[c1];simp only[Option.bind_some];rw[d1];simp only[Option.bind_some];rw[q1];simp only[Option.bind_some];rw[app_eq (by simp;omega),w64_succ (by omega)];rfl
   have s2:F_96 M (F_2 M) ks f0 S E b ends (i:Int)=some (.inl (S2,E,b2,ends++ [e2],((i+1:Nat):Int))):=by
    unfold F_96;rw[if_pos (by simpa using hlt),idx_of hx];simp only[bind,Option.bind_some];rw[c2];simp only[Option.bind_some];rw[d2];simp only[Option.bind_some];rw[q2];simp only[Option.bind_some];rw[app_eq (by simp;omega),w64_succ (by omega)];rfl
   refine⟨S',b',ends',?_,?_,g3,g4,g5⟩
   ·simp only[iterO,s1];exact g1
   simp only[iterO,s2];exact g2
theorem min_loop{ks:List Nd}{x:Nd}(hx:ks[0]? =some x)(hk:TS M E x){mn:Nat}(hm:mn≤40): ∀(r i K:Nat) (S:List Stt) (b:Bool) (f:Int),i+r=mn→r<K→MI S→(b=false→0≤f∧f<S.length)→ ∃S' b' e,
 iterO K (fun s=>F_131 M (F_14 M) (mn:Int) x s.1 s.2.1 s.2.2.1 s.2.2.2.1 s.2.2.2.2) (S,E,er b,(i:Int),f)=some (S',E,er b',e)∧
 iterO K (fun s=>F_127 M (F_2 M) ks (mn:Int) s.1 s.2.1 s.2.2.1 s.2.2.2.1 s.2.2.2.2) (S,E,b,(i:Int),f)=some (S',E,b',e)∧PS 0 S b S' b' e:=by
 intro r
 induction r with
 |zero=>
   intro i K S b f hi hK hS hf;obtain⟨K,rfl⟩: ∃m,K=m+1:=⟨K-1,by omega⟩;refine⟨S,b,f,?_,?_,.rfl' hS hf⟩
   ·simp only[iterO,F_131];rw[if_neg (by simp;omega)]
   simp only[iterO,F_127];rw[if_neg (by simp;omega)]
 |succ r ih=>
   intro i K S b f hi hK hS hf;obtain⟨K,rfl⟩: ∃m,K=m+1:=⟨K-1,by omega⟩;obtain⟨S1,b1,e1,q1,q2,P⟩:=hk S b f hS hf;obtain⟨S2,b2,e2,g1,g2,P2⟩:=ih (i+1) K S1 b1 e1 (by omega) (by omega) P.mi P.val
   have s1:F_131 M (F_14 M) (mn:Int) x S E (er b) (i:Int) f=some (.inl (S1,E,er b1,((i+1:Nat):Int),e1)):=by
    unfold F_131;rw[if_pos (by simp;omega)];simp only[bind];rw[q1,w64_succ (by omega)];rfl
   have s2:F_127 M (F_2 M) ks (mn:Int) S E b (i:Int) f=some (.inl (S1,E,b1,((i+1:Nat):Int),e1)):=by
    unfold F_127;rw[if_pos (by simp;omega),show((0:Int))=((0:Nat):Int)from rfl,idx_of hx];simp only[bind,Option.bind_some];rw[q2,w64_succ (by omega)];rfl
   refine⟨S2,b2,e2,?_,?_,P.trans P2⟩
   ·simp only[iterO,s1];exact g1
   simp only[iterO,s2];exact g2
theorem max_loop{ks:List Nd}{x:Nd}(hx:ks[0]? =some x)(hk:TS M E x){mn mx:Nat}(hm:mn<mx)(hm2:mx≤40){S0:List Stt}{b0:Bool}: ∀(r i K:Nat) (S:List Stt) (b:Bool) (f:Int) (ahead:List Int),mn+i+r=mx→r<K→ahead.length=i→PS ahead.length S0 b0 S b f→(b=false→ ∀e∈ahead,0≤e∧e<S.length)→ ∃S' b' f' ahead',
 iterO K (fun s=>F_100 M (F_14 M) (mn:Int) (mx:Int) x s.1 s.2.1 s.2.2.1 s.2.2.2.1 s.2.2.2.2.1 s.2.2.2.2.2) (S,E,er b,f,(i:Int),ahead)=some (S',E,er b',f',ahead')∧
 iterO K (fun s=>F_97 M (F_2 M) ks (mx:Int) s.1 s.2.1 s.2.2.1 s.2.2.2.1 s.2.2.2.2.1 s.2.2.2.2.2) (S,E,b,f,ahead,((mn+i:Nat):Int))=some (S',E,b',f',ahead')∧ahead'.length≤40∧PS ahead'.length S0 b0 S' b' f'∧(b'=false→ ∀e∈ahead',0≤e∧e<S'.length):=by
 have hw:w64 ((mx:Int)-(mn:Int))=((mx-mn:Nat):Int):=by rw[w64,wrap64]<;>omega
 intro r
 induction r with
 |zero=>
   intro i K S b f ahead hi hK hn hP he;obtain⟨K,rfl⟩: ∃m,K=m+1:=⟨K-1,by omega⟩;refine⟨S,b,f,ahead,?_,?_,by omega,hP,he⟩
   ·simp only[iterO,F_100];rw[hw,if_neg (by simp;omega)]
   simp only[iterO,F_97];rw[if_neg (by simp;omega)]
 |succ r ih=>
   intro i K S b f ahead hi hK hn hP he;obtain⟨K,rfl⟩: ∃m,K=m+1:=⟨K-1,by omega⟩;obtain⟨S1,b1,k,c1,c2,P1⟩:=st_ex M E b hP.mi;have hf1:=P1.old hP.val;have Q1:=hP.trans P1;have d1:=free_code (N:=M) (E:=E) (l:=[k]) hf1 (by have:=P1.sum;omega) (by simp);have d2:=free_ref (N:=M) (E:=E) (t:=k) hf1 (by have:=P1.sum;omega);have Q2:=Q1.fr (l:=[k]) hf1 (by simp<;>omega) (fun hb y hy=>by simp only[List.mem_singleton]at hy;subst hy;exact P1.val hb);obtain⟨S2,b2,e2,q1,q2,P2⟩:=hk (frS S1 b1 f [k]) b1 k Q2.mi Q2.val;have Q3:=(Q2.trans P2).weak (d:=(ahead++ [f]).length) (by simp<;>omega)
   obtain⟨S',b',f',ahead',g1,g2,g3,g4,g5⟩:=ih (i+1) K S2 b2 e2 (ahead++ [f]) (by omega) (by omega) (by simp[hn]) Q3 (fun hb y hy=>by
    have h1:=P2.ok hb;have h2:=P1.ok h1.1;have h4:=P1.len;have h5:=P2.len;rw[frS_len]at h5;rcases List.mem_append.1 hy with hy|hy
    ·have h3:=he h2.1 y hy;omega
    simp only[List.mem_singleton]at hy;subst hy;have h3:=hf1 h1.1;omega)
   have s1:F_100 M (F_14 M) (mn:Int) (mx:Int) x S E (er b) f (i:Int) ahead=some (.inl (S2,E,er b2,e2,((i+1:Nat):Int),ahead++ [f])):=by
    unfold F_100 F_80;rw[hw,if_pos (by simp;omega),app_eq (by simp;omega)];simp only[bind,Option.bind_some];rw[c1];simp only[Option.bind_some];rw[d1];simp only[Option.bind_some];rw[q1,w64_succ (by omega)];rfl
   have s2:F_97 M (F_2 M) ks (mx:Int) S E b f ahead ((mn+i:Nat):Int)=some (.inl (S2,E,b2,e2,ahead++ [f],((mn+(i+1):Nat):Int))):=by
    unfold F_97;rw[if_pos (by simp;omega),app_eq (by simp;omega)];simp only[bind,Option.bind_some];rw[c2];simp only[Option.bind_some];rw[d2];simp only[Option.bind_some];rw[show((0:Int))=((0:Nat):Int)from rfl,idx_of hx];simp only[Option.bind_some];rw[q2,w64_succ (by omega)];rfl
   refine⟨S',b',f',ahead',?_,?_,g3,g4,g5⟩
   ·simp only[iterO,s1];exact g1
   simp only[iterO,s2];exact g2
end
open Go Go.Eng
set_option maxRecDepth 100000
section
variable {M:Nat}{E:List Int}
theorem alt_code{ks:List Nd}(hk: ∀x∈ks,TS M E x)(hl:ks.length<100000)(hM:ks.length+10≤M){S:List Stt}{b:Bool}{f:Int}(hS:MI S)(hf:b=false→0≤f∧f<S.length)(k a1 a2 a3 a4 mn mx:Int)(tx:ByteArray): ∃S' b' e,
 F_30 M (F_14 M) S E (er b) k a1 a2 a3 a4 ks mn mx tx f=some (S',E,er b',e)∧
 (((iterO M (fun s=>F_96 M (F_2 M) ks f s.1 s.2.1 s.2.2.1 s.2.2.2.1 s.2.2.2.2) (S,E,b,[],0)):Option (List Stt×List Int×Bool×List Int)) >>= fun(x4552,y1,x4553,x4556)=>
   F_29 M x4552 y1 x4553 >>= fun(x4841,y2,x4842,x4843)=>
   ((iterO M (fun s=>F_77 M x4556 x4842 x4843 s.1 s.2.1 s.2.2) (x4841,y2,0)):Option (List Stt×List Int)) >>= fun(x4895,y3)=>
   some (x4895,y3,x4842,x4843))=some (S',E,b',e)∧PS 0 S b S' b' e:=by
 obtain⟨S1,b1,ends,g1,g2,g3,g4,g5⟩:=alt_loop (f0:=f) hk hl ks.length 0 M S b [] (by omega) (by omega) rfl (PS.rfl' hS hf) (fun _ e he=>by simp at he);obtain⟨S2,b2,t,c1,c2,P2⟩:=st_ex M E b1 g4.mi;have Q:=(g4.trans P2).at (e2:=t) P2.val
 have hv:b2=false→ ∀e∈ends,0≤e∧e<S2.length:=fun hb e he=>by
  have h1:=P2.ok hb;have h2:=g5 h1.1 e he;have h3:=P2.len;omega
 have hsm:=Q.sum
 have f1:iterO M (fun s=>F_99 M ends (er b2) t s.1 s.2.1 s.2.2) (S2,E,0)=some (frA S2 b2 t ends,E):=
  free_loop (f:=fun s=>F_99 M ends (er b2) t s.1 s.2.1 s.2.2) (by omega) (by omega) (by omega) hv (fun i e Z hx hz hs=>by
   have hi:=lt_len hx;show F_99 M ends (er b2) t Z E (i:Int)=_;unfold F_99;rw[if_pos (by simpa using hi),idx_of hx];simp only[bind,Option.bind_some];rw[free_code hz hs (by simp),w64_succ (by omega)]
   rfl) (fun Z=>by
   show F_99 M ends (er b2) t Z E (ends.length:Int)=_;unfold F_99;simp)
 have f2:iterO M (fun s=>F_77 M ends b2 t s.1 s.2.1 s.2.2) (S2,E,0)=some (frA S2 b2 t ends,E):=
  free_loop (f:=fun s=>F_77 M ends b2 t s.1 s.2.1 s.2.2) (by omega) (by omega) (by omega) hv (fun i e Z hx hz hs=>by
   have hi:=lt_len hx;show F_77 M ends b2 t Z E (i:Int)=_;unfold F_77;rw[if_pos (by simpa using hi),idx_of hx];simp only[bind,Option.bind_some];rw[free_ref hz hs,w64_succ (by omega)]
   rfl) (fun Z=>by
   show F_77 M ends b2 t Z E (ends.length:Int)=_;unfold F_77;simp)
 have g1:iterO M (fun s=>F_130 M (F_14 M) ks f s.1 s.2.1 s.2.2.1 s.2.2.2.1 s.2.2.2.2) (S,E,er b,0,[])=some (S1,E,er b1,ends):=g1;have g2:iterO M (fun s=>F_96 M (F_2 M) ks f s.1 s.2.1 s.2.2.1 s.2.2.2.1 s.2.2.2.2) (S,E,b,[],0)=some (S1,E,b1,ends):=g2;refine⟨frA S2 b2 t ends,b2,t,?_,?_,Q.frA' hv (by omega) P2.val⟩
 ·unfold F_30;rw[g1];simp only[bind,Option.bind_some];rw[c1];simp only[Option.bind_some];rw[f1];rfl
 rw[g2];simp only[bind,Option.bind_some];rw[c2];simp only[Option.bind_some];rw[f2];rfl
theorem bytes_code{S:List Stt}{f:Int}(hS:MI S)(hf:0≤f∧f<S.length)(k a1 a2 a3 a4 mn mx:Int)(ks:List Nd)(tx:ByteArray): ∃S' b' e,
 F_156 M S E (er false) k a1 a2 a3 a4 ks mn mx tx f=some (S',E,er b',e)∧
 (F_29 M S E false >>= fun(x3773,y1,x3774,x3775)=>
  ((if(!x3774)=true then(
    ((idx x3773 f >>= fun x3824=>
    setI x3773 f (x3824.1,(a1,a2,a3,a4),x3824.2.2.1,x3824.2.2.2) >>= fun x3832=>
    some x3832):Option (List Stt)) >>= fun x3822=>
    idx x3822 f >>= fun x3835=>
    setI x3822 f (x3835.1,(x3835.2.1.1,x3835.2.1.2.1,x3835.2.1.2.2.1,x3835.2.1.2.2.2),x3775,x3835.2.2.2) >>= fun x3843=>
    some x3843)
    else(
    some x3773)):Option (List Stt)) >>= fun x3810=>
  some (x3810,y1,x3774,x3775))=some (S',E,b',e)∧PS 0 S false S' b' e:=by
 obtain⟨S1,b1,t,c1,c2,P1⟩:=st_ex M E false hS
 cases hb:b1 with
 |true=>
   subst hb;refine⟨S1,true,t,?_,?_,P1.weak (by omega)⟩
   ·unfold F_156;rw[c1];simp only[bind,Option.bind_some];rw[eOk_er];rfl
   rw[c2];rfl
 |false=>
   subst hb;have hf1:=P1.old (f:=f) (fun _=>hf) rfl;obtain⟨x,hx⟩:=get_of hf1;have hl:=lt_len hx;have hv:=P1.val rfl;have i1:idx S1 f=some x:=by unfold idx;rw[if_pos hf.1,hx]
   have i2: ∀y,idx (S1.set f.toNat y) f=some y:=fun y=>by unfold idx;rw[if_pos hf.1,List.getElem?_set_self hl]
   have hxo:=P1.mi.s x (List.mem_of_getElem? hx);have hs:=sumF_set S1 f.toNat x (x.1,(a1,a2,a3,a4),t,x.2.2.2) hx;simp only at hs;have hn:(S1.set f.toNat (x.1,(a1,a2,a3,a4),t,x.2.2.2)).length=S1.length:=by simp
   have hg:=P1.g;have hok:=(P1.ok rfl).2.2.2;have hs0:=P1.s0;have hmf:=P1.mi.f;have hln:=P1.len;refine⟨S1.set f.toNat (x.1,(a1,a2,a3,a4),t,x.2.2.2),false,t,?_,?_,?_⟩
   ·unfold F_156;rw[c1];simp only[bind,Option.bind_some];rw[eOk_er];simp only[Bool.not_false,if_true,i1,Option.bind_some];rw[setI_int hf.1 hl];simp only[Option.bind_some,i2];rw[setI_int hf.1 (by simpa using hl)];simp only[Option.bind_some,List.set_set]
   ·rw[c2];simp only[bind,Option.bind_some,Bool.not_false,if_true,i1];rw[setI_int hf.1 hl];simp only[Option.bind_some,i2];rw[setI_int hf.1 (by simpa using hl)];simp only[Option.bind_some,List.set_set]
   refine⟨hs0,⟨by rw[hn];exact P1.mi.n,fun s hs'=>?_,by omega⟩,by omega,by omega,fun _=>⟨rfl,hv.1,by omega,by omega⟩⟩;rw[hn];rcases List.mem_or_eq_of_mem_set hs' with hs'|hs'
   ·exact P1.mi.s s hs'
   subst hs';exact⟨⟨by simp only;omega,by simp only;omega⟩,fun h=>by simp only at h;omega,hxo.rul,hxo.free⟩
theorem loop_code{x:Nd}(hk:TS M E x){S:List Stt}{b:Bool}{f:Int}(hS:MI S)(hf:b=false→0≤f∧f<S.length): ∃S' b' e,
 F_192 M (F_14 M) S E (er b) x.un.1 x.un.2.1.1 x.un.2.1.2.1 x.un.2.1.2.2.1 x.un.2.1.2.2.2 x.un.2.2.1 x.un.2.2.2.1 x.un.2.2.2.2.1 x.un.2.2.2.2.2 f=some (S',E,er b',e)∧
 (F_29 M S E b >>= fun(x5350,y1,x5351,x5352)=>
  F_29 M x5350 y1 x5351 >>= fun(x5358,y2,x5359,x5360)=>
  F_35 M x5358 y2 x5359 f x5352 >>= fun(x5365,y3)=>
  F_35 M x5365 y3 x5359 f x5360 >>= fun(x5370,y4)=>
  some x >>= fun x5372=>
  F_2 M x5370 y4 x5359 x5372.un.1 x5372.un.2.1.1 x5372.un.2.1.2.1 x5372.un.2.1.2.2.1 x5372.un.2.1.2.2.2 x5372.un.2.2.1 x5372.un.2.2.2.1 x5372.un.2.2.2.2.1 x5372.un.2.2.2.2.2 x5352 >>= fun(x5426,y5,x5427,x5428)=>
  F_35 M x5426 y5 x5427 x5428 x5352 >>= fun(x5433,y6)=>
  F_35 M x5433 y6 x5427 x5428 x5360 >>= fun(x5438,y7)=>
  some (x5438,y7,x5427,x5360))=some (S',E,b',e)∧PS 0 S b S' b' e:=by
 obtain⟨S1,b1,k,c1,c2,P1⟩:=st_ex M E b hS;obtain⟨S2,b2,t,c3,c4,P2⟩:=st_ex M E b1 P1.mi;have hf2:=P2.old (P1.old hf);have hk2:=P2.old P1.val;have Q:=(P1.trans P2).at hk2;have hs2:=Q.sum;have d1:=free_code (N:=M) (E:=E) (l:=[k,t]) hf2 (by omega) (by simp);have d2:=free_ref (N:=M) (E:=E) (t:=k) hf2 (by omega)
 have d3:=free_ref (N:=M) (E:=E) (S:=frS S2 b2 f [k]) (t:=t) (b:=b2) (f:=f) (by rw[frS_len];exact hf2) (by
  rw[frS_sum hf2];have:(if b2=true then 0 else [k].length)≤1:=by split<;>simp
  omega)
 have Q1:=Q.fr (l:=[k,t]) hf2 (by simp) (fun hb y hy=>by
  rcases List.mem_cons.1 hy with rfl|hy
  ·exact hk2 hb
  simp only[List.mem_singleton]at hy;subst hy;exact P2.val hb)
 obtain⟨S3,b3,e,q1,q2,P3⟩:=hk (frS S2 b2 f [k,t]) b2 k Q1.mi Q1.val;have Q2:=Q1.trans P3;have hs3:=Q2.sum;have hk3:=P3.old (f:=k) (by rw[frS_len];exact hk2);have ht3:=P3.old (f:=t) (by rw[frS_len];exact P2.val);have d4:=free_code (N:=M) (E:=E) (l:=[k,t]) P3.val (by omega) (by simp);have d5:=free_ref (N:=M) (E:=E) (t:=k) P3.val (by omega)
 have d6:=free_ref (N:=M) (E:=E) (S:=frS S3 b3 e [k]) (t:=t) (b:=b3) (f:=e) (by rw[frS_len];exact P3.val) (by
  rw[frS_sum P3.val];have:(if b3=true then 0 else [k].length)≤1:=by split<;>simp
  omega)
 have Q3:=Q2.fr (l:=[k,t]) P3.val (by simp) (fun hb y hy=>by
  rcases List.mem_cons.1 hy with rfl|hy
  ·exact hk3 hb
  simp only[List.mem_singleton]at hy;subst hy;exact ht3 hb)
 have Q4:=(Q3.at (e2:=t) (by rw[frS_len];exact ht3)).weak (d:=0) (by omega);refine⟨frS S3 b3 e [k,t],b3,t,?_,?_,Q4⟩
 ·unfold F_192;rw[c1];simp only[bind,Option.bind_some];rw[c3];simp only[Option.bind_some];rw[d1];simp only[Option.bind_some];rw[q1];simp only[Option.bind_some];rw[d4];rfl
 rw[c2];simp only[bind,Option.bind_some];rw[c4];simp only[Option.bind_some];rw[d2];simp only[Option.bind_some];rw[d3,frS_two];simp only[Option.bind_some];rw[q2];simp only[Option.bind_some];rw[d5];simp only[Option.bind_some];rw[d6,frS_two];rfl
theorem more_code{ks:List Nd}{x:Nd}(hx:ks[0]? =some x)(hk:TS M E x){mn mx:Nat}(hm:mn<mx)(hm2:mx≤40)(hM:100≤M){S:List Stt}{b:Bool}{f:Int}(hS:MI S)(hf:b=false→0≤f∧f<S.length): ∃S' b' e,
 (((iterO M (fun s=>F_100 M (F_14 M) (mn:Int) (mx:Int) x s.1 s.2.1 s.2.2.1 s.2.2.2.1 s.2.2.2.2.1 s.2.2.2.2.2) (S,E,er b,f,0,[])):Option (List Stt×List Int×Int×Int×List Int)) >>= fun(x804,y1,x805,x806,x809)=>
   F_80 M x804 y1 x805 x806 >>= fun(x923,y2,x924,x925)=>
   ((iterO M (fun s=>F_81 M x809 x924 x925 s.1 s.2.1 s.2.2) (x923,y2,0)):Option (List Stt×List Int)) >>= fun(x983,y3)=>
   some (x983,y3,x924,x925))=some (S',E,er b',e)∧
 (((iterO M (fun s=>F_97 M (F_2 M) ks (mx:Int) s.1 s.2.1 s.2.2.1 s.2.2.2.1 s.2.2.2.2.1 s.2.2.2.2.2) (S,E,b,f,[],(mn:Int))):Option (List Stt×List Int×Bool×Int×List Int)) >>= fun(x5715,y1,x5716,x5717,x5720)=>
   F_29 M x5715 y1 x5716 >>= fun(x5999,y2,x6000,x6001)=>
   F_35 M x5999 y2 x6000 x5717 x6001 >>= fun(x6006,y3)=>
   ((iterO M (fun s=>F_78 M x5720 x6000 x6001 s.1 s.2.1 s.2.2) (x6006,y3,0)):Option (List Stt×List Int)) >>= fun(x6058,y4)=>
   some (x6058,y4,x6000,x6001))=some (S',E,b',e)∧PS 0 S b S' b' e:=by
 obtain⟨S1,b1,f1,ends,g1,g2,g3,g4,g5⟩:=max_loop (S0:=S) (b0:=b) hx hk hm hm2 (mx-mn) 0 M S b f [] (by omega) (by omega) rfl (PS.rfl' hS hf) (fun _ e he=>by simp at he);obtain⟨S2,b2,t,c1,c2,P2⟩:=st_ex M E b1 g4.mi;have hf2:=P2.old g4.val;have Q:=(g4.trans P2).at (e2:=t) P2.val;have hsm:=Q.sum;have d1:=free_code (N:=M) (E:=E) (l:=[t]) hf2 (by omega) (by simp);have d2:=free_ref (N:=M) (E:=E) (t:=t) hf2 (by omega);have Q1:=Q.fr (l:=[t]) hf2 (by simp) (fun hb y hy=>by simp only[List.mem_singleton]at hy;subst hy;exact P2.val hb);have hsm1:=Q1.sum;have hl3:(frS S2 b2 f1 [t]).length=S2.length:=frS_len _ _ _ _;generalize frS S2 b2 f1 [t]=S3 at d1 d2 Q1 hsm1 hl3
 have hv:b2=false→ ∀e∈ends,0≤e∧e<S3.length:=fun hb e he=>by
  have h1:=P2.ok hb;have h2:=g5 h1.1 e he;have h3:=P2.len;omega
 have f1:iterO M (fun s=>F_81 M ends (er b2) t s.1 s.2.1 s.2.2) (S3,E,0)=some (frA S3 b2 t ends,E):=
  free_loop (f:=fun s=>F_81 M ends (er b2) t s.1 s.2.1 s.2.2) (by omega) (by omega) (by omega) hv (fun i e Z hx hz hs=>by
   have hi:=lt_len hx;show F_81 M ends (er b2) t Z E (i:Int)=_;unfold F_81;rw[if_pos (by simpa using hi),idx_of hx];simp only[bind,Option.bind_some];rw[free_code hz hs (by simp),w64_succ (by omega)]
   rfl) (fun Z=>by
   show F_81 M ends (er b2) t Z E (ends.length:Int)=_;unfold F_81;simp)
 have f2:iterO M (fun s=>F_78 M ends b2 t s.1 s.2.1 s.2.2) (S3,E,0)=some (frA S3 b2 t ends,E):=
  free_loop (f:=fun s=>F_78 M ends b2 t s.1 s.2.1 s.2.2) (by omega) (by omega) (by omega) hv (fun i e Z hx hz hs=>by
   have hi:=lt_len hx;show F_78 M ends b2 t Z E (i:Int)=_;unfold F_78;rw[if_pos (by simpa using hi),idx_of hx];simp only[bind,Option.bind_some];rw[free_ref hz hs,w64_succ (by omega)]
   rfl) (fun Z=>by
   show F_78 M ends b2 t Z E (ends.length:Int)=_;unfold F_78;simp)
 have g1:iterO M (fun s=>F_100 M (F_14 M) (mn:Int) (mx:Int) x s.1 s.2.1 s.2.2.1 s.2.2.2.1 s.2.2.2.2.1 s.2.2.2.2.2) (S,E,er b,f,0,[])=_:=g1;have g2:iterO M (fun s=>F_97 M (F_2 M) ks (mx:Int) s.1 s.2.1 s.2.2.1 s.2.2.2.1 s.2.2.2.2.1 s.2.2.2.2.2) (S,E,b,f,[],(mn:Int))=_:=g2;refine⟨frA S3 b2 t ends,b2,t,?_,?_,Q1.frA' hv (by simp) (by rw[hl3];exact P2.val)⟩
 ·rw[g1];simp only[bind,Option.bind_some];unfold F_80;rw[c1];simp only[bind,Option.bind_some];rw[d1];simp only[Option.bind_some];rw[f1];rfl
 rw[g2];simp only[bind,Option.bind_some];rw[c2];simp only[Option.bind_some];rw[d2];simp only[Option.bind_some];rw[f2];rfl
end
theorem tree_spec{E:List Int}: ∀(c:Nat) (t:Nd),cnt t=c→ ∀(lv N:Nat),RT lv t→cnt t+1000≤N→cnt t<50000→TS N E t:=by
 intro c
 induction c using Nat.strongRecOn with
 |ind c IH=>
   intro t hc lv N h hN hb S b f hS hf;obtain⟨M,rfl⟩: ∃m,N=m+1:=⟨N-1,by omega⟩;have hcu:=cnt_un t;have hll:=cntL_len (kd t)
   have hk: ∀x∈kd t,TS M E x:=fun x hx=>by
    have hm:=cnt_kid hx;exact IH (cnt x) (by omega) x rfl (lv+1) M (h.kid hx) (by omega) (by omega)
   rw[F_14,F_2,eOk_er]
   cases hb':b with
   |true=>
     subst hb';exact⟨S,true,0,rfl,rfl,.rfl' hS (fun h=>by simp at h)⟩
   |false=>
     subst hb';have hf:=hf rfl;rw[if_neg Bool.false_ne_true,if_neg Bool.false_ne_true];rcases ok_kind h.node.2 with⟨k1,_⟩|k2|⟨k3,n3⟩|⟨k4,n4,a,b,c⟩|⟨k5,_⟩
     ·have e1:(t.un.1==1)=true:=by simpa using k1
      rw[if_pos e1,if_pos e1];obtain⟨S',b',e,g1,g2,P⟩:=bytes_code (M:=M) (E:=E) hS hf t.un.1 t.un.2.1.1 t.un.2.1.2.1 t.un.2.1.2.2.1 t.un.2.1.2.2.2 t.un.2.2.2.1 t.un.2.2.2.2.1 t.un.2.2.1 t.un.2.2.2.2.2;exact⟨S',b',e,by rw[g1];rfl,g2,P⟩
     ·have e1: ¬(t.un.1==1)=true:=by show¬(kn t==1)=true;rw[k2];decide
      have e2:(t.un.1==2)=true:=by simpa using k2
      rw[if_neg e1,if_pos e2,if_neg e1,if_pos e2];obtain⟨S',b',e,g1,g2,P⟩:=cat_loop hk (by omega) (kd t).length 0 M S false f (by omega) (by omega) hS (fun _=>hf);have g1:iterO M (fun s=>F_132 M (F_14 M) (kd t) s.1 s.2.1 s.2.2.1 s.2.2.2.1 s.2.2.2.2) (S,E,er false,f,0)=_:=g1;have g2:iterO M (fun s=>F_126 M (F_2 M) (kd t) s.1 s.2.1 s.2.2.1 s.2.2.2.1 s.2.2.2.2) (S,E,false,f,0)=_:=g2;exact⟨S',b',e,by rw[g1];rfl,by rw[g2];rfl,P⟩
     ·have e1: ¬(t.un.1==1)=true:=by show¬(kn t==1)=true;rw[k3];decide
      have e2: ¬(t.un.1==2)=true:=by show¬(kn t==2)=true;rw[k3];decide
      have e3:(t.un.1==3)=true:=by simpa using k3
      have e5: ¬(t.un.1==5)=true:=by show¬(kn t==5)=true;rw[k3];decide
      rw[if_neg e1,if_neg e2,if_pos e3,if_neg e1,if_neg e2,if_neg e5,if_pos e3];obtain⟨S',b',e,g1,g2,P⟩:=alt_code hk (by omega) (by omega) hS (fun _=>hf) t.un.1 t.un.2.1.1 t.un.2.1.2.1 t.un.2.1.2.2.1 t.un.2.1.2.2.2 t.un.2.2.2.1 t.un.2.2.2.2.1 t.un.2.2.2.2.2;exact⟨S',b',e,by rw[g1];rfl,g2,P⟩
     ·have e1: ¬(t.un.1==1)=true:=by show¬(kn t==1)=true;rw[k4];decide
      have e2: ¬(t.un.1==2)=true:=by show¬(kn t==2)=true;rw[k4];decide
      have e3: ¬(t.un.1==3)=true:=by show¬(kn t==3)=true;rw[k4];decide
      have e4:(t.un.1==4)=true:=by simpa using k4
      have e5: ¬(t.un.1==5)=true:=by show¬(kn t==5)=true;rw[k4];decide
      rw[if_neg e1,if_neg e2,if_neg e3,if_pos e4,if_neg e1,if_neg e2,if_neg e5,if_neg e3]
      obtain⟨x,hz⟩: ∃z,kd t= [z]:=by
       match hk:kd t,n4 with
       | [z],_=>exact⟨z,rfl⟩
      have hx:(kd t)[0]? =some x:=by rw[hz];rfl
      have hkx:=hk x (List.mem_of_getElem? hx);have hmn:((lo t).toNat:Int)=lo t:=Int.toNat_of_nonneg a;obtain⟨S1,b1,f1,g1,g2,P1⟩:=min_loop hx hkx (mn:=(lo t).toNat) (by omega) (lo t).toNat 0 M S false f (by omega) (by omega) hS (fun _=>hf);rw[hmn]at g1 g2;have g1:iterO M (fun s=>F_131 M (F_14 M) (lo t) x s.1 s.2.1 s.2.2.1 s.2.2.2.1 s.2.2.2.2) (S,E,er false,0,f)=_:=g1;have g2:iterO M (fun s=>F_127 M (F_2 M) (kd t) (lo t) s.1 s.2.1 s.2.2.1 s.2.2.2.1 s.2.2.2.2) (S,E,false,0,f)=_:=g2;have i0:idx (kd t) 0=some x:=idx_of (i:=0) hx;unfold F_17;rw[g2,i0];simp only[bind,Option.bind_some];rw[g1];simp only[Option.bind_some];by_cases h5:hi t= -1
      ·have m1:(t.un.2.2.2.2.1== -1)=true:=by simpa using h5
       have m2: ¬(t.un.2.2.2.2.1==t.un.2.2.2.1)=true:=by
        show¬(hi t==lo t)=true;simp;omega
       have m3:(decide (t.un.2.2.2.2.1<0))=true:=by
        show decide (hi t<0)=true;simp;omega
       rw[if_pos m1,if_neg m2,if_pos m3];obtain⟨S',b',e,r1,r2,P⟩:=loop_code hkx P1.mi P1.val;refine⟨S',b',e,?_,?_,P1.trans P⟩
       ·rw[r1];rfl
       rw[←r2];rfl
      have m1: ¬(t.un.2.2.2.2.1== -1)=true:=by simpa using h5
      rw[if_neg m1];have c:=c.resolve_left h5;by_cases h6:hi t=lo t
      ·have m2:(t.un.2.2.2.2.1==t.un.2.2.2.1)=true:=by
        show(hi t==lo t)=true;simpa using h6
       rw[if_pos m2,if_pos m2];exact⟨S1,b1,f1,rfl,rfl,P1⟩
      have m2: ¬(t.un.2.2.2.2.1==t.un.2.2.2.1)=true:=by
       show¬(hi t==lo t)=true;simpa using h6
      have m3: ¬(decide (t.un.2.2.2.2.1<0))=true:=by
       show¬decide (hi t<0)=true;simp;omega
      rw[if_neg m2,if_neg m2,if_neg m3];have hmx:((hi t).toNat:Int)=hi t:=Int.toNat_of_nonneg (by omega);obtain⟨S',b',e,r1,r2,P⟩:=more_code (mn:=(lo t).toNat) (mx:=(hi t).toNat) hx hkx (by omega) (by omega) (by omega) P1.mi P1.val;rw[hmn,hmx]at r1;rw[hmn,hmx]at r2;refine⟨S',b',e,?_,?_,P1.trans P⟩
      ·exact congrArg (fun o:Option (List Stt×List Int×Int×Int)=>Option.bind o fun x=>some (x.1,x.2.1,x.2.2.1,x.2.2.2)) r1
      rw[←r2];rfl
     have e1: ¬(t.un.1==1)=true:=by show¬(kn t==1)=true;rw[k5];decide
     have e2: ¬(t.un.1==2)=true:=by show¬(kn t==2)=true;rw[k5];decide
     have e3: ¬(t.un.1==3)=true:=by show¬(kn t==3)=true;rw[k5];decide
     have e4: ¬(t.un.1==4)=true:=by show¬(kn t==4)=true;rw[k5];decide
     have e5:(t.un.1==5)=true:=by simpa using k5
     rw[if_neg e1,if_neg e2,if_neg e3,if_neg e4,if_neg e1,if_neg e2,if_pos e5];obtain⟨S1,b1,k,c1,c2,P1⟩:=st_ex M E false hS;exact⟨S1,b1,k,by rw[c1];rfl,by rw[c2];rfl,P1.weak (by omega)⟩
open Go Go.Eng
set_option maxRecDepth 100000
section
variable {N:Nat}{C Nm:List ByteArray}{R:List Rl}
def badC(n:Nat)(c:Int):Bool:=decide (c<0)||decide (c≥(n:Int))
def badR(n:Nat)(r:Rl):Bool:= !rtT r.2.1||r.1.any (badC n)
theorem badC_code(x:Int)(R:List Rl):F_191 N x C Nm R=some (badC C.length x):=by
 unfold F_191 badC;by_cases h:x<0<;>simp[h]
theorem badC_any{xs:List Int}(hN:9300000000000000000≤N)(hl:xs.length≤50):F_64 N xs C Nm R=some (xs.any (badC C.length)):=by
 unfold F_64 F_38
 rw[loop_find xs (badC C.length) (fun i=>(i:Int)) (by omega) (fun i x hx=>by
  have hi:=lt_len hx;unfold F_258;simp only[show((i:Int)<(xs.length:Int)) by omega,decide_true,if_true,idx_of hx,badC_code,bind,Option.bind_some];rw[w64_succ (by omega)]) (by unfold F_258;simp)]
 cases h:xs.findIdx? (badC C.length)with
 |none=>
   have:xs.any (badC C.length)=false:=List.any_eq_false.2 fun x hx=>by rw[List.findIdx?_eq_none_iff.1 h x hx];simp
   simp[this]
 |some k=>
   obtain⟨hk,hp,_⟩:=List.findIdx?_eq_some_iff_getElem.1 h;have:xs.any (badC C.length)=true:=List.any_eq_true.2 ⟨_,List.getElem_mem hk,hp⟩;rw[this];simp
theorem build1_code(hN:9300000000000000000≤N){r:Rl}(hr:cnt r.2.1<700∧r.1.length≤50)(hq:NdQ r.2.1)(a b:Int):
 F_68 N r.1 r.2.1.un.1 r.2.1.un.2.1.1 r.2.1.un.2.1.2.1 r.2.1.un.2.1.2.2.1 r.2.1.un.2.1.2.2.2 r.2.1.un.2.2.1 r.2.1.un.2.2.2.1 r.2.1.un.2.2.2.2.1 r.2.1.un.2.2.2.2.2 a b C Nm R=some (badR C.length r):=by
 unfold F_68 badR;rw[right_code hN (by omega) hq];simp only[bind,Option.bind_some];rw[badC_any hN hr.2];cases rtT r.2.1<;>simp
theorem badR_any(hN:9300000000000000000≤N)(hs:Short C Nm R)(hq: ∀r∈R,NdQ r.2.1):F_71 N R C Nm R=some (R.any (badR C.length)):=by
 have hl:=hs.r;unfold F_71 F_39
 rw[loop_find R (badR C.length) (fun i=>(i:Int)) (by omega) (fun i x hx=>by
  have hi:=lt_len hx;have hm:=List.mem_of_getElem? hx;unfold F_260;simp only[show((i:Int)<(R.length:Int)) by omega,decide_true,if_true,idx_of hx,bind,Option.bind_some];rw[build1_code hN (hs.t x hm) (hq x hm),w64_succ (by omega)];rfl) (by unfold F_260;simp)]
 cases h:R.findIdx? (badR C.length)with
 |none=>
   have:R.any (badR C.length)=false:=List.any_eq_false.2 fun x hx=>by rw[List.findIdx?_eq_none_iff.1 h x hx];simp
   simp[this]
 |some k=>
   obtain⟨hk,hp,_⟩:=List.findIdx?_eq_some_iff_getElem.1 h;have:R.any (badR C.length)=true:=List.any_eq_true.2 ⟨_,List.getElem_mem hk,hp⟩;rw[this];simp
def lens(C:List ByteArray)(R:List Rl):Bool:=decide (C.length<1)||decide (C.length>8)||decide (R.length<1)||decide (R.length>48)
theorem lens_code:((if(decide ((C.length:Int)<1))=true then(
 some true)
 else(
 if(decide ((C.length:Int)>8))=true then(
 some true)
 else(
 if(decide ((R.length:Int)<1))=true then(
 some true)
 else(
 some (decide ((R.length:Int)>48)))))):Option Bool)=some (lens C R):=by
 unfold lens;have e1:decide ((C.length:Int)<1)=decide (C.length<1):=by rw[Bool.eq_iff_iff,decide_eq_true_eq,decide_eq_true_eq];omega
 have e2:decide ((C.length:Int)>8)=decide (C.length>8):=by rw[Bool.eq_iff_iff,decide_eq_true_eq,decide_eq_true_eq];omega
 have e3:decide ((R.length:Int)<1)=decide (R.length<1):=by rw[Bool.eq_iff_iff,decide_eq_true_eq,decide_eq_true_eq];omega
 have e4:decide ((R.length:Int)>48)=decide (R.length>48):=by rw[Bool.eq_iff_iff,decide_eq_true_eq,decide_eq_true_eq];omega
 rw[e1,e2,e3,e4];cases decide (C.length<1)<;>cases decide (C.length>8)<;>cases decide (R.length<1)<;>rfl
theorem buildable_code(hN:9300000000000000000≤N)(hs:Short C Nm R)(hq: ∀r∈R,NdQ r.2.1):F_41 N C Nm R=some (!lens C R&& !R.any (badR C.length)):=by
 unfold F_41;rw[lens_code];simp only[bind,Option.bind_some];rw[badR_any hN hs hq];cases lens C R<;>rfl
theorem heavy_any(hN:9300000000000000000≤N)(hs:Short C Nm R)(hq: ∀r∈R,NdQ r.2.1)(hr: ∀r∈R,rtT r.2.1=true):F_231 N R=some (R.any fun r=>decide (wgt r.2.1>4000)):=by
 have hl:=hs.r;unfold F_231 F_111
 rw[loop_find R (fun r=>decide (wgt r.2.1>4000)) (fun i=>(i:Int)) (by omega) (fun i x hx=>by
  have hi:=lt_len hx;have hm:=List.mem_of_getElem? hx;have hc:=(hs.t x hm).1;unfold F_259 F_251;simp only[show((i:Int)<(R.length:Int)) by omega,decide_true,if_true,idx_of hx,bind,Option.bind_some];rw[weight_code hN (by omega) (hq x hm) (hr x hm),w64_succ (by omega)];rfl) (by unfold F_259;simp)]
 cases h:R.findIdx? (fun r=>decide (wgt r.2.1>4000))with
 |none=>
   have:R.any (fun r=>decide (wgt r.2.1>4000))=false:=List.any_eq_false.2 fun x hx=>by rw[List.findIdx?_eq_none_iff.1 h x hx];simp
   simp[this]
 |some k=>
   obtain⟨hk,hp,_⟩:=List.findIdx?_eq_some_iff_getElem.1 h;have:R.any (fun r=>decide (wgt r.2.1>4000))=true:=List.any_eq_true.2 ⟨_,List.getElem_mem hk,hp⟩;rw[this];simp
theorem ref_bad(hN:9300000000000000000≤N)(hs:Short C Nm R):iterO N (fun s=>F_186 N C R s) 0=some (if R.any (badR C.length)then .inr ([],[],4)else .inl ()):=by
 have hl:=hs.r;refine loop_any R (badR C.length) ([],[],4) (by omega) (fun i r hx=>?_) (by unfold F_186;simp);have hi:=lt_len hx;have hm:=List.mem_of_getElem? hx;have hc:=hs.t r hm;unfold F_186 badR;rw[if_pos (by simpa using hi),idx_of hx];simp only[bind,Option.bind_some];rw[right_ref hN (by omega)];simp only[Option.bind_some]
 rw[loop_any r.1 (badC C.length) (τ:=Int ⊕ (Unit ⊕ (List Stt×List Int×Int))) (.inr (.inr ([],[],4))) (by omega) (fun j c hy=>by
  have hj:=lt_len hy;unfold F_245 badC;rw[if_pos (by simpa using hj),idx_of hy];simp only[bind,Option.bind_some];rw[w64_succ (by omega)];by_cases c1:c<0<;>simp[c1]) (by unfold F_245;simp)]
 rw[w64_succ (by omega)];cases rtT r.2.1<;>cases r.1.any (badC C.length)<;>rfl
theorem ref_heavy(hN:9300000000000000000≤N)(hs:Short C Nm R)(hr: ∀r∈R,rtT r.2.1=true):iterO N (fun s=>F_187 N R s) 0=some (if R.any (fun r=>decide (wgt r.2.1>4000))then .inr ([],[],9)else .inl ()):=by
 have hl:=hs.r;refine loop_any R (fun r=>decide (wgt r.2.1>4000)) ([],[],9) (by omega) (fun i r hx=>?_) (by unfold F_187;simp);have hi:=lt_len hx;have hm:=List.mem_of_getElem? hx;have hc:=hs.t r hm;unfold F_187;rw[if_pos (by simpa using hi),idx_of hx];simp only[bind,Option.bind_some];rw[weight_ref _ _ rfl 1 N (RT.of (hr r hm)) (by omega) (by omega),w64_succ (by omega)];rfl
def ent(n:Nat):List Int:=(List.range n).map fun i:Nat=>(i:Int)
theorem ent_succ(n:Nat):ent (n+1)=ent n++ [(n:Int)]:=by
 unfold ent;rw[List.range_succ,List.map_append];rfl
theorem ent_len(n:Nat):(ent n).length=n:=by simp[ent]
theorem mkS_rep{n:Nat}(h:n<4000)(b:Bool):mkS (List.replicate n nw) b=(List.replicate (n+1) nw,b,(n:Int)):=by
 unfold mkS;rw[if_neg (by simp;omega),List.replicate_succ'];simp
theorem entry_code(hN:9300000000000000000≤N)(h8:C.length≤8):iterO N (fun s=>F_128 N C s.1 s.2.1 s.2.2.1 s.2.2.2) (0,[],[],0)=some (List.replicate C.length nw,ent C.length,0):=by
 refine iterO_for0 (fun i=>((i:Int),List.replicate i nw,ent i,(0:Int))) C.length rfl (by omega) (fun i hi=>?_) ?_
 ·show F_128 N C (i:Int) (List.replicate i nw) (ent i) 0=_;unfold F_128;have e:=state_code N (List.replicate i nw) (ent i) false;rw[mkS_rep (by omega)]at e;have e:F_42 N (List.replicate i nw) (ent i) 0=some (List.replicate (i+1) nw,ent i,0,(i:Int)):=e;have hl:=ent_len i;rw[if_pos (by simpa using hi),e];simp only[bind,Option.bind_some];rw[app_eq (by simp;omega),←ent_succ,w64_succ (by omega)];rfl
 show F_128 N C (C.length:Int) (List.replicate C.length nw) (ent C.length) 0=_;unfold F_128;simp
theorem entry_ref(hN:9300000000000000000≤N)(h8:C.length≤8):iterO N (fun s=>F_125 N C s.1 s.2.1 s.2.2.1 s.2.2.2) ([],[],false,0)=some (List.replicate C.length nw,ent C.length,false):=by
 refine iterO_for0 (fun i=>(List.replicate i nw,ent i,false,(i:Int))) C.length rfl (by omega) (fun i hi=>?_) ?_
 ·show F_125 N C (List.replicate i nw) (ent i) false (i:Int)=_;unfold F_125;have e:=state_ref N (List.replicate i nw) (ent i) false;rw[mkS_rep (by omega)]at e;have hl:=ent_len i;rw[if_pos (by simpa using hi),e];simp only[bind,Option.bind_some];rw[app_eq (by simp;omega),←ent_succ,w64_succ (by omega)];rfl
 show F_125 N C (List.replicate C.length nw) (ent C.length) false (C.length:Int)=_;unfold F_125;simp
structure Mid(n i:Nat)(S:List Stt):Prop where
 n:n≤S.length
 m:S.length≤4000
 s: ∀s∈S,SO S.length s
 f:sumF S≤50*i+4*S.length
 p:0<i→1≤S.length
theorem Mid.mi{n i:Nat}{S:List Stt}(h:Mid n i S)(hi:i≤48):MI S:=⟨h.m,h.s,by have:=h.f;omega⟩
theorem sumF_rep: ∀n:Nat,sumF (List.replicate n nw)=0
 |0=>rfl
 |n+1=>by
   rw[List.replicate_succ];simp only[sumF];rw[sumF_rep n];rfl
theorem Mid.start(n:Nat)(h:n≤8):Mid n 0 (List.replicate n nw):=by
 refine⟨by simp,by simp;omega,fun s hs=>?_,by rw[sumF_rep];omega,by omega⟩;rw[List.eq_of_mem_replicate hs];exact .nw (by omega)
theorem rule_step(hN:9300000000000000000≤N)(_:C.length≤8){i:Nat}(h48:R.length≤48){S:List Stt}(hS:Mid C.length i S){r:Rl}(hx:R[i]? =some r)(hc:cnt r.2.1<700∧r.1.length≤50)(hr:badR C.length r=false):
 (∃S',F_61 N R (i:Int) S (ent C.length) 0=some (.inl (((i+1:Nat):Int),S',ent C.length,0))∧F_60 N R S (ent C.length) false (i:Int)=some (.inl (S',ent C.length,false,((i+1:Nat):Int)))∧Mid C.length (i+1) S')∨
 (F_61 N R (i:Int) S (ent C.length) 0=some (.inr (.inr ([],[],2)))∧F_60 N R S (ent C.length) false (i:Int)=some (.inr (.inr ([],[],9)))):=by
 have hi:=lt_len hx;have hMI:=hS.mi (show i≤48 by omega);unfold badR at hr;simp only[Bool.or_eq_false_iff,Bool.not_eq_false']at hr;obtain⟨hrt,hcd⟩:=hr
 have hcd: ∀c∈r.1,0≤c∧c.toNat<C.length:=fun c hc=>by
  have:=List.any_eq_false.1 hcd c hc;unfold badC at this;simp at this;omega
 obtain⟨S1,b1,k,c1,c2,P1⟩:=st_ex N (ent C.length) false hMI;have c1:F_42 N S (ent C.length) 0=some (S1,ent C.length,er b1,k):=c1;have hl1:=P1.len;have hg1:=P1.g;have hn:=hS.n;have hf:=hS.f;have hm1:=P1.mi.n
 have he:b1=false→ ∀e∈r.1.map (fun c=>((c.toNat:Nat):Int)),0≤e∧e<S1.length:=fun _ e he=>by
  obtain⟨c,hc,rfl⟩:=List.mem_map.1 he;have:=hcd c hc;omega
 have hgi: ∀(j:Nat) (e:Int),(r.1.map (fun c=>((c.toNat:Nat):Int)))[j]? =some e→ ∃c,r.1[j]? =some c∧idx (ent C.length) c=some e:=fun j e hj=>by
  rw[List.getElem?_map]at hj;obtain⟨c,h1,rfl⟩:=Option.map_eq_some_iff.1 hj;have h2:=hcd c (List.mem_of_getElem? h1);refine⟨c,h1,?_⟩;unfold idx ent;rw[if_pos h2.1,List.getElem?_map,List.getElem?_range h2.2];rfl
 have f1:iterO N (fun s=>F_98 N r (er b1) k s.1 s.2.1 s.2.2) (S1,ent C.length,0)=some (frA S1 b1 k (r.1.map (fun c=>((c.toNat:Nat):Int))),ent C.length):=
  free_loop (f:=fun s=>F_98 N r (er b1) k s.1 s.2.1 s.2.2) (by simp;omega) (by simp;omega) (by omega) he (fun j e Z hx hz hs=>by
   have hj:j<r.1.length:=by simpa using lt_len hx
   obtain⟨c,g1,g2⟩:=hgi j e hx;show F_98 N r (er b1) k Z (ent C.length) (j:Int)=_;unfold F_98;rw[if_pos (by simpa using hj),idx_of g1];simp only[bind,Option.bind_some];rw[g2];simp only[Option.bind_some];rw[free_code hz hs (by simp),w64_succ (by omega)]
   rfl) (fun Z=>by
   show F_98 N r (er b1) k Z (ent C.length) (((r.1.map (fun c=>((c.toNat:Nat):Int))).length:Nat):Int)=_;unfold F_98;simp)
 have f2:iterO N (fun s=>F_95 N r b1 k s.1 s.2.1 s.2.2) (S1,ent C.length,0)=some (frA S1 b1 k (r.1.map (fun c=>((c.toNat:Nat):Int))),ent C.length):=
  free_loop (f:=fun s=>F_95 N r b1 k s.1 s.2.1 s.2.2) (by simp;omega) (by simp;omega) (by omega) he (fun j e Z hx hz hs=>by
   have hj:j<r.1.length:=by simpa using lt_len hx
   obtain⟨c,g1,g2⟩:=hgi j e hx;show F_95 N r b1 k Z (ent C.length) (j:Int)=_;unfold F_95;rw[if_pos (by simpa using hj),idx_of g1];simp only[bind,Option.bind_some];rw[g2];simp only[Option.bind_some];rw[free_ref hz hs,w64_succ (by omega)]
   rfl) (fun Z=>by
   show F_95 N r b1 k Z (ent C.length) (((r.1.map (fun c=>((c.toNat:Nat):Int))).length:Nat):Int)=_;unfold F_95;simp)
 have hfs:=frA_sum (t:=k) (r.1.map (fun c=>((c.toNat:Nat):Int))) S1 he;have hfl:=frA_len b1 k (r.1.map (fun c=>((c.toNat:Nat):Int))) S1;have hfo:=frA_so (b:=b1) (n:=(S1.length:Int)) P1.val (r.1.map (fun c=>((c.toNat:Nat):Int))) S1 P1.mi.s
 have hfs2:sumF (frA S1 b1 k (r.1.map (fun c=>((c.toNat:Nat):Int))))≤sumF S1+50:=by
  rw[hfs]
  have:(if b1=true then 0 else(r.1.map (fun c=>((c.toNat:Nat):Int))).length)≤50:=by
   split
   ·omega
   simp;omega
  omega
 generalize frA S1 b1 k (r.1.map (fun c=>((c.toNat:Nat):Int)))=S2 at f1 f2 hfl hfo hfs2;have hMI2:MI S2:=⟨by omega,fun s hs=>by rw[hfl];exact hfo s hs,by omega⟩;obtain⟨S3,b3,e,q1,q2,P3⟩:=tree_spec _ r.2.1 rfl 1 N (E:=ent C.length) (RT.of hrt) (by omega) (by omega) S2 b1 k hMI2 (by rw[hfl];exact P1.val);have hl3:=P3.len;have hg3:=P3.g
 cases hb3:b3 with
 |true=>
   subst hb3;refine .inr ⟨?_,?_⟩
   ·unfold F_61;rw[if_pos (by simpa using hi),idx_of hx];simp only[bind,Option.bind_some];rw[c1];simp only[Option.bind_some];rw[f1];simp only[Option.bind_some];rw[q1];simp only[Option.bind_some];rw[eOk_er];rfl
   unfold F_60;rw[if_pos (by simpa using hi),idx_of hx];simp only[bind,Option.bind_some];rw[c2];simp only[Option.bind_some];rw[f2];simp only[Option.bind_some];rw[q2];rfl
 |false=>
   subst hb3;have hv:=P3.val rfl;obtain⟨x,hxe⟩:=get_of hv;have hle:=lt_len hxe;have i1:idx S3 e=some x:=by unfold idx;rw[if_pos hv.1,hxe]
   have hxo:=P3.mi.s x (List.mem_of_getElem? hxe);have hs:=sumF_set S3 e.toNat x (x.1,x.2.1,x.2.2.1,(i:Int)) hxe;simp only at hs;have hn3:(S3.set e.toNat (x.1,x.2.1,x.2.2.1,(i:Int))).length=S3.length:=by simp
   refine .inl ⟨S3.set e.toNat (x.1,x.2.1,x.2.2.1,(i:Int)),?_,?_,⟨by omega,by rw[hn3];exact P3.mi.n,fun s hs'=>?_,by omega,fun _=>by omega⟩⟩
   ·unfold F_61;rw[if_pos (by simpa using hi),idx_of hx];simp only[bind,Option.bind_some];rw[c1];simp only[Option.bind_some];rw[f1];simp only[Option.bind_some];rw[q1];simp only[Option.bind_some];rw[eOk_er,if_neg Bool.false_ne_true,i1];simp only[Option.bind_some];rw[setI_int hv.1 hle,w64_succ (by omega)];rfl
   ·unfold F_60;rw[if_pos (by simpa using hi),idx_of hx];simp only[bind,Option.bind_some];rw[c2];simp only[Option.bind_some];rw[f2];simp only[Option.bind_some];rw[q2];simp only[Option.bind_some];rw[if_neg Bool.false_ne_true,i1];simp only[Option.bind_some];rw[setI_int hv.1 hle,w64_succ (by omega)];rfl
   rw[hn3];rcases List.mem_or_eq_of_mem_set hs' with hs'|hs'
   ·exact P3.mi.s s hs'
   subst hs';exact⟨hxo.to,hxo.set0,⟨by simp only;omega,by simp only;omega⟩,hxo.free⟩
theorem rules_loop(hN:9300000000000000000≤N)(h8:C.length≤8)(h48:R.length≤48)(hc: ∀r∈R,cnt r.2.1<700∧r.1.length≤50)(hr: ∀r∈R,badR C.length r=false): ∀(j i K:Nat) (S:List Stt),i+j=R.length→j<K→Mid C.length i S→
 (∃S',iterO K (fun s=>F_61 N R s.1 s.2.1 s.2.2.1 s.2.2.2) ((i:Int),S,ent C.length,0)=some (.inl (S',ent C.length,0))∧iterO K (fun s=>F_60 N R s.1 s.2.1 s.2.2.1 s.2.2.2) (S,ent C.length,false,(i:Int))=some (.inl (S',ent C.length,false))∧Mid C.length R.length S')∨
 (iterO K (fun s=>F_61 N R s.1 s.2.1 s.2.2.1 s.2.2.2) ((i:Int),S,ent C.length,0)=some (.inr ([],[],2))∧iterO K (fun s=>F_60 N R s.1 s.2.1 s.2.2.1 s.2.2.2) (S,ent C.length,false,(i:Int))=some (.inr ([],[],9))):=by
 intro j
 induction j with
 |zero=>
   intro i K S hi hK hS;obtain⟨K,rfl⟩: ∃m,K=m+1:=⟨K-1,by omega⟩;obtain rfl:i=R.length:=by omega
   refine .inl ⟨S,?_,?_,hS⟩
   ·simp[iterO,F_61]
   simp[iterO,F_60]
 |succ j ih=>
   intro i K S hi hK hS;obtain⟨K,rfl⟩: ∃m,K=m+1:=⟨K-1,by omega⟩;have hlt:i<R.length:=by omega
   have hx:R[i]? =some R[i]:=List.getElem?_eq_getElem hlt;have hm:=List.mem_of_getElem? hx;rcases rule_step hN h8 h48 hS hx (hc _ hm) (hr _ hm)with⟨S',g1,g2,g3⟩|⟨g1,g2⟩
   ·have:=ih (i+1) K S' (by omega) (by omega) g3;simp only[iterO,g1,g2];exact this
   refine .inr ⟨?_,?_⟩
   ·simp only[iterO,g1]
   simp only[iterO,g2]
theorem build_spec(hN:9300000000000000000≤N)(hs:Short C Nm R)(hq: ∀r∈R,NdQ r.2.1):
 (∃S E,F_12 N C Nm R=some (S,E,0)∧F_8 N C Nm R=some (S,E,0)∧NSz S E∧NRt S E∧E=ent C.length)∨
 (F_12 N C Nm R=some ([],[],1)∧F_8 N C Nm R=some ([],[],4))∨(F_12 N C Nm R=some ([],[],2)∧F_8 N C Nm R=some ([],[],9)):=by
 have hb:=ref_bad hN hs;unfold F_12 F_8;rw[buildable_code hN hs hq,lens_code];simp only[bind,Option.bind_some]
 cases hl:lens C R with
 |true=>exact .inr (.inl ⟨rfl,rfl⟩)
 |false=>
   unfold lens at hl;simp only[Bool.or_eq_false_iff,decide_eq_false_iff_not]at hl;rw[hb];simp only[Option.bind_some]
   cases hbad:R.any (badR C.length)with
   |true=>exact .inr (.inl ⟨rfl,rfl⟩)
   |false=>
     have hbr: ∀r∈R,badR C.length r=false:=fun r hr=>by simpa using List.any_eq_false.1 hbad r hr
     have hrt: ∀r∈R,rtT r.2.1=true:=fun r hr=>by
      have:=hbr r hr;unfold badR at this;simp only[Bool.or_eq_false_iff,Bool.not_eq_false']at this;exact this.1
     rw[heavy_any hN hs hq hrt,ref_heavy hN hs hrt];simp only[Option.bind_some,Bool.not_false,Bool.and_self,Bool.not_true,Bool.false_eq_true,if_false]
     cases hh:R.any (fun r=>decide (wgt r.2.1>4000))with
     |true=>exact .inr (.inr ⟨rfl,rfl⟩)
     |false=>
       simp only[Bool.false_eq_true,if_false];rw[entry_code hN (by omega),entry_ref hN (by omega)];simp only[Option.bind_some];rcases rules_loop hN (by omega) (by omega) hs.t hbr R.length 0 N (List.replicate C.length nw) (by omega) (by omega) (Mid.start _ (by omega))with⟨S',g1,g2,g3⟩|⟨g1,g2⟩
       ·have g1:iterO N (fun s=>F_61 N R s.1 s.2.1 s.2.2.1 s.2.2.2) (0,List.replicate C.length nw,ent C.length,0)=_:=g1;have g2:iterO N (fun s=>F_60 N R s.1 s.2.1 s.2.2.1 s.2.2.2) (List.replicate C.length nw,ent C.length,false,0)=_:=g2;have hn:=g3.n;have hm:=g3.m;have hf:=g3.f;have hel:=ent_len C.length;refine .inl ⟨S',ent C.length,?_,?_,⟨by omega,by omega,fun s hs'=>?_⟩,⟨g3.p (by omega),g3.m,by omega,by omega,fun x hx=>?_,fun s hs'=>(g3.s s hs').to,fun s hs'=>(g3.s s hs').set0,fun s hs'=>(g3.s s hs').rul,fun s hs'=>(g3.s s hs').free⟩,rfl⟩
        ·rw[g1];rfl
        ·rw[g2];rfl
        ·obtain⟨j,hj,rfl⟩:=List.getElem_of_mem hs';have:=sumF_get (List.getElem?_eq_getElem hj);omega
        unfold ent at hx;obtain⟨j,hj,rfl⟩:=List.mem_map.1 hx;have:=List.mem_range.1 hj;omega
       have g1:iterO N (fun s=>F_61 N R s.1 s.2.1 s.2.2.1 s.2.2.2) (0,List.replicate C.length nw,ent C.length,0)=_:=g1;have g2:iterO N (fun s=>F_60 N R s.1 s.2.1 s.2.2.1 s.2.2.2) (List.replicate C.length nw,ent C.length,false,0)=_:=g2;refine .inr (.inr ⟨?_,?_⟩)
       ·rw[g1];rfl
       rw[g2];rfl
theorem num1(hN:20≤N):F_122 N 1=some 4:=by
 obtain⟨M,rfl⟩: ∃m,N=m+20:=⟨N-20,by omega⟩;rfl
theorem num2(hN:20≤N):F_122 N 2=some 9:=by
 obtain⟨M,rfl⟩: ∃m,N=m+20:=⟨N-20,by omega⟩;rfl
end
open Go Go.Eng
set_option maxRecDepth 100000
theorem ba_eq(a b:ByteArray):(a.toList==b.toList)=decide (a=b):=by
 rw[ba_toList,ba_toList,Bool.eq_iff_iff,beq_iff_eq,decide_eq_true_eq];exact⟨ba_ext,fun h=>by rw[h]⟩
theorem ba_ne(a b:ByteArray):(a.toList != b.toList)= !decide (a=b):=by
 show(!(a.toList==b.toList))=_;rw[ba_eq]
theorem ba_emp(a:ByteArray):decide (a=ByteArray.empty)=decide (a.size=0):=by
 rw[←ba_eq,emp_sl]
def memB(l:List ByteArray)(s:ByteArray):Bool:=l.any fun x=>decide (x=s)
theorem memB_iff{l:List ByteArray}{s:ByteArray}:memB l s=true↔s∈l:=by
 unfold memB;rw[List.any_eq_true];constructor
 ·rintro⟨x,hx,he⟩;simp at he;exact he▸hx
 intro h;exact⟨s,h,by simp⟩
theorem memB_f{l:List ByteArray}{s:ByteArray}:memB l s=false↔s∉l:=by
 rw[←memB_iff];simp
def plc(l:List ByteArray)(s:ByteArray):Int:=
 match l.findIdx? (fun x=>decide (x=s))with
 |some i=>(i:Int)
 |none=> -1
theorem plc_some{l:List ByteArray}{s:ByteArray}(h:s∈l): ∃i:Nat,plc l s=(i:Int)∧l[i]? =some s∧ ∀j,j<i→l[j]? ≠some s:=by
 unfold plc
 cases hf:l.findIdx? (fun x=>decide (x=s))with
 |none=>
   have:=List.findIdx?_eq_none_iff.1 hf s h;simp at this
 |some i=>
   obtain⟨hi,hp,hl⟩:=List.findIdx?_eq_some_iff_getElem.1 hf;refine⟨i,rfl,?_,fun j hj he=>?_⟩
   ·rw[List.getElem?_eq_getElem hi];simp at hp;rw[hp]
   have:=hl j hj;rw[List.getElem?_eq_getElem (by omega)]at he;simp at this;exact this (Option.some.inj he)
theorem plc_none{l:List ByteArray}{s:ByteArray}(h:s∉l):plc l s= -1:=by
 unfold plc
 have:l.findIdx? (fun x=>decide (x=s))=none:=List.findIdx?_eq_none_iff.2 fun x hx=>by
  simp;intro e;exact h (e▸hx)
 rw[this]
theorem plc_ge(l:List ByteArray)(s:ByteArray):decide (plc l s≥0)=memB l s:=by
 by_cases h:s∈l
 ·obtain⟨i,e,_⟩:=plc_some h;rw[e,memB_iff.2 h];simp
 rw[plc_none h,memB_f.2 h];simp
theorem plc_lt(l:List ByteArray)(s:ByteArray):decide (plc l s<0)= !memB l s:=by
 by_cases h:s∈l
 ·obtain⟨i,e,_⟩:=plc_some h;rw[e,memB_iff.2 h];simp
 rw[plc_none h,memB_f.2 h];simp
section
variable {N:Nat}{l:List ByteArray}
theorem index_spec(hN:9300000000000000000≤N)(hl:l.length≤1000000)(s:ByteArray):F_26 N l s=some (plc l s):=by
 unfold F_26 plc
 rw[loop_find l (fun x=>decide (x=s)) (fun i=>(i:Int)) (by omega) (fun i x hx=>by
  have hi:=lt_len hx;unfold F_72;rw[if_pos (by simpa using hi),idx_of hx];simp only[bind,Option.bind_some,ba_eq];rw[w64_succ (by omega)];by_cases h:x=s
  ·simp[h]
  have: ¬s=x:=fun e=>h e.symm;simp[h,this]) (by unfold F_72;simp)]
 cases l.findIdx? (fun x=>decide (x=s))<;>rfl
theorem contains_spec(hN:9300000000000000000≤N)(hl:l.length≤1000000)(s:ByteArray):F_49 N l s=some (memB l s):=by
 unfold F_49;rw[index_spec hN hl];simp only[bind,Option.bind_some];rw[plc_ge]
def badU(l:List ByteArray)(i:Nat):Bool:=match l[i]? with
 |some x=> !nmB (sl x)||memB (l.take i) x
 |none=>false
def ulB(l:List ByteArray):Bool:= !(List.range l.length).any (badU l)
theorem slc_take{α:Type}{l:List α}{i:Nat}(h:i≤l.length):slc l 0 (i:Int)=some (l.take i):=by
 unfold slc;rw[if_pos (by omega)];simp
theorem unlike_code(hN:9300000000000000000≤N)(hl:l.length≤1000000)(hs: ∀s∈l,s.size≤maxLen):F_62 N l=some (ulB l):=by
 unfold F_62 ulB
 rw[loop_any (List.range l.length) (badU l) false (by simp;omega) (fun i x hx=>by
  obtain⟨hi,rfl⟩:=range_get hx;have hx:l[x]? =some l[x]:=List.getElem?_eq_getElem hi;unfold badU;rw[hx];generalize l[x]=s at hx;unfold F_254;rw[if_pos (by simpa using hi),idx_of hx];simp only[bind,Option.bind_some];rw[nm_code hN (hs s (List.mem_of_getElem? hx)),slc_take (by omega)];simp only[Option.bind_some];rw[contains_spec hN (by simp;omega),w64_succ (by omega)];by_cases h1:nmB (sl s)=true<;>by_cases h2:memB (l.take x) s=true<;>simp[h1,h2]) (by unfold F_254;simp)]
 cases(List.range l.length).any (badU l)<;>rfl
theorem ulB_mem(h:ulB l=true): ∀s∈l,nmB (sl s)=true:=fun s hs=>by
 obtain⟨i,hi,rfl⟩:=List.getElem_of_mem hs;unfold ulB at h;rw[Bool.not_eq_true',List.any_eq_false]at h;have:=h i (by simpa using hi);unfold badU at this;rw[List.getElem?_eq_getElem hi]at this;simp at this;exact this.1
theorem ulB_nd(h:ulB l=true):l.Nodup:=by
 rw[List.nodup_iff_pairwise_ne,List.pairwise_iff_getElem];intro i j hi hj hij he;unfold ulB at h;rw[Bool.not_eq_true',List.any_eq_false]at h;have:=h j (by simpa using hj);unfold badU at this;rw[List.getElem?_eq_getElem hj]at this;simp at this;have h3:=memB_f.1 this.2;refine h3 ?_;rw[←he];exact List.mem_of_getElem? (i:=i) (by rw[List.getElem?_take_of_lt hij];exact List.getElem?_eq_getElem hi)
end
abbrev Lt:=ByteArray×Nd×Int
abbrev On:=List ByteArray×Nd×(ByteArray×ByteArray)×Int
structure LOk(x:Lt):Prop where
 t:cnt x.2.1<700
 n:x.1.size≤50
structure OOk(x:On):Prop where
 t:cnt x.2.1<700
 c:x.1.length≤500
 s: ∀s∈x.1,s.size≤500
 e:x.2.2.1.1.size≤50
 b:x.2.2.1.2.size≤50
structure Fsz(C:List ByteArray)(Ls:List Lt)(Os:List On):Prop where
 c:C.length≤20
 s: ∀s∈C,s.size≤500
 l:Ls.length≤40
 o:Os.length≤60
 lt: ∀x∈Ls,LOk x
 ot: ∀x∈Os,OOk x
open Go Go.Eng
set_option maxRecDepth 100000
mutual
def lone:Nd→Bool
 | .mk k _ l _ _ _=>(k==2&&l.length==1)||loneL l
def loneL:List Nd→Bool
 | []=>false
 |x::l=>lone x||loneL l
end
theorem lone_un(t:Nd):lone t=((t.un.1==2&&(kd t).length==1)||loneL (kd t)):=by
 cases t;simp only[lone];rfl
theorem loneL_any: ∀l:List Nd,loneL l=l.any lone
 | []=>by simp only[loneL,List.any_nil]
 |x::l=>by simp only[loneL,List.any_cons];rw[loneL_any l]
theorem lone_code: ∀(c:Nat) (t:Nd),cnt t=c→ ∀N,cnt t+5≤N→cnt t<100000→
 F_46 N t.un.1 t.un.2.1.1 t.un.2.1.2.1 t.un.2.1.2.2.1 t.un.2.1.2.2.2 t.un.2.2.1 t.un.2.2.2.1 t.un.2.2.2.2.1 t.un.2.2.2.2.2=some (lone t):=by
 intro c
 induction c using Nat.strongRecOn with
 |ind c IH=>
   intro t hc N hN hb;obtain⟨M,rfl⟩: ∃m,N=m+1:=⟨N-1,by omega⟩;have hcu:=cnt_un t;have hll:=cntL_len (kd t);rw[F_46,lone_un,show((t.un.2.2.1.length:Int)==1)=((kd t).length==1)from beq_nat _ 1]
   have e:=loop_any (f:=fun s=>F_195 M (F_46 M) (kd t) s) (kd t) lone true (N:=M) (by omega) (fun i x hx=>by
    have hi:=lt_len hx;have hm:=cnt_kid (List.mem_of_getElem? hx);unfold F_195;rw[if_pos (by simpa using hi),idx_of hx];simp only[bind,Option.bind_some];rw[IH (cnt x) (by omega) x rfl M (by omega) (by omega),w64_succ (by omega)];rfl) (by unfold F_195;simp)
   rw[e,loneL_any];generalize(kd t).any lone=q;generalize((kd t).length==1)=p;generalize(t.un.1==2)=k;cases k<;>cases p<;>cases q<;>rfl
theorem plain_code{N:Nat}{t:Nd}(hN:9300000000000000000≤N)(hc:cnt t<1000)(hq:NdQ t):
 F_157 N t.un.1 t.un.2.1.1 t.un.2.1.2.1 t.un.2.1.2.2.1 t.un.2.1.2.2.2 t.un.2.2.1 t.un.2.2.2.1 t.un.2.2.2.2.1 t.un.2.2.2.2.2=some (rtT t&& !lone t):=by
 unfold F_157;rw[right_code hN hc hq,lone_code _ t rfl N (by omega) (by omega)];cases rtT t<;>cases lone t<;>rfl
open Go Go.Eng
set_option maxRecDepth 100000
mutual
theorem wk_cnt: ∀(lv:Nat) (t:Nd),RT lv t→(wk lv t).length=cnt t
 |lv,.mk k s l a b t,h=>by
   have h24:=h.node.1;have hk: ∀x∈l,RT (lv+1) x:=fun x hx=>h.kid (t:= .mk k s l a b t) hx;simp only[wk,cnt];rw[if_neg (by omega),List.length_cons,wkL_cnt (lv+1) l hk];omega
theorem wkL_cnt: ∀(lv:Nat) (l:List Nd),(∀x∈l,RT lv x)→(wkL lv l).length=cntL l
 |_,[],_=>by simp only[wkL,cntL,List.length_nil]
 |lv,x::l,h=>by
   simp only[wkL,cntL,List.length_append];rw[wk_cnt lv x (h x (List.mem_cons_self ..)),wkL_cnt lv l fun y hy=>h y (List.mem_cons_of_mem _ hy)]
end
theorem rtT_of{t:Nd}(h:RT 1 t)(hc:cnt t≤600):rtT t=true:=by
 unfold rtT;rw[wk_cnt 1 t h,List.all_eq_true.2 h];simpa using hc
section
variable {N:Nat}
def mayB(s:ByteArray):Bool:=decide (s.size=0)||nmB (sl s)
theorem act_code(hN:9300000000000000000≤N){a b:ByteArray}(ha:a.size≤maxLen)(hb:b.size≤maxLen):F_181 N a b=some (mayB a&&mayB b):=by
 have m: ∀{s:ByteArray},s.size≤maxLen→F_146 N s=some (mayB s):=fun{s} hs=>by
  unfold F_146 mayB;rw[emp_sl,nm_code hN hs];by_cases h:s.size=0
  ·simp[h]
  simp[h]
 unfold F_181;rw[m ha,m hb];cases mayB a<;>cases mayB b<;>rfl
def badO(x:On):Bool:=decide (x.1.length=0)||(!ulB x.1||(!(rtT x.2.1&& !lone x.2.1)|| !(mayB x.2.2.1.1&&mayB x.2.2.1.2)))
def rfB(C:List ByteArray)(Ls:List Lt)(Os:List On):Bool:=
 Ls.all (fun x=>rtT x.2.1&& !lone x.2.1)&&(Os.all (fun x=> !badO x)&&
  (decide (1≤C.length)&&(decide (C.length≤8)&&(decide (Ls.length≤32)&&(decide (Os.length≤48)&&
   (decide (C[0]? =some ⟨#[109,97,105,110]⟩)&&(ulB C&&ulB (Ls.map (·.1)))))))))
structure LQ(x:Lt):Prop where
 c:cnt x.2.1<700
 q:NdQ x.2.1
 n:x.1.size≤50
structure OQ(x:On):Prop where
 o:OOk x
 q:NdQ x.2.1
theorem cap_big:500≤maxLen:=by decide
theorem ons_code(hN:9300000000000000000≤N){Os:List On}(ho:Os.length≤60)(hq: ∀x∈Os,OQ x):
 iterO N (fun s=>F_223 N Os s) 0=some (if Os.any badO then .inr false else .inl ()):=by
 rw[loop_any Os badO false (by omega) (fun i x hx=>by
  have hi:=lt_len hx;have h:=hq x (List.mem_of_getElem? hx);have hc:=cap_big;unfold F_223;rw[if_pos (by simpa using hi),idx_of hx];simp only[bind,Option.bind_some];rw[unlike_code hN (by have:=h.o.c;omega) (fun s hs=>by have:=h.o.s s hs;omega),plain_code hN (by have:=h.o.t;omega) h.q,act_code hN (by have:=h.o.e;omega) (by have:=h.o.b;omega),w64_succ (by omega)];have e:((x.1.length:Int)==0)=decide (x.1.length=0):=decide_eq_decide.2 (by omega);rw[e];unfold badO;cases decide (x.1.length=0)<;>cases ulB x.1<;>cases(rtT x.2.1&& !lone x.2.1)<;>cases(mayB x.2.2.1.1&&mayB x.2.2.1.2)<;>rfl) (by unfold F_223;simp)]
theorem lets_code(hN:9300000000000000000≤N){Ls:List Lt}(hl:Ls.length≤40)(hq: ∀x∈Ls,LQ x): ∀(r i K:Nat) (acc:List ByteArray),i+r=Ls.length→r<K→acc.length=i→
 iterO K (fun s=>F_136 N Ls s.1 s.2) ((i:Int),acc)=some (if(Ls.drop i).all (fun x=>rtT x.2.1&& !lone x.2.1)then .inl (acc++(Ls.drop i).map (·.1))else .inr false):=by
 intro r
 induction r with
 |zero=>
   intro i K acc hi hK ha;obtain⟨K,rfl⟩: ∃m,K=m+1:=⟨K-1,by omega⟩;rw[List.drop_eq_nil_of_le (by omega)];simp only[iterO,F_136];rw[if_neg (by simp;omega)];simp
 |succ r ih=>
   intro i K acc hi hK ha;obtain⟨K,rfl⟩: ∃m,K=m+1:=⟨K-1,by omega⟩;have hlt:i<Ls.length:=by omega
   have hx:Ls[i]? =some Ls[i]:=List.getElem?_eq_getElem hlt;rw[List.drop_eq_getElem_cons hlt];generalize Ls[i]=x at hx;have h:=hq x (List.mem_of_getElem? hx)
   have hs:F_136 N Ls (i:Int) acc=some (if(rtT x.2.1&& !lone x.2.1)=true then .inl (((i+1:Nat):Int),acc++ [x.1])else .inr (.inr false)):=by
    unfold F_136;rw[if_pos (by simpa using hlt),idx_of hx];simp only[bind,Option.bind_some];rw[plain_code hN (by have:=h.c;omega) h.q,w64_succ (by omega),app_eq (by simp;omega)];cases(rtT x.2.1&& !lone x.2.1)<;>rfl
   simp only[iterO,hs,List.all_cons,List.map_cons]
   cases hc:(rtT x.2.1&& !lone x.2.1)with
   |false=>simp
   |true=>
     simp only[if_true,Bool.true_and];rw[ih (i+1) K (acc++ [x.1]) (by omega) (by omega) (by simp[ha])];simp
theorem not_any{α:Type}{p:α→Bool}: ∀l:List α,(l.all fun x=> !p x)= !l.any p
 | []=>rfl
 |x::l=>by simp only[List.all_cons,List.any_cons,not_any l,Bool.not_or]
theorem first_main{C:List ByteArray}{x:ByteArray}(h:C[0]? =some x):(x.toList==(⟨#[109,97,105,110]⟩:ByteArray).toList)=decide (C[0]? =some ⟨#[109,97,105,110]⟩):=by
 rw[ba_eq,h];simp
theorem nat_ge(n:Nat):decide ((n:Int)≥1)=decide (1≤n):=decide_eq_decide.2 (by omega)
theorem nat_8(n:Nat):decide ((n:Int)≤8)=decide (n≤8):=decide_eq_decide.2 (by omega)
theorem nat_32(n:Nat):decide ((n:Int)≤32)=decide (n≤32):=decide_eq_decide.2 (by omega)
theorem nat_48(n:Nat):decide ((n:Int)≤48)=decide (n≤48):=decide_eq_decide.2 (by omega)
theorem rf_code{C:List ByteArray}{Ls:List Lt}{Os:List On}(hN:9300000000000000000≤N)(hl:Ls.length≤40)(ho:Os.length≤60)(hC:C.length≤20)(hs: ∀s∈C,s.size≤500)
 (hq: ∀x∈Ls,LQ x) (hp: ∀x∈Os,OQ x):F_36 N C Ls Os=some (rfB C Ls Os):=by
 have hc:=cap_big;unfold F_36 rfB;have g:=lets_code hN hl hq Ls.length 0 N [] (by omega) (by omega) rfl;rw[List.drop_zero,List.nil_append]at g;rw[show iterO N (fun s=>F_136 N Ls s.1 s.2) (0,[])=_ from g,ons_code hN ho hp,not_any Os]
 cases Ls.all fun x=>rtT x.2.1&& !lone x.2.1 with
 |false=>rfl
 |true=>
   simp only[bind,Option.bind_some,if_true,Bool.true_and]
   cases Os.any badO with
   |true=>rfl
   |false=>
     simp only[Bool.false_eq_true,if_false,Bool.not_false,Bool.true_and,List.length_map];rw[nat_ge,nat_8,nat_32,nat_48];by_cases h1:1≤C.length
     case neg=>simp[h1]
     obtain⟨x,hx⟩: ∃x,C[0]? =some x:=⟨C[0],List.getElem?_eq_getElem (by omega)⟩
     rw[show idx C 0=some x from idx_of (i:=0) hx,unlike_code hN (by omega) (fun s h=>by have:=hs s h;omega),
      unlike_code hN (by simp;omega) (fun s h=>by obtain⟨y,hy,rfl⟩:=List.mem_map.1 h;have:=(hq y hy).n;omega)]
     simp only[Option.bind_some,first_main hx];cases decide (1≤C.length)<;>cases decide (C.length≤8)<;>cases decide (Ls.length≤32)<;>cases decide (Os.length≤48)<;>cases decide (C[0]? =some ⟨#[109,97,105,110]⟩)<;>cases ulB C<;>rfl
end
open Go Go.Eng
set_option maxRecDepth 100000
abbrev tx(t:Nd):ByteArray:=t.un.2.2.2.2.2
def wkd(t:Nd)(l:List Nd):Nd:=Nd.of (t.un.1,(t.un.2.1.1,t.un.2.1.2.1,t.un.2.1.2.2.1,t.un.2.1.2.2.2),l,t.un.2.2.2.1,t.un.2.2.2.2.1,t.un.2.2.2.2.2)
mutual
def okA:Nd→Bool
 | .mk k s l a b t=>okT (.mk k s l a b t)&&okAL l
def okAL:List Nd→Bool
 | []=>true
 |x::l=>okA x&&okAL l
end
theorem okA_un(t:Nd):okA t=(okT t&&okAL (kd t)):=by
 cases t;simp only[okA];rfl
theorem okAL_mem{x:Nd}: ∀{l:List Nd},okAL l=true→x∈l→okA x=true
 |y::l,h,hx=>by
   simp only[okAL,Bool.and_eq_true]at h;rcases List.mem_cons.1 hx with rfl|hx
   ·exact h.1
   exact okAL_mem h.2 hx
mutual
theorem okA_of: ∀(lv:Nat) (t:Nd),RT lv t→okA t=true
 |lv,.mk k s l a b t,h=>by
   have hk: ∀x∈l,RT (lv+1) x:=fun x hx=>h.kid (t:= .mk k s l a b t) hx;simp only[okA,Bool.and_eq_true];exact⟨h.node.2,okAL_of (lv+1) l hk⟩
theorem okAL_of: ∀(lv:Nat) (l:List Nd),(∀x∈l,RT lv x)→okAL l=true
 |_,[],_=>by simp only[okAL]
 |lv,x::l,h=>by
   simp only[okAL,Bool.and_eq_true];exact⟨okA_of lv x (h x (List.mem_cons_self ..)),okAL_of lv l fun y hy=>h y (List.mem_cons_of_mem _ hy)⟩
end
theorem wkL_mem'{lv:Nat}{y:Nd×Int}: ∀{l:List Nd},y∈wkL lv l→ ∃x∈l,y∈wk lv x
 | [],h=>by simp[wkL]at h
 |z::l,h=>by
   simp only[wkL]at h;rcases List.mem_append.1 h with h|h
   ·exact⟨z,List.mem_cons_self ..,h⟩
   obtain⟨x,hx,h⟩:=wkL_mem' h;exact⟨x,List.mem_cons_of_mem _ hx,h⟩
theorem RT.mk{lv:Nat}{t:Nd}(h1:lv≤24)(h2:okT t=true)(h3: ∀x∈kd t,RT (lv+1) x):RT lv t:=fun y hy=>by
 rw[wk_un,if_neg (by omega)]at hy;rcases List.mem_cons.1 hy with rfl|hy
 ·unfold okX;rw[h2];simp;omega
 obtain⟨x,hx,hy⟩:=wkL_mem' hy;exact h3 x hx y hy
theorem okT_tx{t:Nd}(h:okT t=true)(hk:(t.un.1==5)=false):tx t=ByteArray.empty:=by
 unfold okT okB bareB at h;rw[hk]at h;simp only[Bool.and_eq_true,Bool.false_or]at h;have h:=h.1.2;rw[ba_eq]at h;simpa using h
inductive SE where
 |none
 |loop
 |deep
 |lim
def SE.code:SE→Int
 | .none=>15
 | .loop=>9
 | .deep=>8
 | .lim=>2
theorem SE.ok(e:SE):eOk errIds e.code=true:=by cases e<;>decide
abbrev Bk:=List (ByteArray×Nd)
def fnd(B:Bk)(s:ByteArray):Option Nd:=(B.find? fun e=>decide (e.1=s)).map (·.2)
theorem babeq(a b:ByteArray):(a==b)=true↔a=b:=by
 obtain⟨a⟩:=a;obtain⟨b⟩:=b;show ByteArray.beq ⟨a⟩ ⟨b⟩=true↔_;unfold ByteArray.beq;simp
theorem mget_fnd(B:Bk)(s:ByteArray):mget B s=fnd B s:=by
 unfold mget fnd
 congr 2
 funext e;rw[Bool.eq_iff_iff,babeq];simp
def sprL(f:Nd→Nat→SE ⊕ (Nd×Nat)):List Nd→Nat→SE ⊕ (List Nd×Nat)
 | [],m=> .inr ([],m)
 |x::l,m=>match f x m with
   | .inl e=> .inl e
   | .inr (y,m')=>match sprL f l m' with
     | .inl e=> .inl e
     | .inr (ys,m'')=> .inr (y::ys,m'')
def spr(B:Bk):Nat→Nd→Nat→Nat→List ByteArray→SE ⊕ (Nd×Nat)
 |0,_,_,_,_=> .inl .deep
 |k+1,t,lv,m,p=>
   if(t.un.1==5)=true then
    match fnd B (tx t)with
    |none=> .inl .none
    |some u=>if memB p (tx t)=true then .inl .loop else spr B k u lv m (p++ [tx t])
   else if 24<lv then .inl .deep else if 600≤m then .inl .lim else
    match sprL (fun x m=>spr B k x (lv+1) m p) (kd t) (m+1)with
    | .inl e=> .inl e
    | .inr (ks,m')=> .inr (wkd t ks,m')
theorem fnd_mem{B:Bk}{s:ByteArray}{u:Nd}(h:fnd B s=some u):(s,u)∈B:=by
 unfold fnd at h
 cases hf:B.find? fun e=>decide (e.1=s)with
 |none=>rw[hf]at h;cases h
 |some e=>
   rw[hf]at h;have h1:=List.find?_some hf;have h2:=List.mem_of_find?_eq_some hf;simp at h h1;subst h h1;exact h2
theorem ndQ_wkd{t:Nd}{l:List Nd}(h:NdQ t)(hl: ∀x∈l,NdQ x):NdQ (wkd t l):=NdQ.of h.text hl
theorem wkd_okT{t:Nd}{l:List Nd}(h:l.length=(kd t).length):okT (wkd t l)=okT t:=by
 cases t;unfold okT;show okB _ _ l.length _ _ _ _=_;rw[h];rfl
structure GT(t:Nd):Prop where
 o:okA t=true
 q:NdQ t
 c:cnt t<700
theorem GT.kid{t x:Nd}(h:GT t)(hx:x∈kd t):GT x:=⟨by
 have:=h.o;rw[okA_un,Bool.and_eq_true]at this;exact okAL_mem this.2 hx,h.q.kid hx,by have:=cnt_kid hx;have:=h.c;omega⟩
theorem GT.ok{t:Nd}(h:GT t):okT t=true:=by
 have:=h.o;rw[okA_un,Bool.and_eq_true]at this;exact this.1
structure Made(lv m:Nat)(u:Nd)(m':Nat):Prop where
 m:m'=m+cnt u
 le:m'≤600
 r:RT lv u
 q:NdQ u
 k:(u.un.1==5)=false
theorem sprL_spec{f:Nd→Nat→SE ⊕ (Nd×Nat)}{lv:Nat}: ∀(l:List Nd) (m:Nat) (us:List Nd) (m':Nat),(∀x∈l,∀m u m',f x m= .inr (u,m')→m≤600→Made lv m u m')→m≤600→
 sprL f l m= .inr (us,m')→m'=m+cntL us∧m'≤600∧us.length=l.length∧(∀u∈us,RT lv u)∧ ∀u∈us,NdQ u
 | [],m,us,m',_,hm,h=>by
   simp only[sprL,Sum.inr.injEq,Prod.mk.injEq]at h;obtain⟨rfl,rfl⟩:=h;simp only[cntL];exact⟨rfl,hm,trivial,by simp,by simp⟩
 |x::l,m,us,m',hf,hm,h=>by
   simp only[sprL]at h
   cases h1:f x m with
   |inl e=>rw[h1]at h;cases h
   |inr p=>
     obtain⟨y,m1⟩:=p;rw[h1]at h;simp only at h;have M:=hf x (List.mem_cons_self ..) m y m1 h1 hm
     cases h2:sprL f l m1 with
     |inl e=>rw[h2]at h;cases h
     |inr p=>
       obtain⟨ys,m2⟩:=p;rw[h2]at h;simp only[Sum.inr.injEq,Prod.mk.injEq]at h;obtain⟨rfl,rfl⟩:=h;obtain⟨a,b,c,d,e⟩:=sprL_spec l m1 ys m2 (fun z hz=>hf z (List.mem_cons_of_mem _ hz)) M.le h2;have:=M.m;simp only[cntL,List.length_cons];refine⟨by omega,b,by omega,fun u hu=>?_,fun u hu=>?_⟩
       ·rcases List.mem_cons.1 hu with rfl|hu
        ·exact M.r
        exact d u hu
       rcases List.mem_cons.1 hu with rfl|hu
       ·exact M.q
       exact e u hu
theorem spr_made{B:Bk}(hB: ∀e∈B,GT e.2): ∀(k:Nat) (t:Nd) (lv m:Nat) (p:List ByteArray) (u:Nd) (m':Nat),GT t→m≤600→spr B k t lv m p= .inr (u,m')→Made lv m u m'
 |0,t,lv,m,p,u,m',_,_,h=>by simp[spr]at h
 |k+1,t,lv,m,p,u,m',ht,hm,h=>by
   simp only[spr]at h;split at h
   ·rename_i h5
    cases hf:fnd B (tx t)with
    |none=>rw[hf]at h;cases h
    |some v=>
      rw[hf]at h;simp only at h;split at h
      ·cases h
      exact spr_made hB k v lv m _ u m' (hB _ (fnd_mem hf)) hm h
   rename_i h5;split at h
   ·cases h
   rename_i h24;split at h
   ·cases h
   rename_i h600
   cases hl:sprL (fun x m=>spr B k x (lv+1) m p) (kd t) (m+1)with
   |inl e=>rw[hl]at h;cases h
   |inr q=>
     obtain⟨ks,m1⟩:=q;rw[hl]at h;simp only[Sum.inr.injEq,Prod.mk.injEq]at h;obtain⟨rfl,rfl⟩:=h;obtain⟨a,b,c,d,e⟩:=sprL_spec (lv:=lv+1) (kd t) (m+1) ks m1 (fun x hx m u m' h hm=>spr_made hB k x (lv+1) m p u m' (ht.kid hx) hm h) (by omega) hl;have hc:cnt (wkd t ks)=1+cntL ks:=cnt_un (wkd t ks);exact⟨by omega,b,RT.mk (by omega) (by rw[wkd_okT c];exact ht.ok) d,ndQ_wkd ht.q e,show(t.un.1==5)=false from Bool.eq_false_iff.2 h5⟩
open Go Go.Eng
set_option maxRecDepth 100000
theorem nodup_le: ∀{l m:List ByteArray},l.Nodup→(∀x∈l,x∈m)→l.length≤m.length
 | [],_,_,_=>Nat.zero_le _
 |x::l,m,hn,hs=>by
   obtain⟨a,b,rfl⟩:=List.append_of_mem (hs x (List.mem_cons_self ..));rw[List.nodup_cons]at hn
   have:=nodup_le (l:=l) (m:=a++b) hn.2 fun y hy=>by
    have h1:=hs y (List.mem_cons_of_mem _ hy);rcases List.mem_append.1 h1 with h|h
    ·exact List.mem_append.2 (.inl h)
    rcases List.mem_cons.1 h with rfl|h
    ·exact absurd hy hn.1
    exact List.mem_append.2 (.inr h)
   simp only[List.length_append,List.length_cons]at this ⊢;omega
structure PI(B:Bk)(p:List ByteArray):Prop where
 nd:p.Nodup
 mem: ∀x∈p,x∈B.map (·.1)
theorem PI.le{B:Bk}{p:List ByteArray}(h:PI B p)(hB:B.length≤32):p.length≤32:=by
 have:=nodup_le h.nd h.mem;simp at this;omega
theorem PI.add{B:Bk}{p:List ByteArray}(h:PI B p){s:ByteArray}{u:Nd}(hs:fnd B s=some u)(hp:memB p s=false):PI B (p++ [s]):=by
 have hn:=memB_f.1 hp;refine⟨List.nodup_append.2 ⟨h.nd,by simp,fun a ha b hb=>?_⟩,fun x hx=>?_⟩
 ·obtain rfl:=List.mem_singleton.1 hb;exact fun e=>hn (e▸ha)
 rcases List.mem_append.1 hx with hx|hx
 ·exact h.mem x hx
 obtain rfl:=List.mem_singleton.1 hx;exact List.mem_map.2 ⟨_,fnd_mem hs,rfl⟩
structure BOk(B:Bk):Prop where
 l:B.length≤32
 g: ∀e∈B,GT e.2
section
variable {B:Bk}{nm:List ByteArray}{N:Nat}
theorem contains_small(hl:nm.length≤1000000)(hN:nm.length<N)(s:ByteArray):F_49 N nm s=some (memB nm s):=by
 unfold F_49 F_26
 rw[loop_find nm (fun x=>decide (x=s)) (fun i=>(i:Int)) hN (fun i x hx=>by
  have hi:=lt_len hx;unfold F_72;rw[if_pos (by simpa using hi),idx_of hx];simp only[bind,Option.bind_some,ba_eq];rw[w64_succ (by omega)];by_cases h:x=s
  ·simp[h]
  have: ¬s=x:=fun e=>h e.symm;simp[h,this]) (by unfold F_72;simp)]
 rw[←plc_ge];unfold plc;cases nm.findIdx? (fun x=>decide (x=s))<;>rfl
def SpC(N:Nat)(B:Bk)(nm:List ByteArray)(t:Nd)(lv m:Nat)(p:List ByteArray):SE ⊕ (Nd×Nat)→Prop
 | .inr (u,m')=>F_9 N nm B m p 0 t.un.1 t.un.2.1.1 t.un.2.1.2.1 t.un.2.1.2.2.1 t.un.2.1.2.2.2 t.un.2.2.1 t.un.2.2.2.1 t.un.2.2.2.2.1 t.un.2.2.2.2.2 lv=
  some (nm,B,(m':Int),p,0,u.un.1,u.un.2.1.1,u.un.2.1.2.1,u.un.2.1.2.2.1,u.un.2.1.2.2.2,u.un.2.2.1,u.un.2.2.2.1,u.un.2.2.2.2.1,u.un.2.2.2.2.2)
 | .inl e=> ∃(m':Int) (u:Nd),F_9 N nm B m p 0 t.un.1 t.un.2.1.1 t.un.2.1.2.1 t.un.2.1.2.2.1 t.un.2.1.2.2.2 t.un.2.2.1 t.un.2.2.2.1 t.un.2.2.2.2.1 t.un.2.2.2.2.2 lv=
  some (nm,B,m',p,e.code,u.un.1,u.un.2.1.1,u.un.2.1.2.1,u.un.2.1.2.2.1,u.un.2.1.2.2.2,u.un.2.2.1,u.un.2.2.2.1,u.un.2.2.2.2.1,u.un.2.2.2.2.2)
theorem spread_err{M:Nat}{c:Int}(hc:eOk errIds c=true)(m:Int)(p:List ByteArray)(t:Nd)(lv:Int):
 F_9 (M+1) nm B m p c t.un.1 t.un.2.1.1 t.un.2.1.2.1 t.un.2.1.2.2.1 t.un.2.1.2.2.2 t.un.2.2.1 t.un.2.2.2.1 t.un.2.2.2.2.1 t.un.2.2.2.2.2 lv=some (nm,B,m,p,c,0,0,0,0,0,[],0,0,ByteArray.empty):=by
 rw[F_9,if_pos hc]
theorem loop_err{M:Nat}{c:Int}(hc:eOk errIds c=true)(lv:Int)(p:List ByteArray)(m:Int)(l:List Nd)(hl:l.length<1000000): ∀(r i K:Nat) (zs:List Nd),i+r=l.length→r<K→zs.length=l.length→
 ∃zs',iterO K (fun s=>F_45 (M+1) (F_9 (M+1)) lv l s.1 s.2.1 s.2.2.1 s.2.2.2.1 s.2.2.2.2.1 s.2.2.2.2.2.1 s.2.2.2.2.2.2) (nm,B,m,p,c,zs,(i:Int))=some (nm,B,m,p,c,zs'):=by
 intro r
 induction r with
 |zero=>
   intro i K zs hi hK hz;obtain⟨K,rfl⟩: ∃m,K=m+1:=⟨K-1,by omega⟩;simp only[iterO,F_45];rw[if_neg (by simp;omega)];exact⟨zs,rfl⟩
 |succ r ih=>
   intro i K zs hi hK hz;obtain⟨K,rfl⟩: ∃m,K=m+1:=⟨K-1,by omega⟩;have hlt:i<zs.length:=by omega
   have hx:zs[i]? =some zs[i]:=List.getElem?_eq_getElem hlt;generalize zs[i]=x at hx;obtain⟨zs',h⟩:=ih (i+1) K (zs.set i (Nd.of (0,(0,0,0,0),[],0,0,ByteArray.empty))) (by omega) (by omega) (by simpa using hz);refine⟨zs',?_⟩;rw[←h]
   have hs:F_45 (M+1) (F_9 (M+1)) lv l nm B m p c zs (i:Int)=some (.inl (nm,B,m,p,c,zs.set i (Nd.of (0,(0,0,0,0),[],0,0,ByteArray.empty)),((i+1:Nat):Int))):=by
    unfold F_45;rw[if_pos (by simp;omega),idx_of hx];simp only[bind,Option.bind_some];rw[spread_err hc];simp only[Option.bind_some];rw[show setI zs (i:Int) (Nd.of (0,(0,0,0,0),[],0,0,ByteArray.empty))=some (zs.set i (Nd.of (0,(0,0,0,0),[],0,0,ByteArray.empty))) by simp[setI,hlt]];simp only[Option.bind_some];rw[w64_succ (by omega)]
   simp only[iterO,hs]
theorem spread_code(hB:BOk B): ∀(k:Nat) (t:Nd) (lv m M:Nat) (p:List ByteArray),GT t→PI B p→m≤600→lv≤25→(26-lv)+(33-p.length)≤k→100000+k≤M→
 SpC M B nm t lv m p (spr B k t lv m p):=by
 intro k
 induction k with
 |zero=>intro t lv m M p _ hp _ hlv hk;have:=hp.le hB.l;omega
 |succ k IH=>
   intro t lv m M p ht hp hm hlv hk hM;obtain⟨M,rfl⟩: ∃n,M=n+1:=⟨M-1,by omega⟩;have hpl:=hp.le hB.l;have hcu:=cnt_un t;have hll:=cntL_len (kd t);have htc:=ht.c;rw[spr];by_cases h5:(t.un.1==5)=true
   ·rw[if_pos h5]
    cases hf:fnd B (tx t)with
    |none=>
      refine⟨m,Nd.of (0,(0,0,0,0),[],0,0,ByteArray.empty),?_⟩;rw[F_9,if_neg (by decide),if_pos h5];unfold F_155;rw[show mget B t.un.2.2.2.2.2=none from(mget_fnd ..).trans hf];rfl
    |some u=>
      simp only;have hu:=hB.g _ (fnd_mem hf)
      cases hmem:memB p (tx t)with
      |true=>
        rw[if_pos rfl];refine⟨m,Nd.of (0,(0,0,0,0),[],0,0,ByteArray.empty),?_⟩;rw[F_9,if_neg (by decide),if_pos h5];unfold F_155;rw[show mget B t.un.2.2.2.2.2=some u from(mget_fnd ..).trans hf,contains_small (by omega) (by omega),show memB p t.un.2.2.2.2.2=true from hmem];rfl
      |false=>
        rw[if_neg (by simp)];have hlen:(p++ [tx t]).length=p.length+1:=by simp
        have h1:=IH u lv m M (p++ [tx t]) hu (hp.add hf hmem) hm hlv (by omega) (by omega);have hpl2:=(hp.add hf hmem).le hB.l;rw[hlen]at hpl2
        have hsl:slc (p++ [tx t]) 0 (w64 (((p++ [tx t]).length:Int)-1))=some p:=by
         rw[show w64 (((p++ [tx t]).length:Int)-1)=(p.length:Int) by rw[hlen,w64,wrap64]<;>omega,slc_take (by simp)];simp
        have hgo: ∀q:List ByteArray×Bk×Int×List ByteArray×Int×Int×Int×Int×Int×Int×List Nd×Int×Int×ByteArray,q.2.2.2.1=p++ [tx t]→
         F_9 M nm B m (p++ [tx t]) 0 u.un.1 u.un.2.1.1 u.un.2.1.2.1 u.un.2.1.2.2.1 u.un.2.1.2.2.2 u.un.2.2.1 u.un.2.2.2.1 u.un.2.2.2.2.1 u.un.2.2.2.2.2 lv=some q→
         F_9 (M+1) nm B m p 0 t.un.1 t.un.2.1.1 t.un.2.1.2.1 t.un.2.1.2.2.1 t.un.2.1.2.2.2 t.un.2.2.1 t.un.2.2.2.1 t.un.2.2.2.2.1 t.un.2.2.2.2.2 lv=some (q.1,q.2.1,q.2.2.1,p,q.2.2.2.2):=fun q hq e=>by
         rw[F_9,if_neg (by decide),if_pos h5];unfold F_155;rw[show mget B t.un.2.2.2.2.2=some u from(mget_fnd ..).trans hf,contains_small (by omega) (by omega),show memB p t.un.2.2.2.2.2=false from hmem];simp only[Option.isSome_some,Bool.not_true,Bool.false_eq_true,if_false,bind,Option.bind_some,Option.getD_some];rw[app_eq (by simp;omega)];simp only[Option.bind_some];rw[e];obtain⟨z1,z2,q1,q2,q3,q4,q5,q6,q7,q8,q9,q10,q11,q12⟩:=q;have hq:q2=p++ [tx t]:=hq;subst hq;simp only[Option.bind_some];rw[hsl];rfl
        cases hr:spr B k u lv m (p++ [tx t])with
        |inl e=>
          rw[hr]at h1;obtain⟨m',v,h1⟩:=h1;exact⟨m',v,hgo _ rfl h1⟩
        |inr q=>
          rw[hr]at h1;exact hgo _ rfl h1
   rw[if_neg h5];by_cases h24:24<lv
   ·rw[if_pos h24];refine⟨m,Nd.of (0,(0,0,0,0),[],0,0,ByteArray.empty),?_⟩;rw[F_9,if_neg (by decide),if_neg h5,if_pos (by simp;omega)];rfl
   rw[if_neg h24];by_cases h6:600≤m
   ·rw[if_pos h6];refine⟨m,Nd.of (0,(0,0,0,0),[],0,0,ByteArray.empty),?_⟩;rw[F_9,if_neg (by decide),if_neg h5,if_neg (by simp;omega),if_pos (by simp;omega)];rfl
   rw[if_neg h6];obtain⟨M,rfl⟩: ∃n,M=n+1:=⟨M-1,by omega⟩
   have key: ∀(r i K m:Nat) (ys:List Nd),i+r=(kd t).length→r<K→ys.length=i→m≤600→
    match sprL (fun x m=>spr B k x (lv+1) m p) ((kd t).drop i) m with
    | .inr (us,m')=>iterO K (fun s=>F_45 (M+1) (F_9 (M+1)) lv (kd t) s.1 s.2.1 s.2.2.1 s.2.2.2.1 s.2.2.2.2.1 s.2.2.2.2.2.1 s.2.2.2.2.2.2) (nm,B,(m:Int),p,0,ys++(kd t).drop i,(i:Int))=some (nm,B,(m':Int),p,0,ys++us)
    | .inl e=> ∃m' zs,iterO K (fun s=>F_45 (M+1) (F_9 (M+1)) lv (kd t) s.1 s.2.1 s.2.2.1 s.2.2.2.1 s.2.2.2.2.1 s.2.2.2.2.2.1 s.2.2.2.2.2.2) (nm,B,(m:Int),p,0,ys++(kd t).drop i,(i:Int))=some (nm,B,m',p,e.code,zs):=by
    intro r
    induction r with
    |zero=>
      intro i K m ys hi hK hy hm;obtain⟨K,rfl⟩: ∃m,K=m+1:=⟨K-1,by omega⟩;rw[List.drop_eq_nil_of_le (by omega)];simp only[sprL,iterO,F_45];rw[if_neg (by simp;omega)]
    |succ r ih=>
      intro i K m ys hi hK hy hm;obtain⟨K,rfl⟩: ∃m,K=m+1:=⟨K-1,by omega⟩;have hlt:i<(kd t).length:=by omega
      have hx:(kd t)[i]? =some (kd t)[i]:=List.getElem?_eq_getElem hlt;rw[List.drop_eq_getElem_cons hlt];generalize(kd t)[i]=x at hx;have hxm:=List.mem_of_getElem? hx;have h1:=IH x (lv+1) m (M+1) p (ht.kid hxm) hp hm (by omega) (by omega) (by omega);have hL:(ys++x::(kd t).drop (i+1))[i]? =some x:=by rw[List.getElem?_append_right (by omega),hy];simp
      have hset: ∀y,setI (ys++x::(kd t).drop (i+1)) (i:Int) y=some (ys++ [y]++(kd t).drop (i+1)):=fun y=>by
       unfold setI;rw[if_pos ⟨by omega,by simp;omega⟩];simp only[Int.toNat_natCast];rw[List.set_append_right _ _ (by omega),hy];simp
      have hgo: ∀(m1 c:Int) (u:Nd),F_9 (M+1) nm B m p 0 x.un.1 x.un.2.1.1 x.un.2.1.2.1 x.un.2.1.2.2.1 x.un.2.1.2.2.2 x.un.2.2.1 x.un.2.2.2.1 x.un.2.2.2.2.1 x.un.2.2.2.2.2 (((lv+1:Nat)):Int)=
       some (nm,B,m1,p,c,u.un.1,u.un.2.1.1,u.un.2.1.2.1,u.un.2.1.2.2.1,u.un.2.1.2.2.2,u.un.2.2.1,u.un.2.2.2.1,u.un.2.2.2.2.1,u.un.2.2.2.2.2)→
       F_45 (M+1) (F_9 (M+1)) lv (kd t) nm B m p 0 (ys++x::(kd t).drop (i+1)) (i:Int)=some (.inl (nm,B,m1,p,c,ys++ [u]++(kd t).drop (i+1),((i+1:Nat):Int))):=fun m1 c u e=>by
       unfold F_45;rw[if_pos (by simpa using hlt),idx_of hL];simp only[bind,Option.bind_some];rw[w64_succ (by omega),e];simp only[Option.bind_some];rw[Nd.of_eq,hset,w64_succ (by omega)];rfl
      simp only[sprL]
      cases hr:spr B k x (lv+1) m p with
      |inl e=>
        rw[hr]at h1;obtain⟨m',v,h1⟩:=h1;obtain⟨zs',h2⟩:=loop_err (M:=M) (nm:=nm) (B:=B) (c:=e.code) e.ok lv p m' (kd t) (by omega) r (i+1) K (ys++ [v]++(kd t).drop (i+1)) (by omega) (by omega) (by simp;omega);refine⟨m',zs',?_⟩;simp only[iterO,hgo _ _ _ h1];exact h2
      |inr q=>
        obtain⟨u,m1⟩:=q;have hmd:=spr_made hB.g k x (lv+1) m p u m1 (ht.kid hxm) hm hr;rw[hr]at h1;simp only;have h2:=ih (i+1) K m1 (ys++ [u]) (by omega) (by omega) (by simp[hy]) hmd.le
        cases hs:sprL (fun x m=>spr B k x (lv+1) m p) ((kd t).drop (i+1)) m1 with
        |inl e=>
          rw[hs]at h2;obtain⟨m',zs,h2⟩:=h2;refine⟨m',zs,?_⟩;simp only[iterO,hgo _ _ _ h1];exact h2
        |inr q=>
          obtain⟨us,m2⟩:=q;rw[hs]at h2;simp only[iterO,hgo _ _ _ h1];rw[h2];simp
   have h2:=key (kd t).length 0 (M+1) (m+1) [] (by omega) (by omega) rfl (by omega);rw[List.drop_zero]at h2;simp only[List.nil_append]at h2
   have e0:F_9 (M+1+1) nm B m p 0 t.un.1 t.un.2.1.1 t.un.2.1.2.1 t.un.2.1.2.2.1 t.un.2.1.2.2.2 t.un.2.2.1 t.un.2.2.2.1 t.un.2.2.2.2.1 t.un.2.2.2.2.2 lv=
    (iterO (M+1) (fun s=>F_45 (M+1) (F_9 (M+1)) lv (kd t) s.1 s.2.1 s.2.2.1 s.2.2.2.1 s.2.2.2.2.1 s.2.2.2.2.2.1 s.2.2.2.2.2.2) (nm,B,(((m+1:Nat)):Int),p,0,kd t,0)).bind fun q=>
     some (q.1,q.2.1,q.2.2.1,q.2.2.2.1,q.2.2.2.2.1,t.un.1,t.un.2.1.1,t.un.2.1.2.1,t.un.2.1.2.2.1,t.un.2.1.2.2.2,q.2.2.2.2.2,t.un.2.2.2.1,t.un.2.2.2.2.1,t.un.2.2.2.2.2):=by
    rw[F_9,if_neg (by decide),if_neg h5,if_neg (by simp;omega),if_neg (by simp;omega)];unfold F_150;rw[app_eq (by have:t.un.2.2.1.length≤cntL (kd t):=hll;simp;omega),w64_succ (by omega)];rfl
   cases hs:sprL (fun x m=>spr B k x (lv+1) m p) (kd t) (m+1)with
   |inl e=>
     rw[hs]at h2;obtain⟨m',zs,h2⟩:=h2;refine⟨m',wkd t zs,?_⟩;rw[e0,show iterO (M+1) (fun s=>F_45 (M+1) (F_9 (M+1)) lv (kd t) s.1 s.2.1 s.2.2.1 s.2.2.2.1 s.2.2.2.2.1 s.2.2.2.2.2.1 s.2.2.2.2.2.2) (nm,B,(((m+1:Nat)):Int),p,0,kd t,0)=_ from h2];rfl
   |inr q=>
     obtain⟨us,m2⟩:=q;rw[hs]at h2;show F_9 _ _ _ _ _ _ _ _ _ _ _ _ _ _ _ _=_;rw[e0,show iterO (M+1) (fun s=>F_45 (M+1) (F_9 (M+1)) lv (kd t) s.1 s.2.1 s.2.2.1 s.2.2.2.1 s.2.2.2.2.1 s.2.2.2.2.2.1 s.2.2.2.2.2.2) (nm,B,(((m+1:Nat)):Int),p,0,kd t,0)=_ from h2];rfl
end
open Go Go.Eng
set_option maxRecDepth 100000
section
variable {B:Bk}{N:Nat}
theorem Made.tx{lv m:Nat}{u:Nd}{m':Nat}(h:Made lv m u m'):tx u=ByteArray.empty:=okT_tx h.r.node.2 h.k
end
open Go Go.Eng
set_option maxRecDepth 100000
theorem set_same{α:Type}{l:List α}{i:Nat}{x:α}(h:l[i]? =some x):l.set i x=l:=by
 obtain⟨hi,rfl⟩:=List.getElem?_eq_some_iff.1 h;exact List.set_getElem_self hi
theorem setI_same{α:Type}{l:List α}{i:Nat}{x:α}(h:l[i]? =some x):setI l (i:Int) x=some l:=by
 have hi:=lt_len h;simp only[setI,Int.toNat_natCast];rw[if_pos ⟨by omega,hi⟩,set_same h]
theorem copied_spec: ∀(c:Nat) (t:Nd),cnt t=c→ ∀N,cnt t+5≤N→cnt t<100000→
 F_32 N t.un.1 t.un.2.1.1 t.un.2.1.2.1 t.un.2.1.2.2.1 t.un.2.1.2.2.2 t.un.2.2.1 t.un.2.2.2.1 t.un.2.2.2.2.1 t.un.2.2.2.2.2=some (kd t):=by
 intro c
 induction c using Nat.strongRecOn with
 |ind c IH=>
   intro t hc N hN hb;obtain⟨M,rfl⟩: ∃m,N=m+1:=⟨N-1,by omega⟩;have hcu:=cnt_un t;have hll:=cntL_len (kd t);rw[F_32];unfold F_150;rw[app_eq (by have:t.un.2.2.1.length≤cntL (kd t):=hll;simp;omega)];simp only[bind,Option.bind_some,List.nil_append]
   have h:=iterO_for0 (f:=fun s=>F_118 M (F_32 M) (kd t) s.1 s.2) (r:=kd t) (s:=(kd t,0)) (N:=M) (fun i=>(kd t,(i:Int))) (kd t).length rfl (by omega) (fun i hi=>by
    have hx:(kd t)[i]? =some (kd t)[i]:=List.getElem?_eq_getElem hi;generalize(kd t)[i]=x at hx;have hm:=cnt_kid (List.mem_of_getElem? hx);show F_118 M (F_32 M) (kd t) (kd t) (i:Int)=_;unfold F_118;rw[if_pos (by simpa using hi),idx_of hx];simp only[bind,Option.bind_some];rw[IH (cnt x) (by omega) x rfl M (by omega) (by omega)];simp only[Option.bind_some];rw[Nd.of_eq,setI_same hx,w64_succ (by omega)]
    rfl) (by
    show F_118 M (F_32 M) (kd t) (kd t) ((kd t).length:Int)=_;unfold F_118;rw[if_neg (by simp)])
   rw[show iterO M (fun s=>F_118 M (F_32 M) t.un.2.2.1 s.1 s.2) (t.un.2.2.1,0)=_ from h];rfl
section
variable {N:Nat}
theorem copy_spec(hN:9300000000000000000≤N){t:Nd}(hc:cnt t<1000)(hq:NdQ t)(hr:rtT t=true):
 F_235 N t.un.1 t.un.2.1.1 t.un.2.1.2.1 t.un.2.1.2.2.1 t.un.2.1.2.2.2 t.un.2.2.1 t.un.2.2.2.1 t.un.2.2.2.2.1 t.un.2.2.2.2.2=
  some (t.un.1,t.un.2.1.1,t.un.2.1.2.1,t.un.2.1.2.2.1,t.un.2.1.2.2.2,t.un.2.2.1,t.un.2.2.2.1,t.un.2.2.2.2.1,t.un.2.2.2.2.2):=by
 unfold F_235;rw[right_code hN hc hq,hr,copied_spec _ t rfl N (by omega) (by omega)];rfl
def bk(Ls:List Lt):Bk:=Ls.map fun x=>(x.1,x.2.1)
theorem fnd_app{B:Bk}{s:ByteArray}(h: ∀e∈B,e.1≠s):fnd B s=none:=by
 unfold fnd;rw[List.find?_eq_none.2 fun e he=>by simpa using h e he];rfl
theorem mset_new{B:Bk}{s:ByteArray}{t:Nd}(h: ∀e∈B,e.1≠s):mset B s t=B++ [(s,t)]:=by
 unfold mset
 have:B.findIdx? (fun e=>e.1==s)=none:=List.findIdx?_eq_none_iff.2 fun e he=>by
  cases hb:e.1==s with
  |false=>rfl
  |true=>exact absurd ((babeq _ _).1 hb) (h e he)
 rw[this]
theorem add_code(hN:9300000000000000000≤N){B:Bk}{l:List ByteArray}{s:ByteArray}{t:Nd}(hs:s.size≤50)(hn:nmB (sl s)=true)(hc:cnt t<700)(hq:NdQ t)(hr:rtT t=true)(hf: ∀e∈B,e.1≠s)(hl:l.length<32):
 F_190 N l B s t.un.1 t.un.2.1.1 t.un.2.1.2.1 t.un.2.1.2.2.1 t.un.2.1.2.2.2 t.un.2.2.1 t.un.2.2.2.1 t.un.2.2.2.2.1 t.un.2.2.2.2.2=some (l++ [s],B++ [(s,t)],0):=by
 have hcb:=cap_big;unfold F_190;rw[nm_code hN (by omega),hn,right_code hN (by omega) hq,hr,mget_fnd,fnd_app hf,copy_spec hN (by omega) hq hr,app_eq (by simp;omega)];have h32: ¬(l.length:Int)≥32:=by omega
 simp only[bind,Option.bind_some,Bool.not_true,Bool.false_eq_true,if_false,Option.isSome_none,h32,decide_false];rw[Nd.of_eq,mset_new hf]
theorem bk_take{Ls:List Lt}{i:Nat}{x:Lt}(h:Ls[i]? =some x):bk (Ls.take (i+1))=bk (Ls.take i)++ [(x.1,x.2.1)]:=by
 unfold bk;rw[List.take_succ_eq_append_getElem (lt_len h),List.map_append,(List.getElem?_eq_some_iff.1 h).2];rfl
theorem map_take1{Ls:List Lt}{i:Nat}{x:Lt}(h:Ls[i]? =some x):(Ls.take (i+1)).map (·.1)=(Ls.take i).map (·.1)++ [x.1]:=by
 rw[List.take_succ_eq_append_getElem (lt_len h),List.map_append,(List.getElem?_eq_some_iff.1 h).2];rfl
structure LR(Ls:List Lt):Prop where
 q: ∀x∈Ls,LQ x
 r: ∀x∈Ls,rtT x.2.1=true
 n: ∀x∈Ls,nmB (sl x.1)=true
 nd:(Ls.map (·.1)).Nodup
 l:Ls.length≤32
theorem LR.apart{Ls:List Lt}(h:LR Ls){i:Nat}{x:Lt}(hx:Ls[i]? =some x): ∀e∈bk (Ls.take i),e.1≠x.1:=fun e he=>by
 unfold bk at he;obtain⟨y,hy,rfl⟩:=List.mem_map.1 he;obtain⟨j,hj⟩:=List.mem_iff_getElem?.1 hy;rw[List.getElem?_take]at hj;split at hj
 ·rename_i hlt;have h1:(Ls.map (·.1))[j]? =some y.1:=by rw[List.getElem?_map,hj];rfl
  have h2:(Ls.map (·.1))[i]? =some x.1:=by rw[List.getElem?_map,hx];rfl
  intro he;have he:y.1=x.1:=he;have:=(List.getElem?_inj (lt_len h1) h.nd).1 (h1.trans (he▸h2.symm));omega
 cases hj
theorem book_code(hN:9300000000000000000≤N){Ls:List Lt}(h:LR Ls):
 iterO N (fun s=>F_107 N Ls s.1 s.2.1 s.2.2) (0,[],([]:List (ByteArray×Nd)))=some (.inl (Ls.map (·.1),bk Ls)):=by
 have hl:=h.l;refine iterO_for0 (f:=fun s=>F_107 N Ls s.1 s.2.1 s.2.2) (fun i=>((i:Int),(Ls.take i).map (·.1),bk (Ls.take i))) Ls.length (by simp[bk]) (by omega) (fun i hi=>?_) ?_
 ·have hx:Ls[i]? =some Ls[i]:=List.getElem?_eq_getElem hi;generalize Ls[i]=x at hx;have hm:=List.mem_of_getElem? hx;show F_107 N Ls (i:Int) ((Ls.take i).map (·.1)) (bk (Ls.take i))=_;unfold F_107;rw[if_pos (by simpa using hi),idx_of hx];simp only[bind,Option.bind_some];rw[add_code hN (h.q x hm).n (h.n x hm) (h.q x hm).c (h.q x hm).q (h.r x hm) (h.apart hx) (by simp;omega),bk_take hx,map_take1 hx,w64_succ (by omega)];rfl
 show F_107 N Ls (Ls.length:Int) _ _=_;unfold F_107;rw[if_neg (by simp),List.take_length]
theorem LR.book{Ls:List Lt}(h:LR Ls):BOk (bk Ls):=⟨by simp[bk];exact h.l,fun e he=>by
 unfold bk at he;obtain⟨x,hx,rfl⟩:=List.mem_map.1 he;exact⟨okA_of 1 _ (RT.of (h.r x hx)),(h.q x hx).q,(h.q x hx).c⟩⟩
abbrev Rq:=List Int×Nd×Int×Int
def condB(C cs:List ByteArray)(i:Nat):Bool:=match C[i]? with|some c=>memB cs c|none=>false
def condI(C cs:List ByteArray):List Int:=((List.range C.length).filter (condB C cs)).map fun(i:Nat)=>(i:Int)
theorem condB_at{C cs:List ByteArray}{i:Nat}{c:ByteArray}(h:C[i]? =some c):condB C cs i=memB cs c:=by
 unfold condB;rw[h]
theorem plc_at{C:List ByteArray}(hC:C.Nodup){i:Nat}{c:ByteArray}(h:C[i]? =some c):plc C c=(i:Int):=by
 obtain⟨j,e,hj,_⟩:=plc_some (List.mem_of_getElem? h);rw[e];have:=(List.getElem?_inj (lt_len hj) hC).1 (hj.trans h.symm);omega
theorem plc_nodup{C:List ByteArray}: ∀{cs:List ByteArray},cs.Nodup→(∀c∈cs,c∈C)→(cs.map (plc C)).Nodup
 | [],_,_=>by simp
 |c::cs,hn,hm=>by
   rw[List.nodup_cons]at hn;rw[List.map_cons,List.nodup_cons];refine⟨fun h=>?_,plc_nodup hn.2 fun x hx=>hm x (List.mem_cons_of_mem _ hx)⟩;obtain⟨x,hx,he⟩:=List.mem_map.1 h;obtain⟨i,e1,h1,_⟩:=plc_some (hm c (List.mem_cons_self ..));obtain⟨j,e2,h2,_⟩:=plc_some (hm x (List.mem_cons_of_mem _ hx));rw[e1,e2]at he;have:i=j:=by omega
   subst this;rw[h1]at h2;exact hn.1 (Option.some.inj h2▸hx)
theorem condI_lt(C cs:List ByteArray):List.Pairwise (fun a b=>a<b) (condI C cs):=by
 unfold condI;rw[List.pairwise_map];exact(List.pairwise_lt_range.filter _).imp fun h=>by omega
theorem condI_mem{C cs:List ByteArray}{x:Int}:x∈condI C cs↔ ∃(i:Nat) (c:ByteArray),x=(i:Int)∧C[i]? =some c∧c∈cs:=by
 unfold condI;rw[List.mem_map];constructor
 ·rintro⟨i,hi,rfl⟩;rw[List.mem_filter]at hi;obtain⟨_,h2⟩:=hi;unfold condB at h2
  cases hc:C[i]? with
  |none=>rw[hc]at h2;cases h2
  |some c=>rw[hc]at h2;exact⟨i,c,rfl,hc,memB_iff.1 h2⟩
 rintro⟨i,c,rfl,hc,hm⟩;refine⟨i,?_,rfl⟩;rw[List.mem_filter];refine⟨by simpa using lt_len hc,?_⟩;rw[condB_at hc];exact memB_iff.2 hm
theorem sort_conds{C cs:List ByteArray}(hC:C.Nodup)(hcs:cs.Nodup)(hm: ∀c∈cs,c∈C)(hl:cs.length≤1000):sortI (cs.map (plc C))=some (condI C cs):=by
 unfold sortI;rw[if_pos (by simp;omega)]
 congr 1
 have hp:=List.mergeSort_perm (cs.map (plc C)) (fun x y=>decide (x≤y));have hnd:(condI C cs).Nodup:=List.nodup_iff_pairwise_ne.2 ((condI_lt C cs).imp fun h=>by omega);refine List.Perm.eq_of_pairwise (le:=fun a b=>a≤b) (fun a b _ _ h1 h2=>by omega) ?_ ((condI_lt C cs).imp fun h=>by omega) (hp.trans ((List.perm_ext_iff_of_nodup (plc_nodup hcs hm) hnd).2 fun x=>?_))
 ·exact(List.pairwise_mergeSort (le:=fun x y:Int=>decide (x≤y)) (fun a b c h1 h2=>by simp at*;omega) (fun a b=>by simp;omega) _).imp fun h=>by simpa using h
 rw[condI_mem,List.mem_map];constructor
 ·rintro⟨c,hc,rfl⟩;obtain⟨i,e,hi,_⟩:=plc_some (hm c hc);exact⟨i,c,e,hi,hc⟩
 rintro⟨i,c,rfl,hi,hc⟩;exact⟨c,hc,plc_at hC hi⟩
theorem cond_code(hN:9300000000000000000≤N){C nm:List ByteArray}{R:List Rq}(hC:C.length≤1000000)(s:ByteArray):F_169 N C nm R s=some (plc C s):=by
 unfold F_169;rw[index_spec hN hC];rfl
theorem conds_code(hN:9300000000000000000≤N){C nm l cs:List ByteArray}{R:List Rq}{B:Bk}(hC:C.Nodup)(hcs:cs.Nodup)(hl:cs.length≤1000)(hCl:C.length≤1000000):
 F_56 N C nm R l B cs=some (if cs.all (memB C)then(C,nm,R,l,B,condI C cs,0)else(C,nm,R,l,B,[],15)):=by
 unfold F_56
 have key: ∀(r i K:Nat) (acc:List Int),i+r=cs.length→r<K→acc.length=i→
  iterO K (fun s=>F_140 N C nm R l B cs s.1 s.2) ((i:Int),acc)=some (if(cs.drop i).all (memB C)then .inl (acc++(cs.drop i).map (plc C))else .inr (C,nm,R,l,B,[],15)):=by
  intro r
  induction r with
  |zero=>
    intro i K acc hi hK ha;obtain⟨K,rfl⟩: ∃m,K=m+1:=⟨K-1,by omega⟩;rw[List.drop_eq_nil_of_le (by omega)];simp only[iterO,F_140];rw[if_neg (by simp;omega)];simp
  |succ r ih=>
    intro i K acc hi hK ha;obtain⟨K,rfl⟩: ∃m,K=m+1:=⟨K-1,by omega⟩;have hlt:i<cs.length:=by omega
    have hx:cs[i]? =some cs[i]:=List.getElem?_eq_getElem hlt;rw[List.drop_eq_getElem_cons hlt];generalize cs[i]=x at hx
    have hs:F_140 N C nm R l B cs (i:Int) acc=some (if memB C x=true then .inl (((i+1:Nat):Int),acc++ [plc C x])else .inr (.inr (C,nm,R,l,B,[],15))):=by
     unfold F_140;rw[if_pos (by simpa using hlt),idx_of hx];simp only[bind,Option.bind_some];rw[cond_code hN hCl];simp only[Option.bind_some];rw[plc_lt,app_eq (by simp;omega),w64_succ (by omega)];cases memB C x<;>rfl
    simp only[iterO,hs,List.all_cons,List.map_cons]
    cases hc:memB C x with
    |false=>simp
    |true=>
      simp only[if_true,Bool.true_and];rw[ih (i+1) K (acc++ [plc C x]) (by omega) (by omega) (by simp[ha])];simp
 have g:=key cs.length 0 N [] (by omega) (by omega) rfl;rw[List.drop_zero,List.nil_append]at g;rw[show iterO N (fun s=>F_140 N C nm R l B cs s.1 s.2) (0,[])=_ from g]
 cases h:cs.all (memB C)with
 |false=>rfl
 |true=>
   simp only[if_true,bind,Option.bind_some];rw[sort_conds hC hcs (fun c hc=>memB_iff.1 (List.all_eq_true.1 h c hc)) hl];rfl
end
open Go Go.Eng
set_option maxRecDepth 100000
def ruleP(C:List ByteArray)(B:Bk)(x:On)(nms:List ByteArray)(rs:List Rq):SE ⊕ (List ByteArray×List Rq):=
 if x.1.all (memB C)=true then
  if decide (x.2.2.1.2.size=0)=true∨memB C x.2.2.1.2=true then
   match spr B 60 x.2.1 1 0 []with
   | .inl e=> .inl e
   | .inr (u,_)=>if 4000<wgt u then .inl .lim else
     .inr (if decide (x.2.2.1.1.size=0)=true∨memB nms x.2.2.1.1=true then nms else nms++ [x.2.2.1.1],
      rs++ [(condI C x.1,u,if decide (x.2.2.1.1.size=0)=true then-1 else if memB nms x.2.2.1.1=true then plc nms x.2.2.1.1 else(nms.length:Int),if decide (x.2.2.1.2.size=0)=true then-1 else plc C x.2.2.1.2)])
  else .inl .none
 else .inl .none
structure OR(x:On):Prop where
 q:OQ x
 r:rtT x.2.1=true
 nd:x.1.Nodup
theorem OR.gt{x:On}(h:OR x):GT x.2.1:=⟨okA_of 1 _ (RT.of h.r),h.q.q,h.q.o.t⟩
theorem PI.nil(B:Bk):PI B []:=⟨List.nodup_nil,fun _ h=>by cases h⟩
section
variable {N:Nat}{C:List ByteArray}{B:Bk}
theorem made1(hB:BOk B){x:On}(h:OR x){u:Nd}{m':Nat}(hs:spr B 60 x.2.1 1 0 []= .inr (u,m')):Made 1 0 u m':=spr_made hB.g 60 x.2.1 1 0 [] u m' h.gt (by omega) hs
theorem Made.rt{u:Nd}{m':Nat}(h:Made 1 0 u m'):rtT u=true∧cnt u≤600:=by
 have:=h.m;have:=h.le;exact⟨rtT_of h.r (by omega),by omega⟩
theorem Made.w{u:Nd}{m':Nat}(hN:9300000000000000000≤N)(h:Made 1 0 u m'):
 F_141 N u.un.1 u.un.2.1.1 u.un.2.1.2.1 u.un.2.1.2.2.1 u.un.2.1.2.2.2 u.un.2.2.1 u.un.2.2.2.1 u.un.2.2.2.2.1 u.un.2.2.2.2.2=some (wgt u)∧
 F_34 N u.un.1 u.un.2.1.1 u.un.2.1.2.1 u.un.2.1.2.2.1 u.un.2.1.2.2.2 u.un.2.2.1 u.un.2.2.2.1 u.un.2.2.2.2.1 ByteArray.empty=some (wgt u):=by
 obtain⟨h1,h2⟩:=h.rt;refine⟨weight_code hN (by omega) h.q h1,?_⟩;have:=weight_ref _ u rfl 1 N h.r (by omega) (by omega);rw[show u.un.2.2.2.2.2=ByteArray.empty from h.tx]at this;exact this
theorem sp_code(hN:9400000000000000000≤N)(hB:BOk B){x:On}(h:OR x)(nm:List ByteArray):
 match spr B 60 x.2.1 1 0 []with
 | .inl e=>F_154 N nm B x.2.1.un.1 x.2.1.un.2.1.1 x.2.1.un.2.1.2.1 x.2.1.un.2.1.2.2.1 x.2.1.un.2.1.2.2.2 x.2.1.un.2.2.1 x.2.1.un.2.2.2.1 x.2.1.un.2.2.2.2.1 x.2.1.un.2.2.2.2.2=some (nm,B,0,0,0,0,0,[],0,0,ByteArray.empty,e.code)
 | .inr (u,_)=>F_154 N nm B x.2.1.un.1 x.2.1.un.2.1.1 x.2.1.un.2.1.2.1 x.2.1.un.2.1.2.2.1 x.2.1.un.2.1.2.2.2 x.2.1.un.2.2.1 x.2.1.un.2.2.2.1 x.2.1.un.2.2.2.2.1 x.2.1.un.2.2.2.2.2=
  some (nm,B,u.un.1,u.un.2.1.1,u.un.2.1.2.1,u.un.2.1.2.2.1,u.un.2.1.2.2.2,u.un.2.2.1,u.un.2.2.2.1,u.un.2.2.2.2.1,u.un.2.2.2.2.2,0):=by
 have g:=spread_code (nm:=nm) hB 60 x.2.1 1 0 N [] h.gt (PI.nil B) (by omega) (by omega) (by simp) (by omega);unfold F_154;rw[right_code (by omega) (by have:=h.q.o.t;omega) h.q.q,h.r];simp only[bind,Option.bind_some,Bool.not_true,Bool.false_eq_true,if_false]
 cases hs:spr B 60 x.2.1 1 0 []with
 |inl e=>
   rw[hs]at g;obtain⟨m',v,g⟩:=g;have g:F_9 N nm B 0 [] 0 x.2.1.un.1 x.2.1.un.2.1.1 x.2.1.un.2.1.2.1 x.2.1.un.2.1.2.2.1 x.2.1.un.2.1.2.2.2 x.2.1.un.2.2.1 x.2.1.un.2.2.2.1 x.2.1.un.2.2.2.2.1 x.2.1.un.2.2.2.2.2 1=_:=g;simp only;rw[g];simp only[Option.bind_some,e.ok,if_true]
 |inr q=>
   obtain⟨u,m'⟩:=q;rw[hs]at g;have g:F_9 N nm B 0 [] 0 x.2.1.un.1 x.2.1.un.2.1.1 x.2.1.un.2.1.2.1 x.2.1.un.2.1.2.2.1 x.2.1.un.2.1.2.2.2 x.2.1.un.2.2.1 x.2.1.un.2.2.2.1 x.2.1.un.2.2.2.2.1 x.2.1.un.2.2.2.2.2 1=_:=g;simp only;rw[g];rfl
theorem rule_code(hN:9400000000000000000≤N)(hB:BOk B){x:On}(h:OR x)(hC:C.Nodup)(hCl:C.length≤20){nms l:List ByteArray}{rs:List Rq}(hn:nms.length≤1000)(hr:rs.length≤1000):
 F_226 N C nms rs l B x.1 x.2.1.un.1 x.2.1.un.2.1.1 x.2.1.un.2.1.2.1 x.2.1.un.2.1.2.2.1 x.2.1.un.2.1.2.2.2 x.2.1.un.2.2.1 x.2.1.un.2.2.2.1 x.2.1.un.2.2.2.2.1 x.2.1.un.2.2.2.2.2 x.2.2.1.1 x.2.2.1.2 x.2.2.2=
  some (match ruleP C B x nms rs with| .inl e=>(C,nms,rs,l,B,e.code)| .inr q=>(C,q.1,q.2,l,B,0)):=by
 have hc:=h.q.o.c;unfold F_226 ruleP;rw[conds_code (by omega) hC h.nd (by omega) (by omega)];simp only[bind,Option.bind_some]
 cases h1:x.1.all (memB C)with
 |false=>rfl
 |true=>
   simp only[if_true];rw[if_neg (by decide),ba_ne,ba_emp,cond_code (by omega) (by omega)];simp only[Option.bind_some];rw[plc_lt]
   have hbeg:((if(!decide (x.2.2.1.2.size=0))=true then(if(!memB C x.2.2.1.2)=true then some (.inr (C,nms,rs,l,B,15))else some (.inl (plc C x.2.2.1.2)))else some (.inl (-1)):Option (Int ⊕ (List ByteArray×List ByteArray×List Rq×List ByteArray×Bk×Int))))=
    if decide (x.2.2.1.2.size=0)=true∨memB C x.2.2.1.2=true then some (.inl (if decide (x.2.2.1.2.size=0)=true then-1 else plc C x.2.2.1.2))else some (.inr (C,nms,rs,l,B,15)):=by
    cases decide (x.2.2.1.2.size=0)<;>cases memB C x.2.2.1.2<;>rfl
   rw[hbeg];by_cases h2:decide (x.2.2.1.2.size=0)=true∨memB C x.2.2.1.2=true
   ·rw[if_pos h2,if_pos h2];simp only[Option.bind_some];have g:=sp_code hN hB h l
    cases hs:spr B 60 x.2.1 1 0 []with
    |inl e=>
      rw[hs]at g;simp only at g;rw[g];simp only[Option.bind_some,e.ok,if_true]
    |inr q=>
      obtain⟨u,m'⟩:=q;have hm:=made1 hB h hs;rw[hs]at g;simp only at g;rw[g];simp only[Option.bind_some];rw[if_neg (by decide),(hm.w (N:=N) (by omega)).1];simp only[Option.bind_some];by_cases hw:4000<wgt u
      ·rw[if_pos (by simpa using hw),if_pos hw];rfl
      rw[if_neg (by simpa using hw),if_neg hw];unfold F_255;rw[emp_sl,index_spec (by omega) (by omega)];simp only[bind,Option.bind_some];rw[plc_ge,Nd.of_eq]
      cases h3:decide (x.2.2.1.1.size=0)with
      |true=>
        simp only[if_true,Option.bind_some,true_or];rw[app_eq (by simp;omega)];rfl
      |false=>
        simp only[Bool.false_eq_true,if_false,false_or]
        cases h4:memB nms x.2.2.1.1 with
        |true=>
          simp only[if_true,Option.bind_some];rw[app_eq (by simp;omega)];rfl
        |false=>
          simp only[Bool.false_eq_true,if_false];rw[app_eq (by simp;omega)];simp only[Option.bind_some];rw[app_eq (by simp;omega),show w64 (((nms++ [x.2.2.1.1]).length:Int)-1)=(nms.length:Int) by rw[w64,wrap64]<;>simp<;>omega];rfl
   rw[if_neg h2,if_neg h2];rfl
end
open Go Go.Eng
set_option maxRecDepth 100000
def rulesP(C:List ByteArray)(B:Bk):List On→List ByteArray→List Rq→(Int×SE) ⊕ (List ByteArray×List Rq)
 | [],n,r=> .inr (n,r)
 |x::l,n,r=>match ruleP C B x n r with
   | .inl e=> .inl (x.2.2.2,e)
   | .inr q=>rulesP C B l q.1 q.2
structure RlOk(r:Rq):Prop where
 t:rtT r.2.1=true
 c:cnt r.2.1≤600
 q:NdQ r.2.1
 l:r.1.length≤20
theorem condI_len(C cs:List ByteArray):(condI C cs).length≤C.length:=by
 unfold condI;rw[List.length_map];have:=List.length_filter_le (condB C cs) (List.range C.length);simpa using this
theorem ruleP_ok{C:List ByteArray}{B:Bk}(hB:BOk B){x:On}(h:OR x)(hC:C.length≤20){nms:List ByteArray}{rs:List Rq}{q:List ByteArray×List Rq}(hq:ruleP C B x nms rs= .inr q):
 q.1.length≤nms.length+1∧ ∃r,q.2=rs++ [r]∧RlOk r:=by
 unfold ruleP at hq;split at hq
 ·split at hq
  ·split at hq
   ·cases hq
   rename_i u m' hs;split at hq
   ·cases hq
   have hq:=Sum.inr.inj hq;subst hq;have hm:=made1 hB h hs;refine⟨?_,_,rfl,hm.rt.1,hm.rt.2,hm.q,?_⟩
   ·show(if _ then nms else nms++ [x.2.2.1.1]).length≤_;split<;>simp
   have:=condI_len C x.1;show(condI C x.1).length≤20;omega
  cases hq
 cases hq
section
variable {N:Nat}{C:List ByteArray}{B:Bk}
theorem rules_code(hN:9400000000000000000≤N)(hB:BOk B)(hC:C.Nodup)(hCl:C.length≤20){Os:List On}(hO:Os.length≤60)(h: ∀x∈Os,OR x)(l:List ByteArray): ∀(r i K:Nat) (nms:List ByteArray) (rs:List Rq),i+r=Os.length→r<K→nms.length≤i→rs.length=i→
 iterO K (fun s=>F_139 N Os s.1 s.2.1 s.2.2.1 s.2.2.2.1 s.2.2.2.2.1 s.2.2.2.2.2) (C,nms,rs,l,B,(i:Int))=some (match rulesP C B (Os.drop i) nms rs with| .inl (a,e)=> .inr ([],[],[],a,e.code)| .inr q=> .inl (C,q.1,q.2,l,B)):=by
 intro r
 induction r with
 |zero=>
   intro i K nms rs hi hK hn hr;obtain⟨K,rfl⟩: ∃m,K=m+1:=⟨K-1,by omega⟩;rw[List.drop_eq_nil_of_le (by omega)];simp only[iterO,F_139,rulesP];rw[if_neg (by simp;omega)]
 |succ r ih=>
   intro i K nms rs hi hK hn hr;obtain⟨K,rfl⟩: ∃m,K=m+1:=⟨K-1,by omega⟩;have hlt:i<Os.length:=by omega
   have hx:Os[i]? =some Os[i]:=List.getElem?_eq_getElem hlt;rw[List.drop_eq_getElem_cons hlt];generalize Os[i]=x at hx;have ho:=h x (List.mem_of_getElem? hx)
   have hs:F_139 N Os C nms rs l B (i:Int)=some (match ruleP C B x nms rs with| .inl e=> .inr (.inr ([],[],[],x.2.2.2,e.code))| .inr q=> .inl (C,q.1,q.2,l,B,((i+1:Nat):Int))):=by
    unfold F_139;rw[if_pos (by simpa using hlt),idx_of hx];simp only[bind,Option.bind_some];rw[rule_code hN hB ho hC hCl (by omega) (by omega),w64_succ (by omega)]
    cases hq:ruleP C B x nms rs with
    |inl e=>simp only[Option.bind_some,e.ok,if_true]
    |inr q=>rfl
   simp only[iterO,hs,rulesP]
   cases hq:ruleP C B x nms rs with
   |inl e=>rfl
   |inr q=>
     obtain⟨h1,rr,h2,_⟩:=ruleP_ok hB ho hCl hq;exact ih (i+1) K q.1 q.2 (by omega) (by omega) (by omega) (by rw[h2];simp[hr])
theorem rulesP_ok(hB:BOk B)(hCl:C.length≤20): ∀{Os:List On} {nms:List ByteArray} {rs:List Rq} {q:List ByteArray×List Rq},(∀x∈Os,OR x)→rulesP C B Os nms rs= .inr q→(∀r∈rs,RlOk r)→
 q.1.length≤nms.length+Os.length∧q.2.length=rs.length+Os.length∧ ∀r∈q.2,RlOk r
 | [],nms,rs,q,_,h,hr=>by
   simp only[rulesP,Sum.inr.injEq]at h;subst h;exact⟨by simp,by simp,hr⟩
 |x::Os,nms,rs,q,hO,h,hr=>by
   simp only[rulesP]at h
   cases hq:ruleP C B x nms rs with
   |inl e=>rw[hq]at h;cases h
   |inr p=>
     rw[hq]at h;obtain⟨h1,rr,h2,h3⟩:=ruleP_ok hB (hO x (List.mem_cons_self ..)) hCl hq
     obtain⟨a,b,c⟩:=rulesP_ok hB hCl (fun y hy=>hO y (List.mem_cons_of_mem _ hy)) h (by
      rw[h2];intro r hr';rcases List.mem_append.1 hr' with hr'|hr'
      ·exact hr r hr'
      obtain rfl:=List.mem_singleton.1 hr';exact h3)
     rw[h2]at b;simp only[List.length_append,List.length_cons,List.length_nil]at b ⊢;exact⟨by omega,by omega,c⟩
end
open Go Go.Eng
set_option maxRecDepth 100000
section
variable {N:Nat}
theorem rfB_out{C:List ByteArray}{Ls:List Lt}{Os:List On}(h:rfB C Ls Os=true)(hq: ∀x∈Ls,LQ x)(hp: ∀x∈Os,OQ x):LR Ls∧(∀x∈Os,OR x)∧C.Nodup:=by
 unfold rfB at h;simp only[Bool.and_eq_true,decide_eq_true_eq,List.all_eq_true]at h;obtain⟨h1,h2,h3,h4,h5,h6,h7,h8,h9⟩:=h;refine⟨⟨hq,fun x hx=>(h1 x hx).1,fun x hx=>ulB_mem h9 _ (List.mem_map.2 ⟨x,hx,rfl⟩),ulB_nd h9,h5⟩,fun x hx=>?_,ulB_nd h8⟩;have:=h2 x hx;unfold badO at this;simp only[Bool.not_eq_true',Bool.or_eq_false_iff,Bool.not_eq_false',Bool.and_eq_true]at this;exact⟨hp x hx,this.2.2.1.1,ulB_nd this.2.1⟩
theorem check_code(hN:9400000000000000000≤N){C:List ByteArray}{Ls:List Lt}{Os:List On}(hz:Fsz C Ls Os)(hq: ∀x∈Ls,LQ x)(hp: ∀x∈Os,OQ x):
 F_31 N C Ls Os=some (if rfB C Ls Os=true then(if Os.length=0 then([],[],[],0,4)else match rulesP C (bk Ls) Os [] []with| .inl (a,e)=>([],[],[],a,e.code)| .inr q=>(C,q.1,q.2,0,0))else([],[],[],0,1)):=by
 have hc:=hz.c;have ho:=hz.o;unfold F_31;rw[rf_code (by omega) hz.l hz.o hz.c hz.s hq hp];simp only[bind,Option.bind_some]
 cases hr:rfB C Ls Os with
 |false=>rfl
 |true=>
   obtain⟨hL,hO,hC⟩:=rfB_out hr hq hp;simp only[Bool.not_true,Bool.false_eq_true,if_false,if_true];by_cases h0:Os.length=0
   ·rw[if_pos (by rw[h0];rfl),if_pos h0]
   rw[if_neg (by simp;exact fun e=>h0 (by simp[e])),if_neg h0];unfold F_239 F_250;rw[app_eq (by simp;omega)];simp only[Option.bind_some,List.nil_append];rw[book_code (by omega) hL];simp only[Option.bind_some];have g:=rules_code hN hL.book hC hc ho hO (Ls.map (·.1)) Os.length 0 N [] [] (by omega) (by omega) (by simp) rfl;rw[List.drop_zero]at g;rw[show iterO N (fun s=>F_139 N Os s.1 s.2.1 s.2.2.1 s.2.2.2.1 s.2.2.2.2.1 s.2.2.2.2.2) (C,[],[],Ls.map (·.1),bk Ls,0)=_ from g]
   cases rulesP C (bk Ls) Os [] []with
   |inl p=>rfl
   |inr q=>rfl
end
open Go Go.Eng
set_option maxRecDepth 100000
abbrev T11:=Int×Int×Int×Int×Int×Int×Int×List Nd×Int×Int×ByteArray
def nd11(r:T11):Nd:=Nd.of (r.2.2.1,(r.2.2.2.1,r.2.2.2.2.1,r.2.2.2.2.2.1,r.2.2.2.2.2.2.1),r.2.2.2.2.2.2.2.1,r.2.2.2.2.2.2.2.2.1,r.2.2.2.2.2.2.2.2.2.1,r.2.2.2.2.2.2.2.2.2.2)
theorem cnt_of(k:Int)(q:Int×Int×Int×Int)(l:List Nd)(a b:Int)(t:ByteArray):cnt (Nd.of (k,q,l,a,b,t))=1+cntL l:=by
 rw[cnt_un];rfl
def EX(s:ByteArray)(p e c:Int)(r:T11):Prop:=Pos s r.1∧(eOk errIds r.2.1=false→eOk errIds e=false∧p≤r.1∧NdQ (nd11 r)∧(cnt (nd11 r):Int)≤r.1-p+c)
section
variable {N:Nat}{s:ByteArray}{p e c:Int}
theorem EX.er{r:T11}(h:Er s (r.1,r.2.1)):EX s p e c r:=⟨h.1,fun he=>by rw[h.2]at he;cases he⟩
theorem EX.leaf{q x k a b c' d:Int}{t:ByteArray}(h:Go1 s (p+1) e (q,x))(ht:t.size≤maxLen):EX s p e 0 (q,x,k,a,b,c',d,[],0,0,t):=⟨h.1,fun he=>by
 have:=h.2 he;simp only at this;refine⟨this.1,by simp only;omega,NdQ.of ht (fun x hx=>(by cases hx)),?_⟩;unfold nd11;rw[cnt_of];simp only[cntL];omega⟩
theorem maxM:1000000≤maxLen:=by decide
theorem emp0:ByteArray.empty.size≤maxLen:=by decide
theorem atom_has{self_:ByteArray→Int→Int→Option T11}(hs:Sm s)(hN:1000010≤N)(h:Pos s p)(hp:p<s.size)(IH: ∀q x,Pos s q→p<q→Has (self_ s q x) (EX s q x 2)):Has (F_196 N self_ s p e) (EX s p e 0):=by
 unfold F_196;have hs':=hs;unfold Sm at hs';have h0:=h.1;refine(take_has hs h).bind fun⟨q,b⟩ ⟨h1,h2,h3,h4⟩=>?_;simp only at h1 h2 h3 h4;refine .ite (fun hb=>?_) fun hb=>?_
 ·obtain⟨rfl,he⟩:=h3 hb;refine(IH _ e h1 (by omega)).bind fun⟨q1,e1,k,a1,a2,a3,a4,ks,mn,mx,tx⟩ ⟨g1,g2⟩=>?_;simp only at g1 g2;refine Has.bind (P:=fun r=>Pos s r.1∧(r.2=false→eOk errIds e1=false→r.1=q1+1)) (.ite (fun _=>(take_8_has hs g1).bind fun⟨q2,b2⟩ ⟨k1,k2,k3,k4⟩=> .ret ⟨k1,fun hb2 _=>(k3 (by simpa using hb2)).1⟩) fun hx=> .ret ⟨g1,fun _ he1=>by simp[he1]at hx⟩) fun⟨q3,b3⟩ ⟨k1,k2⟩=>?_;simp only at k1 k2;refine Has.bind (P:=fun r=>Pos s r.1∧(eOk errIds r.2=false→eOk errIds e1=false∧r.1=q1+1)) (.ite (fun _=>(rfail1_has k1 ⟨by omega,Int.le_refl _⟩).bind fun r hr=> .ret ⟨hr.1,fun he1=>by rw[hr.2]at he1;cases he1⟩) fun hb3=> .ret ⟨k1,fun he1=>⟨he1,k2 (by simpa using hb3) he1⟩⟩) fun⟨q4,e4⟩ ⟨l1,l2⟩=> .ret ⟨l1,fun he4=>?_⟩;simp only at l1 l2 he4;obtain⟨m1,m2⟩:=l2 he4;obtain⟨n1,n2,n3,n4⟩:=g2 m1;refine⟨he,by simp only;omega,n3,?_⟩;have n4:(cnt (nd11 (q4,e4,k,a1,a2,a3,a4,ks,mn,mx,tx)):Int)≤q1-(p+1)+2:=n4;simp only;omega
 obtain rfl:=h4 (by simpa using hb);have go: ∀{x:Int×Int},Go1 s (q+1) e x→Go1 s (q+1) e (x.1,x.2):=fun h=>h;refine(on_2_has h).bind fun b _=> .ite (fun _=>?_) fun _=>?_
 ·refine Has.bind (P:=fun r=>Pos s r.2.2.2.2.1∧(eOk errIds r.2.2.2.2.2=false→q<r.2.2.2.2.1)) ((bracket_has hs hN h).bind fun r hr=> .ret hr) fun⟨w1,w2,w3,w4,q2,x⟩ ⟨k1,k2⟩=>?_;simp only at k1 k2;refine Has.bind (P:=Go1 s (q+1) e) (.ite (fun hx=>(rfail_has k1 k1 hx).bind fun r hr=> .ret hr.go) fun hx=> .ret ⟨k1,fun he=>⟨he,by have:=k2 (by simpa using hx);simp only;omega⟩⟩) fun⟨q3,x3⟩ hg=> .bind (P:=fun _=>True) (.ret trivial) fun _ _=> .ret (EX.leaf hg emp0)
 refine(on_3_has h).bind fun b _=> .ite (fun _=>(rname_has hs hN h hp).bind fun⟨q2,x2,k2,t2⟩ ⟨g1,g2⟩=> .ret (EX.leaf g1 (Nat.le_trans g2 (Nat.le_trans hs' maxM)))) fun _=>?_;refine(take_1_has hs h).bind fun⟨q2,b2⟩ ⟨k1,k2,k3,k4⟩=> .ite (fun hb2=>?_) fun hb2=>?_
 ·obtain⟨hq,he⟩:=k3 hb2;unfold F_238;refine Has.bind (P:=fun _=>True) ((sone_has (by omega) (by omega)).bind fun _ _=>(not_has _ _ _ _ hN).bind fun _ _=> .ret trivial) fun _ _=> .bind (P:=fun _=>True) (.ret trivial) fun _ _=> .ret (EX.leaf ⟨k1,fun _=>⟨he,by simp only at hq ⊢;omega⟩⟩ emp0)
 obtain rfl:=k4 (by simpa using hb2);refine(on_5_has h).bind fun b _=> .ite (fun _=>(rfail3_has h h).bind fun r hr=> .ret (EX.er hr)) fun _=>?_;refine(read_has hs hN h.1 h.2).bind fun⟨v,q3,x⟩ ⟨l1,l2,l3,l4,l5⟩=>?_;simp only at l1 l2 l3 l4 l5;refine Has.bind (P:=Go1 s (q2+1) e) (.ite (fun hx=>(rfail_has l1 l1 hx).bind fun r hr=> .ret hr.go) fun hx=> .ret ⟨l1,fun he=>⟨he,by have:=l3 (by simpa using hx);simp only;omega⟩⟩) fun⟨q4,x4⟩ hg=>(sone_has l4 l5).bind fun _ _=> .bind (P:=fun _=>True) (.ret trivial) fun _ _=> .ret (EX.leaf hg emp0)
def PA{α β:Type}(S:α→Prop)(Q:β→Prop):α ⊕ β→Prop
 | .inl a=>S a
 | .inr z=>Q z
theorem bounded_has(hs:Sm s)(h:Pos s p):Has (F_197 N s p e) (OnP s p e):=by
 unfold F_197;unfold Sm at hs;have h0:=h.1;refine Has.bind (P:=OnP s p e) ?_ fun b hb=> .ret hb;refine(on_3_has h).bind fun b hb=> .ite (fun hb2=> .ite (fun hq=>?_) fun _=> .ret fun h=>(by cases h)) fun _=> .ret fun h=>(by cases h);have:=hb hb2;rw[w64_id (x:=p+1) (by omega) (by omega)]at hq ⊢;have hq:p+1<s.size:=by simpa using hq
 exact(sidx_has (by omega) hq).bind fun c _=> .bind (P:=fun _=>True) ⟨_,rfl,trivial⟩ fun k _=> .ret fun _=>this
def mu(s:ByteArray)(q x:Int):Nat:=if eOk errIds x=true then 0 else s.size+1-q.toNat
theorem signs_has{r:T11}(hs:Sm s)(hN:1000010≤N)(hr:EX s p e 0 r):Has (F_253 N s r.1 r.2.1 r.2.2.1 r.2.2.2.1 r.2.2.2.2.1 r.2.2.2.2.2.1 r.2.2.2.2.2.2.1 r.2.2.2.2.2.2.2.1 r.2.2.2.2.2.2.2.2.1 r.2.2.2.2.2.2.2.2.2.1 r.2.2.2.2.2.2.2.2.2.2)
 fun z=>match z with| .inl r'=>EX s p e 0 r'∧mu s r'.1 r'.2.1<mu s r.1 r.2.1| .inr r'=>EX s p e 0 r':=by
 obtain⟨h1,h2⟩:=hr;obtain⟨q,x,k,a1,a2,a3,a4,ks,mn,mx,tx⟩:=r;simp only at h1 h2;have h10:=h1.1;have h11:=h1.2;have hs':=hs;unfold Sm at hs';unfold F_253;let SA:Int×Int×Int×Int→Prop:=fun a=>eOk errIds x=false∧Go1 s (q+1) x (a.1,a.2.1);let SB:Int×Int×List Nd×Int×Int→Prop:=fun b=>eOk errIds x=false∧Go1 s (q+1) x (b.1,b.2.1)∧b.2.2.1= [nd11 (q,x,k,a1,a2,a3,a4,ks,mn,mx,tx)];let PE:T11 ⊕ T11→Prop:=PA (fun _=>False) (EX s p e 0)
 have SAt: ∀{q':Int} {b:Bool} {u v:Int},TkR s q x (q',b)→b=true→SA (q',x,u,v):=fun ht hb=>by
  obtain⟨t1,t2,t3,t4⟩:=ht;obtain⟨t5,t6⟩:=t3 hb;exact⟨t6,t1,fun he=>⟨he,by simp only at t5 ⊢;omega⟩⟩
 refine Has.bind (P:=PA SB PE) ?_ fun z hz=>?_
 ·refine Has.bind (P:=PA SA (PA SB PE)) ?_ fun z hz=>?_
  ·refine(take_2_has hs h1).bind fun⟨q1,b1⟩ t1=>?_
   refine Has.bind (P:=PA SA (PA SA (PA SB PE))) (.ite (fun hb=> .ret (SAt t1 hb)) fun hb=>?_) fun z hz=>by
    cases z with
    |inl a=>exact .ret hz
    |inr z=>exact .ret hz
   have e1:q1=q:=t1.2.2.2 (by simpa using hb);subst e1;refine(take_3_has hs h1).bind fun⟨q2,b2⟩ t2=>?_
   refine Has.bind (P:=PA SA (PA SA (PA SA (PA SB PE)))) (.ite (fun hb=> .ret (SAt t2 hb)) fun hb=>?_) fun z hz=>by
    cases z with
    |inl a=>exact .ret hz
    |inr z=>exact .ret hz
   have e2:q2=q1:=t2.2.2.2 (by simpa using hb);subst e2;refine(take_4_has hs h1).bind fun⟨q3,b3⟩ t3=>?_
   refine Has.bind (P:=PA SA (PA SA (PA SA (PA SA (PA SB PE))))) (.ite (fun hb=> .ret (SAt t3 hb)) fun hb=>?_) fun z hz=>by
    cases z with
    |inl a=>exact .ret hz
    |inr z=>exact .ret hz
   have e3:q3=q2:=t3.2.2.2 (by simpa using hb);subst e3;refine(bounded_has hs h1).bind fun b hb=> .ite (fun hb2=>?_) fun _=> .ret (show EX s p e 0 _ from⟨h1,h2⟩);obtain⟨g1,g2⟩:=hb hb2;exact(bounds_has hs hN h1 g1).bind fun⟨q4,x4,n1,n2⟩ hg=> .ret ⟨g2,hg⟩
  cases z with
  |inl a=>exact .ret ⟨hz.1,hz.2,rfl⟩
  |inr z=>exact .ret hz
 cases z with
 |inl b=>
   obtain⟨q',x',l,mn',mx'⟩:=b;obtain⟨g1,g2,g3⟩:=hz;simp only at g2 g3;subst g3;obtain⟨n1,n2,n3,n4⟩:=h2 g1;refine .ret ⟨⟨g2.1,fun he=>?_⟩,?_⟩
   ·have g4:=(g2.2 he).2;simp only at g4;refine⟨n1,by simp only;omega,NdQ.of emp0 fun y hy=>by rw[List.mem_singleton.1 hy];exact n3,?_⟩;show(cnt (Nd.of _):Int)≤_;unfold nd11;rw[cnt_of];simp only[cntL];unfold nd11 at n4;simp only at n4 ⊢;omega
   unfold mu;simp only;rw[g1,if_neg Bool.false_ne_true];split
   ·omega
   rename_i hx;have g4:=(g2.2 (by simpa using hx)).2;have:=g2.1.1;simp only at g4 this;omega
 |inr z=>
   cases z with
   |inl r=>exact(show False from hz).elim
   |inr r=>exact .ret hz
theorem piece_has{self_:ByteArray→Int→Int→Option T11}(hs:Sm s)(hN:1000010≤N)(h:Pos s p)(hp:p<s.size)(IH: ∀q x,Pos s q→p<q→Has (self_ s q x) (EX s q x 2)):Has (F_84 N self_ s p e) (EX s p e 0):=by
 unfold F_84;unfold Sm at hs;refine(atom_has hs hN h hp IH).bind fun r hr=>?_;refine Has.loop (EX s p e 0) (fun r=>mu s r.1 r.2.1) _ hr (by unfold mu;split<;>omega) fun r hr=>?_;refine(signs_has hs hN hr).mono fun z hz=>?_;cases z<;>exact hz
end
open Go Go.Eng
set_option maxRecDepth 100000
theorem cntL_app1: ∀(l:List Nd) (x:Nd),cntL (l++ [x])=cntL l+cnt x
 | [],x=>by simp[cntL]
 |y::l,x=>by simp only[List.cons_append,cntL,cntL_app1 l x];omega
theorem app_has{α:Type}{xs ys:List α}(h:xs.length+ys.length≤4294967296):Has (app xs ys) fun zs=>zs=xs++ys:=⟨_,app_eq h,rfl⟩
def LX(s:ByteArray)(p e c:Int)(r:Int×Int×List Nd):Prop:=Pos s r.1∧(eOk errIds r.2.1=false→eOk errIds e=false∧p≤r.1∧(∀y∈r.2.2,NdQ y)∧(cntL r.2.2:Int)≤r.1-p+c)
theorem nd11_un(q x:Int)(y:Nd):nd11 (q,x,y.un.1,y.un.2.1.1,y.un.2.1.2.1,y.un.2.1.2.2.1,y.un.2.1.2.2.2,y.un.2.2.1,y.un.2.2.2.1,y.un.2.2.2.2.1,y.un.2.2.2.2.2)=y:=Nd.of_eq y
section
variable {N:Nat}{s:ByteArray}{p e:Int}
theorem LX.out{q x c k:Int}{l:List Nd}(h:LX s p e c (q,x,l)):
 Has (if((l.length:Int)==1)=true then(idx l 0 >>= fun y=>some (q,x,y.un.1,y.un.2.1.1,y.un.2.1.2.1,y.un.2.1.2.2.1,y.un.2.1.2.2.2,y.un.2.2.1,y.un.2.2.2.1,y.un.2.2.2.2.1,y.un.2.2.2.2.2))else(some (q,x,k,0,0,0,0,l,0,0,ByteArray.empty))) (EX s p e (c+1)):=by
 obtain⟨h1,h2⟩:=h;simp only at h1 h2;refine .ite (fun hl=>?_) fun _=> .ret ⟨h1,fun he=>?_⟩
 ·have hl:(l.length:Int)=1:=by simpa using hl
  refine(idx_has (Int.le_refl 0) (by omega)).bind fun y hy=> .ret ⟨h1,fun he=>?_⟩;obtain⟨n1,n2,n3,n4⟩:=h2 he;have:=cntL_mem hy;rw[nd11_un];exact⟨n1,n2,n3 y hy,by simp only;omega⟩
 obtain⟨n1,n2,n3,n4⟩:=h2 he;refine⟨n1,n2,NdQ.of emp0 n3,?_⟩;unfold nd11;rw[cnt_of];simp only;omega
theorem branch_has{self_:ByteArray→Int→Int→Option T11}(hs:Sm s)(hN:1000010≤N)(h:Pos s p)(IH: ∀q x,Pos s q→p<q→Has (self_ s q x) (EX s q x 2)):Has (F_82 N self_ s p e) (EX s p e 1):=by
 unfold F_82;have hp0:=h.1;have hs':=hs;unfold Sm at hs';refine Has.bind (P:=LX s p e 0) ?_ fun⟨q,x,l⟩ hr=>hr.out;refine Has.loop (LX s p e 0) (fun r=>mu s r.1 r.2.1) _ ⟨h,fun he=>⟨he,Int.le_refl _,fun y hy=>(by cases hy),by simp[cntL]⟩⟩ (by unfold mu;split<;>omega) fun⟨q,x,l⟩ hr=>?_;have hr':=hr;obtain⟨h1,h2⟩:=hr';simp only at h1 h2;have h10:=h1.1;have h11:=h1.2;unfold F_283;refine Has.bind (P:=OnP s q x) (more_has.bind fun b hb=> .ite (fun hb2=>(on_has h1).bind fun b2 _=> .ret fun _=>hb hb2) fun _=> .ret fun h=>(by cases h)) fun b hb=> .ite (fun hb2=>?_) fun _=> .ret hr;obtain⟨hq,hx⟩:=hb hb2;obtain⟨n1,n2,n3,n4⟩:=h2 hx;have hl:=cntL_len l;refine(piece_has hs hN h1 hq fun q' x' hq' hlt=>IH q' x' hq' (by omega)).bind fun⟨q2,x2,k,a1,a2,a3,a4,ks,mn,mx,tx⟩ ⟨g1,g2⟩=>?_;simp only at g1 g2;refine(app_has (by simp only[List.length_singleton];omega)).bind fun l' hl'=>?_;subst hl';refine .ret ⟨⟨g1,fun he=>?_⟩,?_⟩
 ·obtain⟨m1,m2,m3,m4⟩:=g2 he;refine⟨n1,by simp only;omega,fun y hy=>?_,?_⟩
  ·rcases List.mem_append.1 hy with hy|hy
   ·exact n3 y hy
   rw[List.mem_singleton.1 hy];exact m3
  simp only;rw[cntL_app1];unfold nd11 at m4;simp only at m4;omega
 unfold mu;simp only;rw[hx,if_neg Bool.false_ne_true];split
 ·omega
 rename_i hx2;obtain⟨m1,m2,m3,m4⟩:=g2 (by simpa using hx2);have:=cnt_un (nd11 (q2,x2,k,a1,a2,a3,a4,ks,mn,mx,tx));omega
theorem expr_has(hs:Sm s): ∀(n:Nat) (p e:Int) (N:Nat),Pos s p→(s.size:Int)-p≤n→1000011+n≤N→Has (F_43 N s p e) (EX s p e 2):=by
 have hs':=hs;unfold Sm at hs';intro n
 induction n with
 |zero=>
   intro p e N h hn hN;obtain⟨M,rfl⟩: ∃m,N=m+1:=⟨N-1,by omega⟩
   have IH: ∀q x,Pos s q→p<q→Has (F_43 M s q x) (EX s q x 2):=fun q x hq hlt=>by
    have:=hq.2;omega
   exact key M p e h (by omega) IH
 |succ n ih=>
   intro p e N h hn hN;obtain⟨M,rfl⟩: ∃m,N=m+1:=⟨N-1,by omega⟩;exact key M p e h (by omega) fun q x hq hlt=>ih q x M hq (by omega) (by omega)
where
 key (M:Nat) (p e:Int) (h:Pos s p) (hM:1000010≤M) (IH: ∀q x,Pos s q→p<q→Has (F_43 M s q x) (EX s q x 2)):Has (F_43 (M+1) s p e) (EX s p e 2):=by
  have hp0:=h.1;have hs':=hs;unfold Sm at hs';rw[F_43];refine(branch_has hs hM h IH).bind fun⟨q1,x1,k,a1,a2,a3,a4,ks,mn,mx,tx⟩ ⟨h1,h2⟩=>?_;simp only at h1 h2;refine Has.bind (P:=LX s p e 1) ?_ fun⟨q,x,l⟩ hr=>hr.out;refine Has.loop (LX s p e 1) (fun r=>mu s r.1 r.2.1) _ ⟨h1,fun he=>?_⟩ (by unfold mu;split<;>omega) fun⟨q,x,l⟩ hr=>?_
  ·obtain⟨n1,n2,n3,n4⟩:=h2 he;refine⟨n1,n2,fun y hy=>by rw[List.mem_singleton.1 hy];exact n3,?_⟩;have n4:(cnt (Nd.of (k,(a1,a2,a3,a4),ks,mn,mx,tx)):Int)≤q1-p+1:=n4;simp only[cntL];omega
  have hr':=hr;obtain⟨g1,g2⟩:=hr';simp only at g1 g2;have g10:=g1.1;have g11:=g1.2;unfold F_284;refine(take_7_has hs g1).bind fun⟨q2,b⟩ ⟨t1,t2,t3,t4⟩=> .ite (fun hb=>?_) fun hb=>?_
  ·obtain⟨t5,hx⟩:=t3 hb;simp only at t1 t2 t5;obtain⟨n1,n2,n3,n4⟩:=g2 hx;have hl:=cntL_len l;refine(branch_has hs hM t1 fun q' x' hq' hlt=>IH q' x' hq' (by omega)).bind fun⟨q3,x3,k,a1,a2,a3,a4,ks,mn,mx,tx⟩ ⟨k1,k2⟩=>?_;simp only at k1 k2;refine(app_has (by simp only[List.length_singleton];omega)).bind fun l' hl'=>?_;subst hl';refine .ret ⟨⟨k1,fun he=>?_⟩,?_⟩
   ·obtain⟨m1,m2,m3,m4⟩:=k2 he;refine⟨n1,by simp only;omega,fun y hy=>?_,?_⟩
    ·rcases List.mem_append.1 hy with hy|hy
     ·exact n3 y hy
     rw[List.mem_singleton.1 hy];exact m3
    simp only;rw[cntL_app1];unfold nd11 at m4;simp only at m4;omega
   unfold mu;simp only;rw[hx,if_neg Bool.false_ne_true];split
   ·omega
   rename_i hx2;obtain⟨m1,m2,m3,m4⟩:=k2 (by simpa using hx2);have:=cnt_un (nd11 (q3,x3,k,a1,a2,a3,a4,ks,mn,mx,tx));have:=k1.2;omega
  have e:q2=q:=t4 (by simpa using hb);subst e;exact .ret hr
end
open Go Go.Eng
set_option maxRecDepth 100000
theorem run_has{σ α:Type}{Y:α→σ→Option (σ×Bool)}(hY: ∀a s,Has (Y a s) fun r=>r.2=true): ∀(l:List α) (n:Nat) (s:σ),Has (run Y l n s) fun z=>match z with| .inr (.inl _)=>False|_=>True
 | [],n,s=>by simp only[run];exact .ret trivial
 |_::_,0,s=>by simp only[run];exact .ret trivial
 |a::l,n+1,s=>by
   obtain⟨⟨t,b⟩,h1,h2⟩:=hY a s;have h2:b=true:=h2;subst h2;simp only[run,h1];exact run_has hY l n t
section
variable {N:Nat}
theorem all_has{σ:Type}{Y:Nd×Int→σ→Option (σ×Bool)}(hY: ∀a s,Has (Y a s) fun r=>r.2=true)(t:Nd)(st:σ)(hc:cnt t<100000)(hN:1000010≤N):
 Has (F_90 N Y st t.un.1 t.un.2.1.1 t.un.2.1.2.1 t.un.2.1.2.2.1 t.un.2.1.2.2.2 t.un.2.2.1 t.un.2.2.2.1 t.un.2.2.2.2.1 t.un.2.2.2.2.2) fun r=>r.2=true:=by
 unfold F_90;rw[show((601:Int))=((601:Nat):Int)from rfl,show((1:Int))=((1:Nat):Int)from rfl,walk_run Y (cnt t) t rfl 1 601 N st (by omega) hc (by omega) (by omega)];refine(run_has hY (wk 1 t) 601 st).bind fun z hz=>?_
 match z,hz with
 | .inl (x,y),_=>exact .ret rfl
 | .inr (.inr (x,y)),_=>exact .ret rfl
theorem depth_has(t:Nd)(hc:cnt t<100000)(hN:1000010≤N):Has (F_58 N t.un.1 t.un.2.1.1 t.un.2.1.2.1 t.un.2.1.2.2.1 t.un.2.1.2.2.2 t.un.2.2.1 t.un.2.2.2.1 t.un.2.2.2.2.1 t.un.2.2.2.2.2) fun _=>True:=by
 unfold F_58;refine .bind (P:=fun _=>True) (.ret trivial) fun _ _=>(all_has (fun a s=> .ret rfl) t 0 hc hN).bind fun⟨x,b⟩ hb=>?_;have hb:b=true:=hb;subst hb;exact .ret trivial
theorem count_has(t:Nd)(hc:cnt t<100000)(hN:1000010≤N):Has (F_57 N t.un.1 t.un.2.1.1 t.un.2.1.2.1 t.un.2.1.2.2.1 t.un.2.1.2.2.2 t.un.2.2.1 t.un.2.2.2.1 t.un.2.2.2.2.1 t.un.2.2.2.2.2) fun _=>True:=by
 unfold F_57;refine .bind (P:=fun _=>True) (.ret trivial) fun _ _=>(all_has (fun a s=> .ret rfl) t 0 hc hN).bind fun⟨x,b⟩ hb=>?_;have hb:b=true:=hb;subst hb;exact .ret trivial
def PX(s:ByteArray)(r:Int×Int×Int×Int×Int×List Nd×Int×Int×ByteArray×Int×Int):Prop:=
 Pos s r.2.2.2.2.2.2.2.2.2.1∧(eOk errIds r.2.2.2.2.2.2.2.2.2.2=false→NdQ (Nd.of (r.1,(r.2.1,r.2.2.1,r.2.2.2.1,r.2.2.2.2.1),r.2.2.2.2.2.1,r.2.2.2.2.2.2.1,r.2.2.2.2.2.2.2.1,r.2.2.2.2.2.2.2.2.1))∧cnt (Nd.of (r.1,(r.2.1,r.2.2.1,r.2.2.2.1,r.2.2.2.2.1),r.2.2.2.2.2.1,r.2.2.2.2.2.2.1,r.2.2.2.2.2.2.2.1,r.2.2.2.2.2.2.2.2.1))≤s.size+2)
theorem parse_has{s:ByteArray}(hs:s.size≤5000)(hN:2000000≤N):Has (F_193 N s) (PX s):=by
 unfold F_193;have hsm:Sm s:=by unfold Sm;omega
 have p0:Pos s 0:=⟨Int.le_refl _,by omega⟩;refine(expr_has hsm s.size 0 0 N p0 (by omega) (by omega)).bind fun⟨q,x,k,a1,a2,a3,a4,ks,mn,mx,tx⟩ ⟨h1,h2⟩=>?_;simp only at h1 h2;refine Has.bind (P:=fun r=>Pos s r.1∧(eOk errIds r.2=false→eOk errIds x=false)) ?_ fun⟨q2,x2⟩ ⟨g1,g2⟩=>?_
 ·refine more_has.bind fun b _=>?_;refine Has.bind (P:=fun r=>Pos s r.1∧(eOk errIds r.2=false→eOk errIds x=false)) ?_ fun r hr=> .ret hr;have E: ∀{r:Int×Int},Er s r→Pos s r.1∧(eOk errIds r.2=false→eOk errIds x=false):=fun hr=>⟨hr.1,fun he=>by rw[hr.2]at he;cases he⟩;refine .ite (fun _=>(rfail3_has h1 h1).bind fun r hr=> .ret (E hr)) fun _=>?_;refine Has.bind (P:=fun r=>Pos s r.1∧(eOk errIds r.2=false→eOk errIds x=false)) ?_ fun r hr=> .ret hr;refine .ite (fun he=> .ret ⟨h1,fun h=>by simp only at h;rw[he]at h;cases h⟩) fun he=>?_;have he:eOk errIds x=false:=by simpa using he
  obtain⟨n1,n2,n3,n4⟩:=h2 he;have hp:=h1.2
  have hc:cnt (Nd.of (k,(a1,a2,a3,a4),ks,mn,mx,tx))<100000:=by
   have n4:(cnt (Nd.of (k,(a1,a2,a3,a4),ks,mn,mx,tx)):Int)≤q-0+2:=n4;omega
  refine(depth_has (Nd.of (k,(a1,a2,a3,a4),ks,mn,mx,tx)) hc (by omega)).bind fun d _=>?_;refine Has.bind (P:=fun r=>Pos s r.1∧(eOk errIds r.2=false→eOk errIds x=false)) ?_ fun r hr=> .ret hr;refine .ite (fun _=>(rfail5_has h1 p0).bind fun r hr=> .ret (E hr)) fun _=>?_;refine(count_has (Nd.of (k,(a1,a2,a3,a4),ks,mn,mx,tx)) hc (by omega)).bind fun d _=>?_;refine Has.bind (P:=fun r=>Pos s r.1∧(eOk errIds r.2=false→eOk errIds x=false)) ?_ fun r hr=> .ret hr;exact .ite (fun _=>(rfail6_has h1 p0).bind fun r hr=> .ret (E hr)) fun _=> .ret ⟨h1,fun _=>he⟩
 simp only at g1 g2;refine .ite (fun he=> .bind (P:=fun _=>True) (.ret trivial) fun _ _=> .ret ⟨g1,fun h=>?_⟩) fun he=> .ret ⟨⟨by simp,Int.le_refl _⟩,fun _=>?_⟩
 ·simp only at h;rw[he]at h;cases h
 obtain⟨n1,n2,n3,n4⟩:=h2 (g2 (by simpa using he));have hp:=h1.2;have n4:(cnt (Nd.of (k,(a1,a2,a3,a4),ks,mn,mx,tx)):Int)≤q-0+2:=n4;exact⟨n3,by simp only;omega⟩
theorem closing_has{s:ByteArray}(hs:Sm s)(hN:1000010≤N):Has (F_103 N s) fun k=> -1≤k∧k<s.size:=by
 unfold F_103;unfold Sm at hs;refine Has.bind (P:=fun z=>match z with| .inl _=>True| .inr (k:Int)=>0≤k∧k<s.size) ?_ fun z hz=>?_
 ·refine Has.loop (fun i:Int=>0≤i∧i≤s.size+1) (fun i:Int=>s.size+2-i.toNat) _ ⟨by omega,by omega⟩ (by simp;omega) fun i ⟨h1,h2⟩=>?_;unfold F_287;refine .ite (fun h=>?_) fun _=> .ret trivial;have h:i<s.size:=by simpa using h
  let SJ:Int→Prop:=fun j=>i≤j∧j≤i+1;let F:Int→Prop:=fun _=>False;let U:Unit ⊕ Int→Prop:=PA (fun _=>False) fun k=>k=i;refine Has.bind (P:=PA SJ (PA F U)) ?_ fun z hz=>?_
  ·refine(sidx_has h1 h).bind fun c _=>?_
   refine Has.bind (P:=PA SJ (PA F (PA F U))) ?_ fun z hz=>by
    cases z with
    |inl j=>exact .ret hz
    |inr z=>
      cases z with
      |inl j=>exact(show False from hz).elim
      |inr z=>exact .ret hz
   refine Has.bind (P:=PA SJ (PA F (PA F (PA F U)))) (.ite (fun _=> .ret ?_) fun _=> .ite (fun _=> .ret rfl) fun _=> .ret ⟨Int.le_refl _,by omega⟩) fun z hz=>by
    cases z with
    |inl j=>exact .ret hz
    |inr z=>
      cases z with
      |inl j=>exact(show False from hz).elim
      |inr z=>exact .ret hz
   show i≤w64 (i+1)∧w64 (i+1)≤i+1;rw[w64_id (by omega) (by omega)];omega
  match z,hz with
  | .inl j,hz=>
    obtain⟨j1,j2⟩:i≤j∧j≤i+1:=hz;refine .ret ?_;simp only;rw[w64_id (by omega) (by omega)];exact⟨⟨by omega,by omega⟩,by omega⟩
  | .inr (.inl j),hz=>exact(show False from hz).elim
  | .inr (.inr (.inl u)),hz=>exact(show False from hz).elim
  | .inr (.inr (.inr k)),hz=>
    obtain rfl:k=i:=hz;exact .ret ⟨h1,h⟩
 cases z with
 |inl u=>exact .ret ⟨Int.le_refl _,by omega⟩
 |inr k=>exact .ret ⟨by have:=hz.1;omega,hz.2⟩
theorem behind1_has{s:ByteArray}{a p e:Int}(hs:Sm s)(h:Pos s p):Has (F_161 N s a p e) fun r=>Pos s r.1∧(eOk errIds r.2.1=false→eOk errIds e=false∧r.2.2=true):=by
 unfold F_161;unfold Sm at hs;have h1:=h.1;have h2:=h.2;refine .ite (fun he=> .ret ⟨h,fun h=>by simp only at h;rw[he]at h;cases h⟩) fun he=> .ite (fun _=>?_) fun _=>?_
 ·exact(fail6_has h h).bind fun r hr=> .ret ⟨hr.1,fun h=>by simp only at h;rw[hr.2]at h;cases h⟩
 refine(rest1_has h).bind fun r hr=>prefix1_has.bind fun b hb=> .ite (fun _=>?_) fun hb2=>?_
 ·exact(fail7_has h h).bind fun r hr=> .ret ⟨hr.1,fun h=>by simp only at h;rw[hr.2]at h;cases h⟩
 have:=hb (by simpa using hb2);refine .ret ⟨?_,fun _=>⟨by simpa using he,rfl⟩⟩;simp only;rw[w64_id (by omega) (by omega)];exact⟨by omega,by omega⟩
theorem fail8_has{s:ByteArray}{a p e q x:Int}(h:Pos s p)(hq:Pos s q)(hx:eOk errIds x=true):Has (F_137 N s a p e q x) (Er s):=by
 unfold F_137;exact Has.bind (P:=Er s) (.ite (fun _=> .ret ⟨hq,hx⟩) fun he=> .ret ⟨h,by simpa using he⟩) fun r hr=> .ret hr
def LE(s:ByteArray)(e:Int)(r:T11):Prop:=Pos s r.1∧(eOk errIds r.2.1=false→eOk errIds e=false∧NdQ (nd11 r)∧cnt (nd11 r)≤s.size+2)
theorem LE.er{s:ByteArray}{e:Int}{r:T11}(h:Er s (r.1,r.2.1)):LE s e r:=⟨h.1,fun he=>by rw[h.2]at he;cases he⟩
theorem expression_has{s:ByteArray}{a p e:Int}(hs:s.size≤5000)(hN:2000000≤N)(h:Pos s p):Has (F_162 N s a p e) (LE s e):=by
 unfold F_162;have hsm:Sm s:=by unfold Sm;omega
 refine(behind1_has hsm h).bind fun⟨q,x,b⟩ ⟨h1,h2⟩=>?_;simp only at h1 h2;have h10:=h1.1;have h11:=h1.2;refine .ite (fun hb=> .ret ⟨h1,fun he=>?_⟩) fun _=>?_
 ·have:=(h2 he).2;subst this;cases hb
 refine Has.bind (P:=fun c=>c=false→q<s.size) ?_ fun c hc=>?_
 ·refine(rest1_has h1).bind fun r hr=> .ite (fun _=> .ret fun h=>(by cases h)) fun hne=>?_;refine(rest1_has h1).bind fun r2 hr2=>?_
  have hr0:(0:Int)<r.size:=by
   have hz:r.size≠0:=fun hz=>hne (by
    have:r=ByteArray.empty:=ByteArray.ext (Array.eq_empty_of_size_eq_zero hz);rw[this];simp)
   omega
  exact(sidx_has (Int.le_refl 0) (by omega)).bind fun v _=> .ret fun _=>by omega
 refine .ite (fun _=>(fail7_has h1 h1).bind fun r hr=> .ret (LE.er hr)) fun hc2=>?_;have hq:=hc (by simpa using hc2);rw[w64_id (x:=q+1) (by omega) (by omega)];have hq1:Pos s (q+1):=⟨by omega,by omega⟩;refine(rest1_has hq1).bind fun r hr=>(closing_has (s:=r) (by unfold Sm;omega) (by omega)).bind fun k hk=>?_;refine .ite (fun _=>(fail6_has hq1 ⟨by omega,Int.le_refl _⟩).bind fun r hr=> .ret (LE.er hr)) fun hk0=>?_;have hk0:0≤k:=by simpa using hk0
 refine(rest1_has hq1).bind fun r2 hr2=>(sslc_has (Int.le_refl 0) hk0 (by omega)).bind fun t ht=>?_;refine(parse_has (s:=t) (by omega) hN).bind fun⟨k1,a1,a2,a3,a4,ks,mn,mx,tx,u,y⟩ ⟨g1,g2⟩=>?_;simp only at g1 g2;have g10:=g1.1;have g11:=g1.2;refine .ite (fun hy=>?_) fun hy=>?_
 ·rw[w64_id (x:=q+1+u) (by omega) (by omega)];exact(fail8_has hq1 ⟨by omega,by omega⟩ hy).bind fun r hr=> .ret (LE.er hr)
 obtain⟨n1,n2⟩:=g2 (by simpa using hy);rw[w64_id (x:=k+1) (by omega) (by omega),w64_id (x:=q+1+(k+1)) (by omega) (by omega)];exact .ret ⟨⟨by simp only;omega,by simp only;omega⟩,fun he=>⟨(h2 he).1,n1,Nat.le_trans n2 (by omega)⟩⟩
end
end Go.Proofs.YtnkednnnkifenaaGreatDoor
