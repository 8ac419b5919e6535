import Derived.Test.YtchjfkdljnmmgaaGreatDoorCanonOfP2
namespace Go.Proofs.YtchjfkdljnmmgaaGreatDoor
open Go Go.Eng
open Go Go.Eng
variable {N:Nat}{rows:List Go.Eng.LI}{rule entry:Go.Eng.LI}
theorem after_specB{N n:Nat}{i:Int}{m:LI}(hN:4294967296≤N)(hm:MkR n m)(hn:n≤65536)(h1: -1≤i)(h2:i<n):
 ∃r,F_5 N m (n:Int) i=some r∧((r= -1∧ ∀j:Nat,i<(j:Int)→has m j=false)∨ ∃j:Nat,r=(j:Int)∧i<(j:Int)∧has m j=true∧ ∀j':Nat,i<(j':Int)→j'<j→has m j'=false):=by
 obtain⟨p,hp⟩: ∃p:Nat,i+1=(p:Int):=⟨(i+1).toNat,by omega⟩
 have e1:w64 (imax i (-1)+1)=(p:Int):=by
  have:imax i (-1)=i:=by
   unfold imax;by_cases h: -1>i
   ·omega
   rw[if_neg h]
  rw[this,hp,w64,wrap64]<;>omega
 have e2:w64 ((p:Int).tdiv 64)=((p/64:Nat):Int):=by
  have:(p:Int).tdiv 64=((p/64:Nat):Int):=by rw[Int.tdiv_eq_ediv_of_nonneg Om];omega
  rw[this,w64,wrap64]<;>omega
 have e3:w64 ((p:Int).tmod 64)=((p %64:Nat):Int)∧(p:Int).tmod 64=((p %64:Nat):Int):=by
  have:(p:Int).tmod 64=((p %64:Nat):Int):=by rw[Int.tmod_eq_emod_of_nonneg Om];omega
  refine⟨?_,this⟩;rw[this,w64,wrap64]<;>omega
 have hml:m.length≤1024:=by rw[hm.len];omega
 unfold F_5;have hlt: ¬i≥(n:Int):=by omega
 simp only[F_43,bind,Option.bind_some,decide_eq_false hlt,Bool.false_eq_true,if_false,e1,e2]
 obtain⟨r,hr,hq⟩:=iterO_while (f:=fun s=>F_146 N m (n:Int) i s) (fun s=> ∃k:Nat,s=(k:Int)∧p/64≤k∧k≤m.length+p/64∧ ∀j':Nat,p≤j'→j'<64*k→has m j'=false)
  (fun s=>m.length+p/64-s.toNat) (fun(r:Unit ⊕ Int)=>match r with
   | .inl _=> ∀j:Nat,i<(j:Int)→has m j=false
   | .inr z=> ∃j:Nat,z=(j:Int)∧i<(j:Int)∧has m j=true∧ ∀j':Nat,i<(j':Int)→j'<j→has m j'=false) (fun s hI=>by
   obtain⟨k,rfl,hk1,hk2,hk3⟩:=hI;unfold F_146;simp only[F_58,bind,Option.bind_some,e1,e2];by_cases hkl:k<m.length
   ·have hw:=hm.rng _ (List.getElem_mem hkl);obtain⟨a,ha⟩: ∃a:Nat,m[k]=(a:Int):=⟨m[k].toNat,by omega⟩;have hx:m[k]? =some (a:Int):=by rw[List.getElem?_eq_getElem hkl,ha]
    have ha':a<18446744073709551616:=by omega
    have hhas: ∀c,c<64→has m (64*k+c)=a.testBit c:=fun c hc=>by
     have q1:(64*k+c)/64=k:=by omega
     have q2:(64*k+c) %64=c:=by omega
     simp[has,q1,q2,List.getD,hx]
    obtain⟨b,hb,hb2,hbt⟩: ∃b:Nat,(if((k:Int)==((p/64:Nat):Int))=true then(nn ((p:Int).tmod 64) >>= fun _=>nn ((p:Int).tmod 64) >>= fun _=>some (shlI .u64 (shrI .u64 (a:Int) ((p:Int).tmod 64)) ((p:Int).tmod 64)))else some (a:Int))=some (b:Int)∧b<18446744073709551616∧
     ∀c,c<64→b.testBit c=(decide (p≤64*k+c)&&a.testBit c):=by
     by_cases hk0:k=p/64
     ·have q:((k:Int)==((p/64:Nat):Int))=true:=by simp[hk0]
      have hnn:nn ((p %64:Nat):Int)=some ():=by unfold nn;rw[if_pos Om]
      have hle:a/2^(p %64)*2^(p %64)≤a:=Nat.div_mul_le_self _ _;refine⟨a/2^(p %64)*2^(p %64),?_,by omega,fun c hc=>?_⟩
      ·rw[if_pos q,e3.2,hnn,shr_u64 Om];simp only[bind,Option.bind_some,shlI,IntKind.bits,Int.toNat_natCast,Nat.min_eq_left (show p %64≤64 by omega)];have e4:(((a/2^(p %64):Nat):Int)*2^(p %64))=((a/2^(p %64)*2^(p %64):Nat):Int):=by push_cast;rfl
       rw[e4,wrapN Om]
      rw[Nat.testBit_mul_two_pow,Nat.testBit_div_two_pow];by_cases hc2:p %64≤c
      ·have q3:p %64+(c-p %64)=c:=by omega
       have q4:p≤64*k+c:=by omega
       rw[show c-p %64+p %64=c by omega];simp[hc2,q4]
      have q4: ¬p≤64*k+c:=by omega
      simp[hc2,q4]
     have q:((k:Int)==((p/64:Nat):Int))=false:=by simp;omega
     refine⟨a,by rw[q];rfl,ha',fun c hc=>?_⟩;have q4:p≤64*k+c:=by omega
     simp[q4]
    simp only[show((k:Int)<(m.length:Int)) by omega,decide_true,if_true,idx_of hx,Option.bind_some];simp only[bind]at hb;rw[hb];simp only[Option.bind_some];by_cases hb0:b=0
    ·left;subst hb0;refine⟨((k+1:Nat):Int),?_,⟨k+1,rfl,by omega,by omega,fun j' h3 h4=>?_⟩,by simp;omega⟩
     ·simp only[show((((0:Nat):Int)) != 0)=false from rfl,Bool.false_eq_true,if_false,Option.bind_some];rw[w64_succ Om]
     by_cases hj:j'<64*k
     ·exact hk3 j' h3 hj
     obtain⟨c,rfl⟩: ∃c,j'=64*k+c:=⟨j'-64*k,by omega⟩;have:=hbt c Om;rw[Nat.zero_testBit]at this;rw[hhas c Om];have q4:decide (p≤64*k+c)=true:=by simp;omega
     rw[q4]at this;simpa using this.symm
    right;obtain⟨c,hc1,hc2⟩:=low_bit hb0
    have hc:c<64:=by
     apply Nat.lt_of_not_le;intro h
     have:=Nat.testBit_lt_two_pow (x:=b) (i:=c) (Nat.lt_of_lt_of_le hb2 (by
      have:=Nat.pow_le_pow_right (n:=2) Om h;have e:(2:Nat)^64=18446744073709551616:=by decide
      omega))
     rw[this]at hc1;cases hc1
    have hbc:=hbt c hc;rw[hc1]at hbc;have hbc':=(Bool.and_eq_true _ _).mp hbc.symm;have hpc:p≤64*k+c:=by simpa using hbc'.1
    refine⟨.inr (((64*k+c:Nat)):Int),?_,64*k+c,rfl,by omega,by rw[hhas c hc];exact hbc'.2,fun j' h3 h4=>?_⟩
    ·have q5:(((b:Nat):Int) != 0)=true:=by simp;omega
     have e5:w64 (64*(k:Int))=((64*k:Nat):Int):=by rw[w64,wrap64]<;>omega
     have e6:w64 (((64*k:Nat):Int)+(c:Int))=((64*k+c:Nat):Int):=by rw[w64,wrap64]<;>omega
     simp only[q5,if_true,tz_spec (N:=N) hb2 hc1 hc2 hc,Option.bind_some,e5,e6]
    by_cases hj:j'<64*k
    ·exact hk3 j' Om hj
    obtain⟨c',rfl⟩: ∃c',j'=64*k+c':=⟨j'-64*k,by omega⟩;have:=hbt c' Om;rw[hc2 c' Om]at this;rw[hhas c' Om];have q4:decide (p≤64*k+c')=true:=by simp;omega
    rw[q4]at this;simpa using this.symm
   right;refine⟨.inl (),by simp[show¬((k:Int)<(m.length:Int)) by omega],fun j hj=>?_⟩;by_cases hj2:j<64*k
   ·exact hk3 j Om hj2
   exact has_big Om)
  (N:=N) (s:=((p/64:Nat):Int)) ⟨p/64,rfl,by omega,by omega,fun j' h3 h4=>by omega⟩ (by simp;omega)
 rw[hr]
 cases r with
 |inl u=>exact⟨-1,rfl,.inl ⟨rfl,hq⟩⟩
 |inr z=>exact⟨z,rfl,.inr hq⟩
theorem list_specB{N n:Nat}{m:LI}(hN:4294967296≤N)(hm:MkR n m)(hn:n≤65536)(h0:0<n)(hb: ∀j,n≤j→has m j=false):F_21 N m (n:Int)=some (lst (has m) n):=by
 unfold F_21;obtain⟨r0,e0,q0⟩:=after_specB (i:= -1) hN hm hn Om Om;simp only[e0,bind,Option.bind_some]
 obtain⟨r,hr,hq⟩:=iterO_while (f:=fun s=>F_71 N m (n:Int) s.1 s.2) (fun s=>(s.2= -1∧s.1=lst (has m) n)∨ ∃j:Nat,s.2=(j:Int)∧j<n∧has m j=true∧s.1=lst (has m) j)
  (fun s=>if s.2<0 then 0 else n-s.2.toNat) (fun r=>r=lst (has m) n) (fun s hI=>by
   obtain⟨out,cur⟩:=s;simp only at hI ⊢;unfold F_71;rcases hI with⟨rfl,rfl⟩|⟨j,rfl,hj,hhj,rfl⟩
   ·right;exact⟨_,by simp,rfl⟩
   left;have hlen:=lst_len (has m) j;obtain⟨r,e1,q1⟩:=after_specB (i:=(j:Int)) hN hm hn Om Om;refine⟨(lst (has m) j++ [(j:Int)],r),?_,?_,?_⟩
   ·simp only[show((j:Int)≥0) by omega,decide_true,if_true,bind];rw[app_eq (by simp;omega)];simp only[Option.bind_some,e1]
   ·rcases q1 with⟨rfl,h2⟩|⟨j',rfl,h2,h3,h4⟩
    ·exact .inl ⟨rfl,(lst_gap hhj hj fun c h5 h6=>h2 c Om).symm⟩
    have hjn:j'<n:=by
     apply Nat.lt_of_not_le;intro h;rw[hb j' h]at h3;cases h3
    exact .inr ⟨j',rfl,hjn,h3,(lst_gap hhj Om fun c h5 h6=>h4 c Om h6).symm⟩
   rcases q1 with⟨rfl,h2⟩|⟨j',rfl,h2,h3,h4⟩
   ·simp only[show((-1:Int)<0) by decide,if_true,show¬((j:Int)<0) by omega,if_false];omega
   simp only[show¬((j:Int)<0) by omega,show¬((j':Int)<0) by omega,if_false];omega)
  (N:=N) (s:=([],r0)) (by
   rcases q0 with⟨rfl,h2⟩|⟨j',rfl,h2,h3,h4⟩
   ·exact .inl ⟨rfl,(lst_none fun c hc=>h2 c Om).symm⟩
   have hjn:j'<n:=by
    apply Nat.lt_of_not_le;intro h;rw[hb j' h]at h3;cases h3
   exact .inr ⟨j',rfl,hjn,h3,(lst_first fun c hc=>h4 c Om hc).symm⟩) (by simp only;split<;>omega)
 rw[show iterO N (fun s=>F_71 N m (n:Int) s.1 s.2) ([],r0)=_ from hr,hq];rfl
open Go Go.Eng
abbrev Stt:=LI×(Int×Int×Int×Int)×Int×Int
structure NRt(S:List Stt)(E:LI):Prop where
 n1:1≤S.length
 n2:S.length≤4000
 e1:1≤E.length
 e2:E.length≤8
 ent: ∀x∈E,0≤x∧x<(S.length:Int)
 to: ∀s∈S,-1≤s.2.2.1∧s.2.2.1<(S.length:Int)
 set0: ∀s∈S,s.2.2.1= -1→s.2.1=(0,0,0,0)
 rul: ∀s∈S,-1≤s.2.2.2∧s.2.2.2≤47
 free: ∀s∈S,∀x∈s.1,0≤x∧x<(S.length:Int)
def outN(n x:Int):Bool:=decide (x<0)||decide (x≥n)
def badS(n:Int)(s:Stt):Bool:=
 (decide (s.2.2.1< -1)||decide (s.2.2.1≥n)||decide (s.2.2.2< -1)||decide (s.2.2.2>47)||(s.2.2.1== -1&&([s.2.1.1,s.2.1.2.1,s.2.1.2.2.1,s.2.1.2.2.2]:LI) != [0,0,0,0]))||s.1.any (outN n)
def rtB(S:List Stt)(E:LI):Bool:=
 decide (1≤S.length)&&decide (S.length≤4000)&&decide (1≤E.length)&&decide (E.length≤8)&& !(E.any (outN S.length))&& !(S.any (badS S.length))
theorem outN_f{n x:Int}(h:outN n x=false):0≤x∧x<n:=by
 unfold outN at h;simp at h;omega
theorem outN_of{n x:Int}(h:0≤x∧x<n):outN n x=false:=by
 unfold outN;simp;omega
theorem rtB_iff(S:List Stt)(E:LI):rtB S E=true↔NRt S E:=by
 unfold rtB;simp only[Bool.and_eq_true,decide_eq_true_eq,Bool.not_eq_true',List.any_eq_false];constructor
 ·rintro⟨⟨⟨⟨⟨a1,a2⟩,a3⟩,a4⟩,a5⟩,a6⟩
  have h6: ∀s∈S,(-1≤s.2.2.1∧s.2.2.1<(S.length:Int))∧(-1≤s.2.2.2∧s.2.2.2≤47)∧(s.2.2.1= -1→s.2.1=(0,0,0,0))∧ ∀x∈s.1,0≤x∧x<(S.length:Int):=by
   intro s hs;have:=a6 s hs;unfold badS at this;rw[Bool.not_eq_true,Bool.or_eq_false_iff,List.any_eq_false]at this;obtain⟨b1,b2⟩:=this;simp only[Bool.or_eq_false_iff,decide_eq_false_iff_not]at b1;obtain⟨⟨⟨⟨c1,c2⟩,c3⟩,c4⟩,c5⟩:=b1;refine⟨by omega,by omega,fun h=>?_,fun x hx=>outN_f (by simpa using b2 x hx)⟩;rw[h]at c5;obtain⟨_,⟨a,b,c,d⟩,_,_⟩:=s;simpa using c5
  exact⟨a1,a2,a3,a4,fun x hx=>outN_f (by simpa using a5 x hx),fun s hs=>(h6 s hs).1,fun s hs=>(h6 s hs).2.2.1,fun s hs=>(h6 s hs).2.1,fun s hs=>(h6 s hs).2.2.2⟩
 intro h;refine⟨⟨⟨⟨⟨h.n1,h.n2⟩,h.e1⟩,h.e2⟩,fun x hx=>by rw[outN_of (h.ent x hx)];simp⟩,fun s hs=>?_⟩;have h1:=h.to s hs;have h2:=h.rul s hs;have h3:=h.set0 s hs
 have h4:s.1.any (outN S.length)=false:=by
  rw[List.any_eq_false];intro x hx;rw[outN_of (h.free s hs x hx)];simp
 unfold badS;rw[h4];obtain⟨_,⟨a,b,c,d⟩,to,ru⟩:=s;simp only at h1 h2 h3 ⊢;have g1: ¬to< -1:=by omega
 have g2: ¬to≥(S.length:Int):=by omega
 have g3: ¬ru< -1:=by omega
 have g4: ¬ru>47:=by omega
 by_cases g5:to= -1
 ·have:=h3 g5;simp only[Prod.mk.injEq]at this;obtain⟨rfl,rfl,rfl,rfl⟩:=this;simp[g3,g4,g5];omega
 simp[g1,g2,g3,g4,g5]
section
variable {N:Nat}{S:List Stt}{E:LI}
theorem nright1(x n:Int):F_169 N x n=some (outN n x):=by
 unfold F_169 outN;by_cases h:x<0<;>simp[h]
theorem ncontains{xs:LI}{n:Int}(hN:4294967296≤N)(hl:xs.length<4294967296):F_184 N xs n=some (xs.any (outN n)):=by
 unfold F_184 F_65
 rw[loop_find xs (outN n) (fun i=>(i:Int)) Om (fun i x hx=>by
  have hi:=lt_len hx;unfold F_188;simp only[show((i:Int)<(xs.length:Int)) by omega,decide_true,if_true,idx_of hx,nright1,bind,Option.bind_some];rw[w64_succ Om]) (by unfold F_188;simp)]
 cases h:xs.findIdx? (outN n)with
 |none=>
   have:xs.any (outN n)=false:=List.any_eq_false.2 fun x hx=>by rw[List.findIdx?_eq_none_iff.1 h x hx];simp
   simp[this]
 |some k=>
   obtain⟨hk,hp,_⟩:=List.findIdx?_eq_some_iff_getElem.1 h;have:xs.any (outN n)=true:=List.any_eq_true.2 ⟨_,List.getElem_mem hk,hp⟩;rw[this];simp
structure NSz(S:List Stt)(E:LI):Prop where
 a:S.length<4294967296
 b:E.length<4294967296
 c: ∀s∈S,s.1.length<4294967296
theorem nfaRight_spec(hN:4294967296≤N)(hs:NSz S E):F_31 N S E=some (rtB S E):=by
 unfold F_31
 rw[loop_any S (badS S.length) false (by have:=hs.a;omega) (fun i s hx=>by
  have hi:=lt_len hx;have hc:=hs.c s (List.mem_of_getElem? hx);have ha:=hs.a;obtain⟨fr,⟨a,b,c,d⟩,to,ru⟩:=s;unfold F_181 badS;simp only[show((i:Int)<(S.length:Int)) by omega,decide_true,if_true,idx_of hx,nright1,F_182,ncontains hN hc,bind,Option.bind_some];rw[w64_succ Om];generalize fr.any (outN S.length)=q;by_cases g5:to= -1
  ·subst g5;have e1:outN (S.length:Int) (-1)=true:=by unfold outN;simp
   have g2: ¬((-1:Int)≥(S.length:Int)):=by omega
   by_cases g6:([a,b,c,d]:LI)= [0,0,0,0]
   ·have e6:(([a,b,c,d]:LI)== [0,0,0,0])=true:=by rw[g6];rfl
    have e7:(([a,b,c,d]:LI) != [0,0,0,0])=false:=by rw[g6];rfl
    cases q<;>by_cases g3:ru< -1<;>by_cases g4:ru≥48<;>simp[e6,e7,g3,g4,g2,show(ru>47)=(ru≥48)from by simp;omega]
   have e6:(([a,b,c,d]:LI)== [0,0,0,0])=false:=by simpa using g6
   have e7:(([a,b,c,d]:LI) != [0,0,0,0])=true:=by simpa using g6
   simp[e6,e7,e1]
  have e5:(to== -1)=false:=by simpa using g5
  by_cases g7:0≤to∧to<(S.length:Int)
  ·have e1:=outN_of g7;have g1: ¬to< -1:=by omega
   have g2: ¬to≥(S.length:Int):=by omega
   cases q<;>by_cases g3:ru< -1<;>by_cases g4:ru≥48<;>simp[e5,e1,g1,g2,g3,g4,show(ru>47)=(ru≥48)from by simp;omega]
  have e1:outN (S.length:Int) to=true:=by
   cases h:outN (S.length:Int) to with
   |true=>rfl
   |false=>exact absurd (outN_f h) g7
  have g1:to< -1∨to≥(S.length:Int):=by omega
  rcases g1 with g1|g1<;>simp[e5,e1,g1]) (by unfold F_181;simp)]
 unfold rtB
 cases hS:S.any (badS S.length)with
 |true=>simp
 |false=>
   simp only[Bool.false_eq_true,if_false,bind,Option.bind_some,ncontains hN hs.b];by_cases a1:1≤E.length
   ·by_cases a2:E.length≤8
    ·by_cases a3:1≤S.length
     ·by_cases a4:S.length≤4000
      ·have b1:(E.length:Int)≥1:=by omega
       have b2:(E.length:Int)≤8:=by omega
       have b3:(S.length:Int)≥1:=by omega
       have b4:(S.length:Int)≤4000:=by omega
       simp[a1,a2,a3,a4,b1,b2,b3,b4]
      have b1:(E.length:Int)≥1:=by omega
      have b2:(E.length:Int)≤8:=by omega
      have b3:(S.length:Int)≥1:=by omega
      have b4: ¬(S.length:Int)≤4000:=by omega
      simp[a4,b1,b2,b3,b4]
     have b1:(E.length:Int)≥1:=by omega
     have b2:(E.length:Int)≤8:=by omega
     have b3: ¬(S.length:Int)≥1:=by omega
     simp[a3,b1,b2,b3]
    have b1:(E.length:Int)≥1:=by omega
    have b2: ¬(E.length:Int)≤8:=by omega
    simp[a2,b1,b2]
   have b1: ¬(E.length:Int)≥1:=by omega
   simp[a1,b1]
theorem nrefRight_spec(hN:4294967296≤N)(hs:NSz S E):F_28 N S E=some (rtB S E):=by
 unfold F_28 rtB;by_cases a1:1≤S.length
 case neg=>
  have b1:(S.length:Int)<1:=by omega
  simp[a1,b1]
 have b1: ¬(S.length:Int)<1:=by omega
 by_cases a2:S.length≤4000
 case neg=>
  have b2:(S.length:Int)>4000:=by omega
  simp[a2,b1,b2]
 have b2: ¬(S.length:Int)>4000:=by omega
 by_cases a3:1≤E.length
 case neg=>
  have b3:(E.length:Int)<1:=by omega
  simp[a3,b1,b2,b3]
 have b3: ¬(E.length:Int)<1:=by omega
 by_cases a4:E.length≤8
 case neg=>
  have b4:(E.length:Int)>8:=by omega
  simp[a4,b1,b2,b3,b4]
 have b4: ¬(E.length:Int)>8:=by omega
 simp only[b1,b2,b3,b4,decide_false,Bool.false_eq_true,if_false,bind,Option.bind_some,a1,a2,a3,a4,decide_true,Bool.true_and]
 rw[loop_any E (outN S.length) false Om (fun i x hx=>by
  have hi:=lt_len hx;unfold F_174;simp only[show((i:Int)<(E.length:Int)) by omega,decide_true,if_true,idx_of hx,bind,Option.bind_some];rw[w64_succ Om];unfold outN;by_cases c1:x<0<;>simp[c1]) (by unfold F_174;simp)]
 cases hE:E.any (outN S.length)with
 |true=>simp
 |false=>
   simp only[Bool.false_eq_true,if_false,Option.bind_some]
   rw[loop_any S (badS S.length) false Om (fun i s hx=>by
    have hi:=lt_len hx;have hc:=hs.c s (List.mem_of_getElem? hx);unfold F_175;simp only[show((i:Int)<(S.length:Int)) by omega,decide_true,if_true,idx_of hx,bind,Option.bind_some]
    rw[loop_any s.1 (outN S.length) (τ:=Int ⊕ (Unit ⊕ Bool)) (.inr (.inr false)) Om (fun j y hy=>by
     have hj:=lt_len hy;unfold F_176;simp only[show((j:Int)<(s.1.length:Int)) by omega,decide_true,if_true,idx_of hy,bind,Option.bind_some];rw[w64_succ Om];unfold outN;by_cases c1:y<0<;>simp[c1]) (by unfold F_176;simp)]
    rw[w64_succ Om];unfold badS;by_cases c1:s.2.2.1< -1
    ·simp[c1]
    by_cases c2:s.2.2.1≥(S.length:Int)
    ·simp[c1,c2]
    by_cases c3:s.2.2.2< -1
    ·simp[c1,c2,c3]
    by_cases c4:s.2.2.2>47
    ·simp[c1,c2,c3,c4]
    by_cases c5:s.2.2.1= -1
    ·cases c6:([s.2.1.1,s.2.1.2.1,s.2.1.2.2.1,s.2.1.2.2.2]:LI) != [0,0,0,0]with
     |true=>simp[c3,c4,c5,show¬((S.length:Int)≤ -1) by omega]
     |false=>cases s.1.any (outN S.length)<;>simp[c3,c4,c5,show¬((S.length:Int)≤ -1) by omega]
    cases s.1.any (outN S.length)<;>simp[c1,c2,c3,c4,c5]) (by unfold F_175;simp)]
   cases hS:S.any (badS S.length)<;>simp
end
open Go Go.Eng
section
variable {N:Nat}{S:List Stt}{E:LI}
theorem of15_spec{m:Int}(hN:4294967296≤N)(hm:m<4294967296): ∃p,F_60 N S E m=some p∧(p.2=true→p.1=S∧(S.length:Int)≤m∧(E.length:Int)≤20∧ ∀s∈S,s.1.length≤100):=by
 unfold F_60;by_cases a1:(E.length:Int)>20
 ·exact⟨([],false),by simp[a1],by simp⟩
 by_cases a2:(S.length:Int)>m
 ·exact⟨([],false),by simp[a1,a2],by simp⟩
 simp only[a1,a2,decide_false,Bool.false_eq_true,if_false,bind,Option.bind_some]
 obtain⟨r,hr,hq⟩:=iterO_while (f:=fun s:Int×List Stt=>F_171 N S s.1 s.2) (fun s=> ∃i:Nat,i≤S.length∧s=((i:Int),S.take i)∧ ∀t∈S.take i,t.1.length≤100) (fun s=>S.length-s.1.toNat)
  (fun r=>match r with| .inl x=>x=S∧ ∀t∈S,t.1.length≤100| .inr z=>z.2=false) (fun s hI=>by
   obtain⟨i,hi,rfl,hf⟩:=hI;unfold F_171;by_cases hil:i<S.length
   ·have hx:S[i]? =some S[i]:=List.getElem?_eq_getElem hil;simp only[show((i:Int)<(S.length:Int)) by omega,decide_true,if_true,idx_of hx,bind,Option.bind_some];by_cases b1:(S[i].1.length:Int)>100
    ·right;exact⟨.inr (S.take i,false),by simp[b1],rfl⟩
    left;refine⟨(((i+1:Nat):Int),S.take (i+1)),?_,⟨i+1,by omega,rfl,fun t ht=>?_⟩,by simp;omega⟩
    ·simp only[b1,decide_false,Bool.false_eq_true,if_false];rw[app_eq (by simp;omega),w64_succ Om,List.take_add_one,hx];rfl
    rw[List.take_add_one,hx]at ht;rcases List.mem_append.1 ht with ht|ht
    ·exact hf t ht
    simp at ht;subst ht;omega
   right;obtain rfl:i=S.length:=by omega
   refine⟨.inl S,by simp,rfl,fun t ht=>hf t (by simpa using ht)⟩) (N:=N) (s:=(0,[])) ⟨0,by omega,by simp,by simp⟩ (by simp;omega)
 rw[hr]
 cases r with
 |inl x=>exact⟨(x,true),rfl,fun _=>⟨hq.1,by omega,by omega,hq.2⟩⟩
 |inr z=>exact⟨z,rfl,fun h=>by rw[hq]at h;cases h⟩
def cn(f:Nat→Bool):Nat→Nat
 |0=>0
 |n+1=>cn f n+(if f n then 1 else 0)
theorem cn_le(f:Nat→Bool): ∀n,cn f n≤n
 |0=>Nat.le_refl _
 |n+1=>by have:=cn_le f n;unfold cn;split<;>omega
theorem cn_congr{f g:Nat→Bool}: ∀{n:Nat},(∀j,j<n→f j=g j)→cn f n=cn g n
 |0,_=>rfl
 |n+1,h=>by unfold cn;rw[cn_congr fun j hj=>h j Om,h n Om]
theorem cn_put{f g:Nat→Bool}{i:Nat}(hi:f i=false)(hg: ∀j,g j=(f j||j==i)): ∀{n:Nat},i<n→cn g n=cn f n+1
 |0,h=>by omega
 |n+1,h=>by
   unfold cn;by_cases e:i=n
   ·subst e
    rw[cn_congr (f:=g) (g:=f) (n:=i) (fun j hj=>by
                                                            rw[hg];have: ¬j=i:=by omega
                                                            simp[this]),hg,hi]
    simp
   have e2: ¬n=i:=fun q=>e q.symm;rw[cn_put hi hg (show i<n by omega),hg n];simp only[e2,beq_iff_eq,Bool.or_eq_true,or_false];omega
theorem mem_lstB{f:Nat→Bool}{n:Nat}{x:Int}:x∈lst f n↔ ∃j:Nat,x=(j:Int)∧j<n∧f j=true:=by
 unfold lst;simp only[List.mem_map,List.mem_filter,List.mem_range];constructor
 ·rintro⟨j,⟨h1,h2⟩,rfl⟩;exact⟨j,rfl,h1,h2⟩
 rintro⟨j,rfl,h1,h2⟩;exact⟨j,⟨h1,h2⟩,rfl⟩
def frS(S:List Stt)(x:Int):LI:=((S[x.toNat]?).map (fun s=>s.1)).getD []
inductive RchF(S:List Stt)(L:LI):Int→Prop
 |base {x:Int}:x∈L→RchF S L x
 |step {s y:Int}:RchF S L s→y∈frS S s→RchF S L y
theorem frS_rng(h:NRt S E){x y:Int}(hy:y∈frS S x):0≤y∧y<(S.length:Int):=by
 unfold frS at hy
 cases hx:S[x.toNat]? with
 |none=>rw[hx]at hy;simp at hy
 |some s=>rw[hx]at hy;exact h.free s (List.mem_of_getElem? hx) y (by simpa using hy)
theorem RchF.rng(h:NRt S E){L:LI}(hL: ∀x∈L,0≤x∧x<(S.length:Int)){x:Int}(hr:RchF S L x):0≤x∧x<(S.length:Int):=by
 induction hr with
 |base hx=>exact hL _ hx
 |step _ hy _=>exact frS_rng h hy
theorem RchF.mono{L L':LI}(hl: ∀x∈L,RchF S L' x){x:Int}(hr:RchF S L x):RchF S L' x:=by
 induction hr with
 |base hx=>exact hl _ hx
 |step _ hy ih=>exact .step ih hy
theorem last_idx{α:Type}{ws:List α}{x:α}(hl:ws.length<4294967296):idx (ws++ [x]) (w64 (((ws++ [x]).length:Int)-1))=some x∧slc (ws++ [x]) 0 (w64 (((ws++ [x]).length:Int)-1))=some ws:=by
 have e:w64 (((ws++ [x]).length:Int)-1)=(ws.length:Int):=by
  rw[List.length_append,List.length_singleton,show(((ws.length+1:Nat):Int)-1)=(ws.length:Int) by omega,w64,wrap64 Om Om]
 rw[e];constructor
 ·exact idx_of Sm
 unfold slc;rw[if_pos ⟨by omega,by omega,by simp;omega⟩];simp
theorem closed1_spec{L:LI}(hN:4294967296≤N)(h:NRt S E)(hf: ∀s∈S,s.1.length≤100)(hL: ∀x∈L,0≤x∧x<(S.length:Int))(hl:L.length≤1000000):
 ∃w m,F_45 N S E L=some (w,m)∧MkR S.length m∧(∀j,S.length≤j→has m j=false)∧ ∀j,j<S.length→(has m j=true↔RchF S L (j:Int)):=by
 have hn2:=h.n2;obtain⟨m0,e0,q0,q1⟩:=new_spec (N:=N) (n:=S.length) Om;unfold F_45 F_196;simp only[e0,bind,Option.bind_some]
 have hfr: ∀x:Int,(frS S x).length≤100:=fun x=>by
  unfold frS
  cases hx:S[x.toNat]? with
  |none=>simp
  |some s=>simpa using hf s (List.mem_of_getElem? hx)
 obtain⟨r,hr,hq1,hq2,hq3⟩:=iterO_while (f:=fun s:LI×LI=>F_160 N S s.1 s.2)
  (fun s=>MkR S.length s.2∧(∀j,S.length≤j→has s.2 j=false)∧(∀j,j<S.length→has s.2 j=true→RchF S L (j:Int))∧(∀x∈s.1,RchF S L x)∧(∀x∈L,has s.2 x.toNat=true∨x∈s.1)∧
   (∀j,j<S.length→has s.2 j=true→ ∀y∈frS S (j:Int),has s.2 y.toNat=true∨y∈s.1)∧(S.length-cn (has s.2) S.length)*101+s.1.length≤S.length*101+L.length)
  (fun s=>(S.length-cn (has s.2) S.length)*101+s.1.length) (fun r=>MkR S.length r.2∧(∀j,S.length≤j→has r.2 j=false)∧ ∀j,j<S.length→(has r.2 j=true↔RchF S L (j:Int))) (fun s hI=>by
   obtain⟨work,m⟩:=s;obtain⟨k1,k2,k3,k4,k5,k6,k7⟩:=hI;simp only at k1 k2 k3 k4 k5 k6 k7 ⊢;rcases work.eq_nil_or_concat with rfl|⟨ws,x,rfl⟩
   ·right;refine⟨([],m),by unfold F_160;simp,k1,k2,fun j hj=>⟨k3 j hj,fun hr=>?_⟩⟩
    have key: ∀x,RchF S L x→has m x.toNat=true:=by
     intro x hx
     induction hx with
     |base hx=>exact(k5 _ hx).elim id fun h=>by simp at h
     | @step s y hs hy ih=>
       have hsr:=hs.rng h hL;obtain⟨i,rfl⟩: ∃i:Nat,s=(i:Int):=⟨s.toNat,by omega⟩;exact(k6 i Om (by simpa using ih) _ hy).elim id fun h=>by simp at h
    simpa using key _ hr
   left;rw[List.concat_eq_append]at k4 k5 k6 k7 ⊢
   have hwl0:ws.length≤1404000:=by
    have:S.length*101≤4000*101:=Nat.mul_le_mul_right _ hn2;simp at k7;omega
   have hwl:ws.length<4294967296:=by omega
   have hxr:=(k4 x Sm).rng h hL;obtain⟨i,rfl⟩: ∃i:Nat,x=(i:Int):=⟨x.toNat,by omega⟩;have hin:i<S.length:=by omega
   obtain⟨m',e1,e2,e3,_⟩:=put_spec (N:=N) k1 hin Om;obtain⟨g1,g2⟩:=last_idx (x:=(i:Int)) hwl;have hpos:decide (((ws++ [(i:Int)]).length:Int)>0)=true:=decide_eq_true Sm;have hSi:S[i]? =some S[i]:=List.getElem?_eq_getElem hin;have hfi:frS S (i:Int)=S[i].1:=by unfold frS;rw[Int.toNat_natCast,hSi];rfl
   by_cases hm:has m i=true
   ·have hsame: ∀j,has m' j=has m j:=fun j=>by
     rw[e3];by_cases hj:j=i
     ·subst hj;simp[hm]
     simp[hj]
    refine⟨(ws,m'),?_,⟨e2,fun j hj=>by rw[hsame];exact k2 j hj,fun j hj hh=>k3 j hj (by rwa[hsame]at hh),fun y hy=>k4 y (by simp[hy]),fun y hy=>?_,fun j hj hh y hy=>?_,?_⟩,?_⟩
    ·unfold F_160;simp only[hpos,if_true,g1,g2,e1,hm,Bool.not_true,Bool.false_eq_true,if_false,bind,Option.bind_some]
    ·rw[hsame];rcases k5 y hy with h1|h1
     ·exact .inl h1
     rcases List.mem_append.1 h1 with h1|h1
     ·exact .inr h1
     simp at h1;subst h1;exact .inl (by simpa using hm)
    ·rw[hsame]at hh ⊢;rcases k6 j hj hh y hy with h1|h1
     ·exact .inl h1
     rcases List.mem_append.1 h1 with h1|h1
     ·exact .inr h1
     simp at h1;subst h1;exact .inl (by simpa using hm)
    ·rw[cn_congr fun j _=>hsame j];simp at k7 ⊢;omega
    rw[cn_congr fun j _=>hsame j];simp
   have hm:has m i=false:=by simpa using hm
   have hcn:=cn_put hm e3 hin;have hcl:=cn_le (has m') S.length;have hlen:=hfr (i:Int);refine⟨(ws++frS S (i:Int),m'),?_,⟨e2,fun j hj=>?_,fun j hj hh=>?_,fun y hy=>?_,fun y hy=>?_,fun j hj hh y hy=>?_,?_⟩,?_⟩
   ·unfold F_160;simp only[hpos,if_true,g1,g2,e1,hm,Bool.not_false,bind,Option.bind_some,idx_of hSi];rw[app_eq (by rw[←hfi];omega),hfi];rfl
   ·rw[e3,k2 j hj];have: ¬j=i:=by omega
    simp[this]
   ·rw[e3]at hh;by_cases hji:j=i
    ·subst hji;exact k4 _ Sm
    exact k3 j hj (by simpa[hji]using hh)
   ·rcases List.mem_append.1 hy with hy|hy
    ·exact k4 y (by simp[hy])
    exact .step (k4 _ Sm) hy
   ·rw[e3];rcases k5 y hy with h1|h1
    ·exact .inl (by simp[h1])
    rcases List.mem_append.1 h1 with h1|h1
    ·exact .inr (by simp[h1])
    simp at h1;subst h1;exact .inl Sm
   ·by_cases hji:j=i
    ·subst hji;exact .inr (by simp[hy])
    rw[e3]at hh ⊢;rcases k6 j hj (by simpa[hji]using hh) y hy with h1|h1
    ·exact .inl (by simp[h1])
    rcases List.mem_append.1 h1 with h1|h1
    ·exact .inr (by simp[h1])
    simp at h1;subst h1;exact .inl Sm
   ·rw[hcn]at hcl ⊢;simp at k7 ⊢;omega
   rw[hcn]at hcl ⊢;simp;omega) (N:=N) (s:=(L,m0))
  ⟨q0,fun j _=>q1 j,fun j _ hh=>(by rw[q1]at hh;cases hh),fun x hx=> .base hx,fun x hx=> .inr hx,fun j _ hh=>(by rw[q1]at hh;cases hh),by
   have:cn (has m0) S.length=0:=by
    have hz: ∀n,cn (has m0) n=0:=fun n=>by
     induction n with
     |zero=>rfl
     |succ n ih=>unfold cn;rw[ih,q1];simp
    exact hz _
   simp only[this];omega⟩ (by
   have:=Nat.mul_le_mul_right 101 (Nat.sub_le S.length (cn (has m0) S.length));have h2:S.length*101≤4000*101:=Nat.mul_le_mul_right _ hn2;simp only;omega)
 rw[hr];exact⟨r.1,r.2,rfl,hq1,hq2,hq3⟩
end
open Go Go.Eng
def bo(l:List Bool)(j:Nat):Bool:=l.getD j false
theorem bo_set{l:List Bool}{i:Nat}(hi:i<l.length)(j:Nat):bo (l.set i true) j=(bo l j||j==i):=by
 unfold bo;by_cases h:j=i
 ·subst h;simp[List.getD,hi]
 have: ¬i=j:=fun e=>h e.symm;simp[List.getD,this,h]
theorem bo_idx{l:List Bool}{j:Nat}(h:j<l.length):idx l (j:Int)=some (bo l j):=by
 rw[idx_nat h];unfold bo;rw[List.getD,List.getElem?_eq_getElem h];rfl
theorem bo_ext{a b:List Bool}(hl:a.length=b.length)(h: ∀j,j<a.length→bo a j=bo b j):a=b:=by
 apply List.ext_getElem hl;intro i h1 h2;have:=h i h1;unfold bo at this;rwa[List.getD,List.getElem?_eq_getElem h1,List.getD,List.getElem?_eq_getElem h2]at this
theorem cn_mono{f g:Nat→Bool}(h: ∀j,f j=true→g j=true): ∀n,cn f n≤cn g n
 |0=>Nat.le_refl _
 |n+1=>by
   have:=cn_mono h n;unfold cn
   cases hf:f n with
   |false=>simp only[Bool.false_eq_true,if_false];split<;>omega
   |true=>rw[h n hf];simp only[if_true];omega
section
variable {N:Nat}{S:List Stt}{E:LI}
structure Pass(S:List Stt)(L:LI)(o0:List Bool)(o:List Bool)(ch:Bool):Prop where
 len:o.length=S.length
 up: ∀j,bo o0 j=true→bo o j=true
 snd: ∀j,j<S.length→bo o j=true→RchF S L (j:Int)
 t:ch=true→cn (bo o0) S.length<cn (bo o) S.length
 f:ch=false→o=o0
theorem pass_spec{L:LI}{o0:List Bool}(hN:4294967296≤N)(h:NRt S E)(hf: ∀s∈S,s.1.length≤100)(hl:o0.length=S.length)(hs0: ∀j,j<S.length→bo o0 j=true→RchF S L (j:Int)):
 ∃o ch,iterO N (fun s=>F_116 N S s.1 s.2.1 s.2.2) (0,o0,false)=some (o,ch)∧Pass S L o0 o ch∧(ch=false→ ∀j,j<S.length→bo o0 j=true→ ∀y∈frS S (j:Int),bo o0 y.toNat=true):=by
 have hn2:=h.n2
 obtain⟨⟨o,ch⟩,e1,e2,e3⟩:=loop_inv (f:=fun s=>F_116 N S s.1 s.2.1 s.2.2) (fun i (s:List Bool×Bool)=>((i:Int),s.1,s.2)) (fun s=>s) S
  (fun i s=>Pass S L o0 s.1 s.2∧(s.2=false→ ∀j,j<i→bo o0 j=true→ ∀y∈frS S (j:Int),bo o0 y.toNat=true)) (N:=N) (s:=(o0,false)) Om
  ⟨⟨hl,fun _ h=>h,hs0,fun h=>(by cases h),fun _=>rfl⟩,fun _ j hj=>by omega⟩
  (fun i st s hx hI=>by
   obtain⟨o,ch⟩:=s;obtain⟨k1,k2⟩:=hI;have hi:=lt_len hx;have hfi:frS S (i:Int)=st.1:=by unfold frS;rw[Int.toNat_natCast,hx];rfl
   have hflen:=hf st (List.mem_of_getElem? hx)
   obtain⟨⟨o',ch'⟩,g1,g2,g3⟩:=loop_inv (f:=fun s=>F_117 N (i:Int) st s.1 s.2.1 s.2.2) (fun k (s:List Bool×Bool)=>((k:Int),s.1,s.2)) (fun s=>s) st.1
    (fun k s=>Pass S L o0 s.1 s.2∧(s.2=false→(∀j,j<i→bo o0 j=true→ ∀y∈frS S (j:Int),bo o0 y.toNat=true)∧(bo o0 i=true→ ∀y∈st.1.take k,bo o0 y.toNat=true))) (N:=N) (s:=(o,ch)) Om
    ⟨k1,fun hc=>⟨k2 hc,fun _ y hy=>by simp at hy⟩⟩
    (fun k y s hy hJ=>by
     obtain⟨o,ch⟩:=s;obtain⟨j1,j2⟩:=hJ;simp only at j1 j2;have hk:=lt_len hy;have hyf:y∈frS S (i:Int):=by rw[hfi];exact List.mem_of_getElem? hy
     have hyr:=frS_rng h hyf;obtain⟨q,rfl⟩: ∃q:Nat,y=(q:Int):=⟨y.toNat,by omega⟩;have hq:q<S.length:=by omega
     have hqo:q<o.length:=by rw[j1.len];exact hq
     have hio:i<o.length:=by rw[j1.len];exact hi
     unfold F_117;simp only[show((k:Int)<(st.1.length:Int)) by omega,decide_true,if_true,idx_of hy,bo_idx hio,bo_idx hqo,bind,Option.bind_some];rw[w64_succ Om];by_cases hbi:bo o i=true
     ·by_cases hbq:bo o q=true
      ·refine⟨(o,ch),by simp[hbi,hbq],j1,fun hc=>?_⟩;obtain⟨w1,w2⟩:=j2 hc;have hoo:=j1.f hc;refine⟨w1,fun h0 z hz=>?_⟩;rw[List.take_add_one,hy]at hz;rcases List.mem_append.1 hz with hz|hz
       ·exact w2 h0 z hz
       simp at hz;subst hz;simpa[hoo]using hbq
      have hbq:bo o q=false:=by simpa using hbq
      refine⟨(o.set q true,true),by simp only[hbi,hbq,if_true,Bool.not_false,Option.bind_some,setI_nat hqo],⟨by simp[j1.len],fun j hj=>?_,fun j hj hh=>?_,fun _=>?_,fun hc=>(by cases hc)⟩,fun hc=>(by cases hc)⟩
      ·rw[bo_set hqo,j1.up j hj];rfl
      ·rw[bo_set hqo]at hh;by_cases hjq:j=q
       ·subst hjq;exact .step (j1.snd i hi hbi) hyf
       exact j1.snd j hj (by simpa[hjq]using hh)
      have h5:=cn_put hbq (fun j=>bo_set hqo j) hq;have h6:=cn_mono j1.up S.length;show cn (bo o0) S.length<cn (bo (o.set q true)) S.length;omega
     have hbi:bo o i=false:=by simpa using hbi
     refine⟨(o,ch),by simp[hbi],j1,fun hc=>?_⟩;obtain⟨w1,w2⟩:=j2 hc;have hoo:=j1.f hc;refine⟨w1,fun h0=>?_⟩;rw[←hoo,hbi]at h0;cases h0)
    (fun s _=>by unfold F_117;simp)
   refine⟨(o',ch'),?_,g2,fun hc j hj hb y hy=>?_⟩
   ·unfold F_116;simp only[show((i:Int)<(S.length:Int)) by omega,decide_true,if_true,idx_of hx,bind,Option.bind_some];rw[show iterO N (fun s=>F_117 N (i:Int) st s.1 s.2.1 s.2.2) (0,o,ch)=_ from g1];rw[w64_succ Om];rfl
   obtain⟨w1,w2⟩:=g3 hc;by_cases hji:j=i
   ·subst hji;rw[List.take_length]at w2;exact w2 hb y (by rwa[hfi]at hy)
   exact w1 j Om hb y hy)
  (fun s _=>by unfold F_116;simp)
 exact⟨o,ch,e1,e2,e3⟩
theorem refClosed_spec{o0:List Bool}(hN:4294967296≤N)(h:NRt S E)(hf: ∀s∈S,s.1.length≤100)(hl:o0.length=S.length):
 ∃o,F_17 N S E o0=some o∧o.length=S.length∧ ∀j,j<S.length→(bo o j=true↔RchF S (lst (bo o0) S.length) (j:Int)):=by
 have hn2:=h.n2;unfold F_17;rw[app_eq (by simp;omega)];simp only[bind,Option.bind_some,List.nil_append]
 obtain⟨r,hr,q1,q2⟩:=iterO_while (f:=fun s:List Bool×Bool=>F_164 N S s.1 s.2)
  (fun s=>s.1.length=S.length∧(∀j,bo o0 j=true→bo s.1 j=true)∧(∀j,j<S.length→bo s.1 j=true→RchF S (lst (bo o0) S.length) (j:Int))∧(s.2=false→ ∀j,j<S.length→bo s.1 j=true→ ∀y∈frS S (j:Int),bo s.1 y.toNat=true))
  (fun s=>(S.length-cn (bo s.1) S.length)*2+(if s.2 then 1 else 0)) (fun r=>r.length=S.length∧ ∀j,j<S.length→(bo r j=true↔RchF S (lst (bo o0) S.length) (j:Int))) (fun s hI=>by
   obtain⟨o,ag⟩:=s;obtain⟨k1,k2,k3,k4⟩:=hI;simp only at k1 k2 k3 k4 ⊢
   cases ag with
   |true=>
     left;obtain⟨o',ch,e1,e2,e3⟩:=pass_spec (L:=lst (bo o0) S.length) (o0:=o) hN h hf k1 k3;refine⟨(o',ch),?_,⟨e2.len,fun j hj=>e2.up j (k2 j hj),e2.snd,fun hc=>?_⟩,?_⟩
     ·unfold F_164;simp only[if_true,bind];rw[e1];rfl
     ·simp only at hc;have:=e2.f hc;simp only[this];exact e3 hc
     have hcl:=cn_le (bo o') S.length
     cases ch with
     |true=>have:=e2.t rfl;simp;omega
     |false=>rw[e2.f rfl];simp
   |false=>
     right;refine⟨o,by unfold F_164;simp,k1,fun j hj=>⟨k3 j hj,fun hr=>?_⟩⟩
     have key: ∀x,RchF S (lst (bo o0) S.length) x→bo o x.toNat=true:=by
      intro x hx
      induction hx with
      |base hx=>obtain⟨q,rfl,hq,hb⟩:=mem_lstB.1 hx;simpa using k2 q hb
      | @step s y hs hy ih=>
        have hsr:=hs.rng h (fun x hx=>by obtain⟨q,rfl,hq,_⟩:=mem_lstB.1 hx;omega);obtain⟨q,rfl⟩: ∃q:Nat,s=(q:Int):=⟨s.toNat,by omega⟩;exact k4 rfl q Om (by simpa using ih) y hy
     simpa using key _ hr) (N:=N) (s:=(o0,true)) ⟨hl,fun _ h=>h,fun j hj hb=> .base (mem_lstB.2 ⟨j,rfl,hj,hb⟩),fun hc=>by cases hc⟩ (by
   simp only[if_true];omega)
 rw[hr];exact⟨r,rfl,q1,q2⟩
theorem after_loop{α:Type}{f:α×Int→Option ((α×Int) ⊕ α)}{b n:Nat}{m:LI}(hN:4294967296≤N)(hm:MkR b m)(hb:b≤65536)(h0:0<b)(hnb:n≤b)(hh: ∀j,b≤j→has m j=false)(step:α→Nat→α)(I:Nat→α→Prop){z:α}(hz:I 0 z)
 (hst: ∀(acc:α) (j:Nat) (r:Int),j<n→has m j=true→I j acc→F_5 N m (b:Int) (j:Int)=some r→f (acc,(j:Int))=some (.inl (step acc j,r))∧ ∀k,j<k→I k (step acc j)) (hup: ∀(acc:α) (j k:Nat),I j acc→j≤k→I k acc)
 (hex: ∀(acc:α) (c:Int),(c<0∨c≥(n:Int))→f (acc,c)=some (.inr acc)):
 ∃r0,F_5 N m (b:Int) (-1)=some r0∧iterO N f (z,r0)=some (((List.range n).filter (has m)).foldl step z):=by
 obtain⟨r0,e0,q0⟩:=after_specB (i:= -1) hN hm hb Om Om;refine⟨r0,e0,?_⟩
 have gap: ∀{a:Nat},has m a=true→ ∀{c:Nat},a<c→(∀k,a<k→k<c→has m k=false)→(List.range c).filter (has m)=(List.range a).filter (has m)++ [a]:=by
  intro a ha c hac hg;have:=lst_gap (f:=has m) ha hac hg;unfold lst at this;rw[show [((a:Nat):Int)]= [a].map (fun(j:Nat)=>(j:Int))from rfl,←List.map_append]at this;exact(List.map_inj_right (fun x y hxy=>by exact_mod_cast hxy)).1 this
 have none_: ∀{c:Nat},(∀k,k<c→has m k=false)→(List.range c).filter (has m)= []:=by
  intro c hc;rw[List.filter_eq_nil_iff];intro k hk;rw[hc k (by simpa using hk)];simp
 obtain⟨r,hr,hq⟩:=iterO_while (f:=f) (fun s=>(∃j:Nat,s.2=(j:Int)∧has m j=true∧j<b∧((j<n∧I j s.1∧s.1=((List.range j).filter (has m)).foldl step z)∨(n≤j∧s.1=((List.range n).filter (has m)).foldl step z)))∨(s.2= -1∧s.1=((List.range n).filter (has m)).foldl step z))
  (fun s=>if s.2<0 then 0 else b-s.2.toNat) (fun r=>r=((List.range n).filter (has m)).foldl step z) (fun s hI=>by
   obtain⟨acc,cur⟩:=s;simp only at hI ⊢;rcases hI with⟨j,rfl,hj,hjb,(⟨hjn,hIj,hacc⟩|⟨hjn,hacc⟩)⟩|⟨rfl,hacc⟩
   ·left;obtain⟨r,e1,q1⟩:=after_specB (i:=(j:Int)) hN hm hb Om Om;obtain⟨s1,s2⟩:=hst acc j r hjn hj hIj e1;refine⟨(step acc j,r),s1,?_,?_⟩
    ·rcases q1 with⟨rfl,h2⟩|⟨k,rfl,h2,h3,h4⟩
     ·right;refine⟨rfl,?_⟩;rw[gap hj hjn (fun k h5 h6=>h2 k Om),List.foldl_append,←hacc];rfl
     left
     have hkb:k<b:=by
      apply Nat.lt_of_not_le;intro hle;rw[hh k hle]at h3;cases h3
     refine⟨k,rfl,h3,hkb,?_⟩;by_cases hkn:k<n
     ·left;refine⟨hkn,s2 k Om,?_⟩;rw[gap hj (show j<k by omega) (fun c h5 h6=>h4 c Om h6),List.foldl_append,←hacc];rfl
     right;refine⟨by omega,?_⟩;rw[gap hj hjn (fun c h5 h6=>h4 c Om Om),List.foldl_append,←hacc];rfl
    rcases q1 with⟨rfl,h2⟩|⟨k,rfl,h2,h3,h4⟩
    ·simp only[show((-1:Int)<0) by decide,if_true,show¬((j:Int)<0) by omega,if_false];omega
    simp only[show¬((j:Int)<0) by omega,show¬((k:Int)<0) by omega,if_false];omega
   ·right;exact⟨acc,hex acc _ (.inr Om),hacc⟩
   right;exact⟨acc,hex acc _ (.inl Om),hacc⟩)
  (N:=N) (s:=(z,r0)) (by
   rcases q0 with⟨rfl,h2⟩|⟨k,rfl,h2,h3,h4⟩
   ·right;exact⟨rfl,by rw[none_ (fun k hk=>h2 k Om)];rfl⟩
   left
   have hkb:k<b:=by
    apply Nat.lt_of_not_le;intro hle;rw[hh k hle]at h3;cases h3
   refine⟨k,rfl,h3,hkb,?_⟩;by_cases hkn:k<n
   ·left;exact⟨hkn,hup z 0 k hz Om,by rw[none_ (fun c hc=>h4 c Om hc)];rfl⟩
   right;exact⟨by omega,by rw[none_ (fun c hc=>h4 c Om Om)];rfl⟩) (by simp only;split<;>omega)
 rw[hr,hq]
end
open Go Go.Eng
def Wd(x:Int):Prop:=0≤x∧x<18446744073709551616
def SetW(S:List Stt):Prop:= ∀s∈S,Wd s.2.1.1∧Wd s.2.1.2.1∧Wd s.2.1.2.2.1∧Wd s.2.1.2.2.2
def wds(t:Int×Int×Int×Int):LI:=[t.1,t.2.1,t.2.2.1,t.2.2.2]
def tst(t:Int×Int×Int×Int)(c:Int):Bool:=((wds t).getD (c.toNat/64) 0).toNat.testBit (c.toNat %64)
theorem wd_get{t:Int×Int×Int×Int}(h:Wd t.1∧Wd t.2.1∧Wd t.2.2.1∧Wd t.2.2.2){c:Int}(hc:0≤c∧c<256): ∃a:Nat,a<18446744073709551616∧idx (wds t) (IntKind.wrap .u8 (c.tdiv 64))=some (a:Int)∧tst t c=a.testBit (c.toNat %64):=by
 obtain⟨n,rfl⟩: ∃n:Nat,c=(n:Int):=⟨c.toNat,by omega⟩
 have e1:IntKind.wrap .u8 ((n:Int).tdiv 64)=((n/64:Nat):Int):=by
  have:(n:Int).tdiv 64=((n/64:Nat):Int):=by rw[Int.tdiv_eq_ediv_of_nonneg Om];omega
  rw[this];simp only[IntKind.wrap,IntKind.signed,IntKind.bits];simp;omega
 have hk:n/64<(wds t).length:=by show n/64<4;omega
 have hw:Wd ((wds t)[n/64]):=by
  have: ∀x∈wds t,Wd x:=by
   intro x hx;simp only[wds,List.mem_cons,List.not_mem_nil,or_false]at hx;rcases hx with rfl|rfl|rfl|rfl
   ·exact h.1
   ·exact h.2.1
   ·exact h.2.2.1
   exact h.2.2.2
  exact this _ (List.getElem_mem hk)
 refine⟨((wds t)[n/64]).toNat,by have:=hw.1;have:=hw.2;omega,?_,?_⟩
 ·rw[e1,idx_nat hk];have:=hw.1
  congr 1;omega
 unfold tst;rw[Int.toNat_natCast,List.getD,List.getElem?_eq_getElem hk];rfl
theorem tmod64{c:Int}(hc:0≤c∧c<256):c.tmod 64=((c.toNat %64:Nat):Int):=by rw[Int.tmod_eq_emod_of_nonneg hc.1];omega
theorem has_set{t:Int×Int×Int×Int}(h:Wd t.1∧Wd t.2.1∧Wd t.2.2.1∧Wd t.2.2.2){c:Int}(hc:0≤c∧c<256):F_183 N t.1 t.2.1 t.2.2.1 t.2.2.2 c=some (tst t c):=by
 obtain⟨a,ha,hi,ht⟩:=wd_get h hc;have hi':idx [t.1,t.2.1,t.2.2.1,t.2.2.2] (IntKind.wrap .u8 (c.tdiv 64))=some (a:Int):=hi;have hn:nn ((c.toNat %64:Nat):Int)=some ():=by simp[nn];omega
 unfold F_183;rw[hi',tmod64 hc,hn];have hp:a/2^(c.toNat %64)<18446744073709551616:=Nat.lt_of_le_of_lt (Nat.div_le_self _ _) ha;simp only[bind,Option.bind_some];rw[shr_u64 Om,show(1:Int)=((1:Nat):Int)from rfl,iand_u64 hp Om,ht,Nat.testBit_eq_decide_div_mod_eq,Nat.and_one_is_mod];generalize a/2^(c.toNat %64)=p
 congr 1
 rw[Bool.eq_iff_iff,beq_iff_eq,decide_eq_true_eq];omega
theorem ref_set{t:Int×Int×Int×Int}(h:Wd t.1∧Wd t.2.1∧Wd t.2.2.1∧Wd t.2.2.2){c:Int}(hc:0≤c∧c<256):
 ((idx [t.1,t.2.1,t.2.2.1,t.2.2.2] (IntKind.wrap .u8 (c.tdiv 64))).bind fun x=>(nn (c.tmod 64)).bind fun _=>some (((shrI .u64 x (c.tmod 64)).tmod 2)==1))=some (tst t c):=by
 obtain⟨a,ha,hi,ht⟩:=wd_get h hc;have hi':idx [t.1,t.2.1,t.2.2.1,t.2.2.2] (IntKind.wrap .u8 (c.tdiv 64))=some (a:Int):=hi;have hn:nn ((c.toNat %64:Nat):Int)=some ():=by simp[nn];omega
 rw[hi',tmod64 hc,hn,Option.bind_some,Option.bind_some,shr_u64 Om,ht,Nat.testBit_eq_decide_div_mod_eq,Int.tmod_eq_emod_of_nonneg (Int.natCast_nonneg _)];generalize a/2^(c.toNat %64)=p
 congr 1
 rw[Bool.eq_iff_iff,beq_iff_eq,decide_eq_true_eq];omega
section
variable {N:Nat}{S:List Stt}{E:LI}
def rul(S:List Stt)(j:Nat):Int:=((S[j]?).map (fun s=>s.2.2.2)).getD (-1)
def too(S:List Stt)(j:Nat):Int:=((S[j]?).map (fun s=>s.2.2.1)).getD (-1)
def bitS(S:List Stt)(c:Int)(j:Nat):Bool:=((S[j]?).map (fun s=>tst s.2.1 c)).getD false
def stepR(S:List Stt)(acc:Int)(j:Nat):Int:=if rul S j≠ -1∧(acc= -1∨rul S j<acc)then rul S j else acc
def lrule(S:List Stt)(f:Nat→Bool):Int:=((List.range S.length).filter f).foldl (stepR S) (-1)
theorem rule_spec{b:Nat}{m:LI}(hN:4294967296≤N)(hm:MkR b m)(hb:b≤65536)(h0:0<b)(hnb:S.length≤b)(hh: ∀j,b≤j→has m j=false):F_161 N S E m (b:Int)=some (lrule S (has m)):=by
 obtain⟨r0,e0,e1⟩:=after_loop (f:=fun s:Int×Int=>F_209 N S m (b:Int) s.1 s.2) hN hm hb h0 hnb hh (stepR S) (fun _ _=>True) (z:= -1) trivial
  (fun acc j r hj _ _ he=>by
   refine⟨?_,fun _ _=>trivial⟩;have hx:S[j]? =some S[j]:=List.getElem?_eq_getElem hj;have hr:rul S j=S[j].2.2.2:=by unfold rul;rw[hx];rfl
   unfold F_209 stepR;rw[hr];simp only[show((j:Int)≥0) by omega,show((j:Int)<(S.length:Int)) by omega,decide_true,if_true,idx_of hx,he,bind,Option.bind_some];by_cases c1:S[j].2.2.2= -1
   ·simp[c1]
   by_cases c2:acc= -1
   ·simp[c1,c2]
   by_cases c3:S[j].2.2.2<acc<;>simp[c1,c2,c3])
  (fun _ _ _ _ _=>trivial)
  (fun acc c hc=>by
   unfold F_209;by_cases c1:c≥0
   ·have c2: ¬c<(S.length:Int):=by omega
    simp[c1,c2]
   simp[c1])
 unfold F_161;rw[e0];simp only[bind,Option.bind_some];rw[show iterO N (fun s:Int×Int=>F_209 N S m (b:Int) s.1 s.2) (-1,r0)=_ from e1];rfl
theorem refRule_spec{l:List Bool}(hN:4294967296≤N)(h:NRt S E)(hl:l.length=S.length):F_53 N S E l=some (lrule S (bo l)):=by
 have hn2:=h.n2;unfold F_53
 obtain⟨s,e1,e2,e3⟩:=loop_inv (f:=fun s:Int×Int=>F_118 N S l s.1 s.2) (fun i (s:Int)=>((i:Int),s)) id S (fun i s=>s=((List.range i).filter (bo l)).foldl (stepR S) (-1)∧ -1≤s) (N:=N) (s:= -1) Om ⟨rfl,by omega⟩
  (fun i x s hx hI=>by
   obtain⟨k1,k2⟩:=hI;have hi:=lt_len hx;have hil:i<l.length:=by omega
   have hr:rul S i=x.2.2.2:=by unfold rul;rw[hx];rfl
   have hrr:=h.rul x (List.mem_of_getElem? hx);unfold F_118;simp only[show((i:Int)<(S.length:Int)) by omega,decide_true,if_true,idx_of hx,bo_idx hil,bind,Option.bind_some];rw[w64_succ Om];refine⟨if bo l i then stepR S s i else s,?_,?_,?_⟩
   ·unfold stepR;rw[hr]
    cases hb:bo l i with
    |false=>simp
    |true=>
      by_cases c1:x.2.2.2≥0
      ·by_cases c2:s<0
       ·have c3:x.2.2.2≠ -1∧(s= -1∨x.2.2.2<s):=by omega
        simp[c1,c2,c3]
       by_cases c4:x.2.2.2<s
       ·have c3:x.2.2.2≠ -1∧(s= -1∨x.2.2.2<s):=by omega
        simp[c1,c2,c4,c3]
       have c3: ¬(x.2.2.2≠ -1∧(s= -1∨x.2.2.2<s)):=by omega
       rw[if_neg c3];simp[c1,c2,c4]
      have c3: ¬(x.2.2.2≠ -1∧(s= -1∨x.2.2.2<s)):=by omega
      rw[if_neg c3];simp[c1]
   ·rw[List.range_succ,List.filter_append,List.foldl_append,←k1];cases hb:bo l i<;>simp[hb]
   unfold stepR;rw[hr];split
   ·split<;>omega
   exact k2)
  (fun s _=>by unfold F_118;simp)
 simp only[bind];rw[show iterO N (fun s:Int×Int=>F_118 N S l s.1 s.2) (0,-1)=_ from e1];simp only[Option.bind_some,id,e2];rfl
theorem lrule_congr{f g:Nat→Bool}(h: ∀j,j<S.length→f j=g j):lrule S f=lrule S g:=by
 unfold lrule
 congr 1
 apply List.filter_congr;intro j hj;exact h j (by simpa using hj)
def stepS(S:List Stt)(c:Int)(acc:LI)(j:Nat):LI:=if bitS S c j then acc++ [too S j]else acc
theorem mem_stepS{c:Int}{x:Int}: ∀(l:List Nat) (acc:LI),x∈l.foldl (stepS S c) acc↔x∈acc∨ ∃j∈l,bitS S c j=true∧x=too S j
 | [],acc=>by simp
 |j::l,acc=>by
   rw[List.foldl_cons,mem_stepS l];unfold stepS;by_cases hb:bitS S c j=true
   ·rw[if_pos hb,List.mem_append,List.mem_singleton];constructor
    ·rintro((h|rfl)|⟨k,hk,h1,h2⟩)
     ·exact .inl h
     ·exact .inr ⟨j,by simp,hb,rfl⟩
     exact .inr ⟨k,by simp[hk],h1,h2⟩
    rintro(h|⟨k,hk,h1,h2⟩)
    ·exact .inl (.inl h)
    rcases List.mem_cons.1 hk with rfl|hk
    ·exact .inl (.inr h2)
    exact .inr ⟨k,hk,h1,h2⟩
   rw[if_neg hb];constructor
   ·rintro(h|⟨k,hk,h1,h2⟩)
    ·exact .inl h
    exact .inr ⟨k,by simp[hk],h1,h2⟩
   rintro(h|⟨k,hk,h1,h2⟩)
   ·exact .inl h
   rcases List.mem_cons.1 hk with rfl|hk
   ·exact absurd h1 hb
   exact .inr ⟨k,hk,h1,h2⟩
theorem too_rng(h:NRt S E){c:Int}{j:Nat}(hb:bitS S c j=true):0≤too S j∧too S j<(S.length:Int):=by
 unfold bitS at hb;unfold too
 cases hx:S[j]? with
 |none=>rw[hx]at hb;cases hb
 |some s=>
   rw[hx]at hb;have hs:=List.mem_of_getElem? hx;have h1:=h.to s hs;have h2:=h.set0 s hs;simp only[Option.map_some,Option.getD_some]at hb ⊢;refine⟨?_,h1.2⟩;by_cases h3:s.2.2.1= -1
   ·rw[h2 h3]at hb;unfold tst wds at hb;exfalso
    have:([(0:Int),0,0,0]:LI).getD (c.toNat/64) 0=0:=by
     rw[List.getD]
     cases hq:([(0:Int),0,0,0]:LI)[c.toNat/64]? with
     |none=>rfl
     |some v=>
       have:=List.mem_of_getElem? hq;simp at this;simp[this]
    simp only at hb;rw[this]at hb;simp at hb
   omega
def stepL(S:List Stt)(f:Nat→Bool)(c:Int):LI:=((List.range S.length).filter f).foldl (stepS S c) []
theorem mem_stepL{f:Nat→Bool}{c x:Int}:x∈stepL S f c↔ ∃j,j<S.length∧f j=true∧bitS S c j=true∧x=too S j:=by
 unfold stepL;rw[mem_stepS];simp only[List.not_mem_nil,false_or,List.mem_filter,List.mem_range];constructor
 ·rintro⟨j,⟨h1,h2⟩,h3,h4⟩;exact⟨j,h1,h2,h3,h4⟩
 rintro⟨j,h1,h2,h3,h4⟩;exact⟨j,⟨h1,h2⟩,h3,h4⟩
theorem stepL_len{f:Nat→Bool}{c:Int}:(stepL S f c).length≤S.length:=by
 have key: ∀(l:List Nat) (acc:LI),(l.foldl (stepS S c) acc).length≤acc.length+l.length:=by
  intro l
  induction l with
  |nil=>intro acc;simp
  |cons j l ih=>
    intro acc;rw[List.foldl_cons];have:=ih (stepS S c acc j);unfold stepS at this ⊢;split at this<;>simp_all<;>omega
 have h1:=key ((List.range S.length).filter f) [];have h2:=List.length_filter_le f (List.range S.length);unfold stepL;simp at h1 h2 ⊢;omega
theorem step_spec{b:Nat}{m:LI}{c:Int}(hN:4294967296≤N)(h:NRt S E)(hf: ∀s∈S,s.1.length≤100)(hw:SetW S)(hm:MkR b m)(hb:b≤65536)(h0:0<b)(hnb:S.length≤b)(hh: ∀j,b≤j→has m j=false)(hc:0≤c∧c<256):
 ∃m',F_162 N S E m (b:Int) c=some m'∧MkR S.length m'∧(∀j,S.length≤j→has m' j=false)∧ ∀j,j<S.length→(has m' j=true↔RchF S (stepL S (has m) c) (j:Int)):=by
 have hn2:=h.n2
 obtain⟨r0,e0,e1⟩:=after_loop (f:=fun s:LI×Int=>F_210 N S m (b:Int) c s.1 s.2) hN hm hb h0 hnb hh (stepS S c) (fun j acc=>acc.length≤j) (z:=[]) (Nat.le_refl _)
  (fun acc j r hj _ hI he=>by
   have hx:S[j]? =some S[j]:=List.getElem?_eq_getElem hj;have hbt:bitS S c j=tst S[j].2.1 c:=by unfold bitS;rw[hx];rfl
   have hto:too S j=S[j].2.2.1:=by unfold too;rw[hx];rfl
   refine⟨?_,fun k hk=>?_⟩
   ·unfold F_210 stepS;rw[hbt,hto];simp only[show((j:Int)≥0) by omega,show((j:Int)<(S.length:Int)) by omega,decide_true,if_true,idx_of hx,he,bind,Option.bind_some,has_set (N:=N) (hw _ (List.getElem_mem hj)) hc]
    cases hq:tst S[j].2.1 c with
    |false=>simp
    |true=>rw[if_pos rfl,app_eq (by simp;omega)];rfl
   unfold stepS;split
   ·simp;omega
   omega)
  (fun acc j k hI hjk=>by omega)
  (fun acc c hc=>by
   unfold F_210;by_cases c1:c≥0
   ·have c2: ¬c<(S.length:Int):=by omega
    simp[c1,c2]
   simp[c1])
 have hL: ∀x∈stepL S (has m) c,0≤x∧x<(S.length:Int):=by
  intro x hx;obtain⟨j,_,_,h3,rfl⟩:=mem_stepL.1 hx;exact too_rng h h3
 have hlen:=stepL_len (S:=S) (f:=has m) (c:=c);obtain⟨w,m',g1,g2,g3,g4⟩:=closed1_spec (L:=stepL S (has m) c) hN h hf hL Om;unfold F_162;rw[e0];simp only[bind,Option.bind_some];rw[show iterO N (fun s:LI×Int=>F_210 N S m (b:Int) c s.1 s.2) ([],r0)=_ from e1];simp only[Option.bind_some];rw[show((List.range S.length).filter (has m)).foldl (stepS S c) []=stepL S (has m) c from rfl,g1];exact⟨m',rfl,g2,g3,g4⟩
theorem refStep_spec{l:List Bool}{c:Int}(hN:4294967296≤N)(h:NRt S E)(hf: ∀s∈S,s.1.length≤100)(hw:SetW S)(hl:l.length=S.length)(hc:0≤c∧c<256):
 ∃o,F_47 N S E l c=some o∧o.length=S.length∧ ∀j,j<S.length→(bo o j=true↔RchF S (stepL S (bo l) c) (j:Int)):=by
 have hn2:=h.n2;unfold F_47;rw[mk_eq Om];simp only[bind,Option.bind_some]
 obtain⟨o1,e1,e2,e3⟩:=loop_inv (f:=fun s:Int×List Bool=>F_119 N S l c s.1 s.2) (fun i (s:List Bool)=>((i:Int),s)) id S
  (fun i o=>o.length=S.length∧ ∀k,bo o k=true↔ ∃j,j<i∧bo l j=true∧bitS S c j=true∧(k:Int)=too S j) (N:=N) (s:=List.replicate S.length false) Om
  ⟨by simp,fun k=>by
   have:bo (List.replicate S.length false) k=false:=by unfold bo;rw[List.getD,List.getElem?_replicate];split<;>rfl
   rw[this];simp⟩
  (fun i x o hx hI=>by
   obtain⟨k1,k2⟩:=hI;have hi:=lt_len hx;have hil:i<l.length:=by omega
   have hbt:bitS S c i=tst x.2.1 c:=by unfold bitS;rw[hx];rfl
   have hto:too S i=x.2.2.1:=by unfold too;rw[hx];rfl
   have hrs:=ref_set (hw x (List.mem_of_getElem? hx)) hc;unfold F_119;simp only[show((i:Int)<(S.length:Int)) by omega,decide_true,if_true,idx_of hx,bo_idx hil,bind,Option.bind_some,hrs];rw[w64_succ Om];by_cases hb:bo l i=true∧bitS S c i=true
   ·have htr:=too_rng h hb.2;rw[hto]at htr;obtain⟨q,hq⟩: ∃q:Nat,x.2.2.1=(q:Int):=⟨x.2.2.1.toNat,by omega⟩;have hqo:q<o.length:=by omega
    rw[hbt]at hb;refine⟨o.set q true,by simp only[hb.1,hb.2,if_true,hq,show((q:Int)≥0) by omega,decide_true,Option.bind_some,bo_idx hqo,setI_nat hqo],by simp[k1],fun k=>?_⟩;rw[bo_set hqo,Bool.or_eq_true,k2];constructor
    ·rintro(⟨j,h1,h2⟩|h1)
     ·exact⟨j,by omega,h2⟩
     have:k=q:=by simpa using h1
     exact⟨i,by omega,hb.1,by rw[hbt];exact hb.2,by rw[hto,hq,this]⟩
    rintro⟨j,h1,h2,h3,h4⟩;by_cases hji:j=i
    ·subst hji;right;rw[hto,hq]at h4;have:k=q:=by omega
     simp[this]
    exact .inl ⟨j,by omega,h2,h3,h4⟩
   refine⟨o,?_,k1,fun k=>?_⟩
   ·cases hb1:bo l i with
    |false=>simp
    |true=>
      have hb2:tst x.2.1 c=false:=by
       rw[←hbt]
       cases hq:bitS S c i with
       |false=>rfl
       |true=>exact absurd ⟨hb1,hq⟩ hb
      by_cases c1:x.2.2.1≥0<;>simp[c1,hb2]
   rw[k2];constructor
   ·rintro⟨j,h1,h2⟩;exact⟨j,by omega,h2⟩
   rintro⟨j,h1,h2,h3,h4⟩;by_cases hji:j=i
   ·subst hji;exact absurd ⟨h2,h3⟩ hb
   exact⟨j,by omega,h2,h3,h4⟩)
  (fun s _=>by unfold F_119;simp)
 rw[show iterO N (fun s:Int×List Bool=>F_119 N S l c s.1 s.2) (0,List.replicate S.length false)=_ from e1];simp only[id,Option.bind_some];obtain⟨o,g1,g2,g3⟩:=refClosed_spec hN h hf e2;rw[g1];refine⟨o,rfl,g2,fun j hj=>?_⟩;rw[g3 j hj]
 have h1: ∀x∈lst (bo o1) S.length,RchF S (stepL S (bo l) c) x:=fun x hx=>by
  obtain⟨k,rfl,hk,hb⟩:=mem_lstB.1 hx;obtain⟨j,q1,q2,q3,q4⟩:=(e3 k).1 hb;exact .base (mem_stepL.2 ⟨j,q1,q2,q3,q4⟩)
 have h2: ∀x∈stepL S (bo l) c,RchF S (lst (bo o1) S.length) x:=fun x hx=>by
  obtain⟨j,q1,q2,q3,rfl⟩:=mem_stepL.1 hx;have hr:=too_rng h q3;obtain⟨k,hk⟩: ∃k:Nat,too S j=(k:Int):=⟨(too S j).toNat,by omega⟩;rw[hk];exact .base (mem_lstB.2 ⟨k,rfl,by omega,(e3 k).2 ⟨j,q1,q2,q3,hk.symm⟩⟩)
 exact⟨RchF.mono h1,RchF.mono h2⟩
theorem stepL_congr{f g:Nat→Bool}{c:Int}(h: ∀j,j<S.length→f j=g j):stepL S f c=stepL S g c:=by
 unfold stepL
 congr 1
 apply List.filter_congr;intro j hj;exact h j (by simpa using hj)
def begL(E:LI)(cond:Int):LI:=if 0≤cond∧cond<(E.length:Int)then [E.getD cond.toNat 0]else []
theorem rch_nil{x:Int}(h:RchF S [] x):False:=by
 induction h with
 |base h=>cases h
 |step _ _ ih=>exact ih
theorem wbegin_spec{cond:Int}(hN:4294967296≤N)(h:NRt S E)(hf: ∀s∈S,s.1.length≤100):
 ∃m,F_208 N S E cond=some m∧MkR S.length m∧(∀j,S.length≤j→has m j=false)∧ ∀j,j<S.length→(has m j=true↔RchF S (begL E cond) (j:Int)):=by
 have hn2:=h.n2;unfold F_208 begL;by_cases hc:0≤cond∧cond<(E.length:Int)
 ·have hl:cond.toNat<E.length:=by omega
  have he:=h.ent _ (List.getElem_mem hl);obtain⟨w,m,g1,g2,g3,g4⟩:=closed1_spec (L:=[E[cond.toNat]]) hN h hf (fun x hx=>by simp at hx;subst hx;exact he) Sm;rw[if_pos hc];have e:E.getD cond.toNat 0=E[cond.toNat]:=by rw[List.getD,List.getElem?_eq_getElem hl];rfl
  rw[e];simp only[show¬cond<0 by omega,show¬cond≥(E.length:Int) by omega,decide_false,Bool.false_eq_true,if_false,bind,Option.bind_some,idx_int hc.1 hl,g1];exact⟨m,rfl,g2,g3,g4⟩
 obtain⟨m0,e0,q0,q1⟩:=new_spec (N:=N) (n:=S.length) Om;rw[if_neg hc]
 have e:((if decide (cond<0)=true then some true else some (decide (cond≥(E.length:Int)))):Option Bool)=some true:=by
  by_cases c1:cond<0
  ·simp[c1]
  have:cond≥(E.length:Int):=by omega
  simp[c1,this]
 rw[e];unfold F_196;simp only[bind,Option.bind_some,if_true,e0];exact⟨m0,rfl,q0,fun j _=>q1 j,fun j _=>⟨fun hh=>(by rw[q1]at hh;cases hh),fun hr=>(rch_nil hr).elim⟩⟩
theorem refBegin_spec{cond:Int}(hN:4294967296≤N)(h:NRt S E)(hf: ∀s∈S,s.1.length≤100):
 ∃o,F_177 N S E cond=some o∧o.length=S.length∧ ∀j,j<S.length→(bo o j=true↔RchF S (begL E cond) (j:Int)):=by
 have hn2:=h.n2;have hrep: ∀k,bo (List.replicate S.length false) k=false:=fun k=>by unfold bo;rw[List.getD,List.getElem?_replicate];split<;>rfl
 unfold F_177 begL;rw[mk_eq Om]
 have e:((if decide (cond≥0)=true then some (decide (cond<(E.length:Int)))else some false):Option Bool)=some (decide (0≤cond∧cond<(E.length:Int))):=by
  by_cases c1:0≤cond<;>simp[c1]
 simp only[bind,Option.bind_some];rw[e];simp only[Option.bind_some];by_cases hc:0≤cond∧cond<(E.length:Int)
 ·have hl:cond.toNat<E.length:=by omega
  have he:=h.ent _ (List.getElem_mem hl);obtain⟨q,hq⟩: ∃q:Nat,E[cond.toNat]=(q:Int):=⟨E[cond.toNat].toNat,by omega⟩;have hqn:q<(List.replicate S.length false).length:=by simp;omega
  have e2:E.getD cond.toNat 0=(q:Int):=by rw[List.getD,List.getElem?_eq_getElem hl];exact hq
  rw[if_pos hc,e2];simp only[hc,and_self,decide_true,if_true,idx_int hc.1 hl,hq,Option.bind_some,bo_idx hqn,setI_nat hqn];obtain⟨o,g1,g2,g3⟩:=refClosed_spec (o0:=(List.replicate S.length false).set q true) hN h hf Sm;rw[g1];refine⟨o,rfl,g2,fun j hj=>?_⟩;rw[g3 j hj];have hb: ∀k,bo ((List.replicate S.length false).set q true) k=(k==q):=fun k=>by rw[bo_set hqn,hrep];simp
  refine⟨RchF.mono fun x hx=>?_,RchF.mono fun x hx=>?_⟩
  ·obtain⟨k,rfl,hk,h1⟩:=mem_lstB.1 hx;rw[hb]at h1;have:k=q:=by simpa using h1
   subst this;exact .base Sm
  simp at hx;subst hx;exact .base (mem_lstB.2 ⟨q,rfl,by simpa using hqn,by rw[hb];simp⟩)
 rw[if_neg hc];simp only[hc,decide_false,Bool.false_eq_true,if_false,Option.bind_some];obtain⟨o,g1,g2,g3⟩:=refClosed_spec (o0:=List.replicate S.length false) hN h hf Sm;rw[g1];refine⟨o,rfl,g2,fun j hj=>?_⟩;rw[g3 j hj];refine⟨RchF.mono fun x hx=>?_,fun hr=>(rch_nil hr).elim⟩;obtain⟨k,rfl,hk,h1⟩:=mem_lstB.1 hx;rw[hrep]at h1;cases h1
end
open Go Go.Eng
set_option maxRecDepth 100000
abbrev Q4:=Nat×Nat×Nat×Nat
def S64(s:Q4):Prop:=s.1<18446744073709551616∧s.2.1<18446744073709551616∧s.2.2.1<18446744073709551616∧s.2.2.2<18446744073709551616
def wd(s:Q4)(i:Nat):Nat:=if i=0 then s.1 else if i=1 then s.2.1 else if i=2 then s.2.2.1 else s.2.2.2
def bs(s:Q4)(c:Nat):Bool:=(wd s (c/64)).testBit (c %64)
def nt(a:Nat):Nat:=18446744073709551615-a
theorem wd_lt{s:Q4}(h:S64 s)(i:Nat):wd s i<18446744073709551616:=by
 obtain⟨h1,h2,h3,h4⟩:=h;unfold wd;split
 ·exact h1
 split
 ·exact h2
 split<;>assumption
theorem inv_u64{a:Nat}(h:a<18446744073709551616):inv .u64 (a:Int)=((nt a:Nat):Int):=by
 have e:inv .u64 (a:Int)=IntKind.wrap .u64 ((BitVec.ofInt 64 18446744073709551615^^^BitVec.ofInt 64 (a:Int)).toNat:Int):=rfl;have e1:BitVec.ofInt 64 18446744073709551615=BitVec.allOnes 64:=by decide
 have e2:BitVec.ofInt 64 (a:Int)=BitVec.ofNat 64 a:=BitVec.ofInt_natCast ..;rw[e,e1,e2,BitVec.allOnes_xor,BitVec.toNat_not,BitVec.toNat_ofNat,Nat.mod_eq_of_lt (by simpa using h)];unfold nt;rw[show(2:Nat)^64-1-a=18446744073709551615-a by omega];exact wrapU64 Om Om
theorem nt_lt(a:Nat):nt a<18446744073709551616:=by unfold nt;omega
theorem nt_bit{a j:Nat}(h:a<18446744073709551616)(hj:j<64):(nt a).testBit j= !a.testBit j:=by
 have:=Nat.testBit_two_pow_sub_succ (x:=a) (n:=64) (by simpa using h) j;rw[show(2:Nat)^64-(a+1)=nt a by unfold nt;omega]at this;rw[this];simp[hj]
section
variable {N:Nat}
theorem not_spec{a b c d:Nat}(hN:5≤N)(h:S64 (a,b,c,d)):F_39 N a b c d=some ((nt a:Int),(nt b:Int),(nt c:Int),(nt d:Int)):=by
 obtain⟨M,rfl⟩: ∃m,N=m+5:=⟨N-5,by omega⟩;obtain⟨h1,h2,h3,h4⟩:=h;simp only at h1 h2 h3 h4;have s0: ∀a b c d:Int,F_98 (M+5) a b c d 0=some (.inl (inv .u64 a,b,c,d,1)):=fun _ _ _ _=>rfl;have s1: ∀a b c d:Int,F_98 (M+5) a b c d 1=some (.inl (a,inv .u64 b,c,d,2)):=fun _ _ _ _=>rfl;have s2: ∀a b c d:Int,F_98 (M+5) a b c d 2=some (.inl (a,b,inv .u64 c,d,3)):=fun _ _ _ _=>rfl;have s3: ∀a b c d:Int,F_98 (M+5) a b c d 3=some (.inl (a,b,c,inv .u64 d,4)):=fun _ _ _ _=>rfl;have s4: ∀a b c d:Int,F_98 (M+5) a b c d 4=some (.inr (a,b,c,d)):=fun _ _ _ _=>rfl;unfold F_39;simp only[iterO,s0,s1,s2,s3,s4,bind,Option.bind_some,inv_u64 h1,inv_u64 h2,inv_u64 h3,inv_u64 h4]
theorem and_spec{a b c d a' b' c' d':Nat}(hN:5≤N)(h:S64 (a,b,c,d))(h':S64 (a',b',c',d')):F_36 N a b c d a' b' c' d'=some (((a&&&a':Nat):Int),((b&&&b':Nat):Int),((c&&&c':Nat):Int),((d&&&d':Nat):Int)):=by
 obtain⟨M,rfl⟩: ∃m,N=m+5:=⟨N-5,by omega⟩;obtain⟨h1,h2,h3,h4⟩:=h;obtain⟨g1,g2,g3,g4⟩:=h';simp only at h1 h2 h3 h4 g1 g2 g3 g4;have s0: ∀p q r s a b c d:Int,F_96 (M+5) p q r s a b c d 0=some (.inl (iand .u64 a p,b,c,d,1)):=fun _ _ _ _ _ _ _ _=>rfl;have s1: ∀p q r s a b c d:Int,F_96 (M+5) p q r s a b c d 1=some (.inl (a,iand .u64 b q,c,d,2)):=fun _ _ _ _ _ _ _ _=>rfl;have s2: ∀p q r s a b c d:Int,F_96 (M+5) p q r s a b c d 2=some (.inl (a,b,iand .u64 c r,d,3)):=fun _ _ _ _ _ _ _ _=>rfl;have s3: ∀p q r s a b c d:Int,F_96 (M+5) p q r s a b c d 3=some (.inl (a,b,c,iand .u64 d s,4)):=fun _ _ _ _ _ _ _ _=>rfl;have s4: ∀p q r s a b c d:Int,F_96 (M+5) p q r s a b c d 4=some (.inr (a,b,c,d)):=fun _ _ _ _ _ _ _ _=>rfl;unfold F_36;simp only[iterO,s0,s1,s2,s3,s4,bind,Option.bind_some,iand_u64 h1 g1,iand_u64 h2 g2,iand_u64 h3 g3,iand_u64 h4 g4]
end
def bits(x:Nat):List Nat:=(List.range 64).filter (x.testBit ·)
def els(s:Q4):List Nat:=(List.range 256).filter (bs s)
theorem range_at{n k:Nat}(h:k<n):List.range n=List.range' 0 k++k::List.range' (k+1) (n-k-1):=by
 rw[List.range_eq_range',show n=k+(n-k) by omega,←List.range'_append_1,Nat.zero_add,show n-k=(n-k-1)+1 by omega,List.range'_succ];simp
theorem filter_low{p q:Nat→Bool}{n k:Nat}(hk:k<n)(h1:p k=true)(h2: ∀j,j<k→p j=false)(hq: ∀j,q j=(p j&&decide (k<j))):(List.range n).filter p=k::(List.range n).filter q:=by
 rw[range_at hk,List.filter_append,List.filter_append]
 have e1:(List.range' 0 k).filter p= []:=by
  rw[List.filter_eq_nil_iff];intro a ha;have:=h2 a (by have:=List.mem_range'_1.1 ha;omega);simp[this]
 have e2:(List.range' 0 k).filter q= []:=by
  rw[List.filter_eq_nil_iff];intro a ha;have:=h2 a (by have:=List.mem_range'_1.1 ha;omega);simp[hq,this]
 rw[e1,e2,List.nil_append,List.nil_append,List.filter_cons,h1,if_pos rfl,List.filter_cons,hq k];simp only[Nat.lt_irrefl,decide_false,Bool.and_false,Bool.false_eq_true,if_false]
 congr 1
 refine List.filter_congr fun j hj=>?_;have:=List.mem_range'_1.1 hj;rw[hq j];simp;omega
theorem clear_low{x k j:Nat}(h1:x.testBit k=true)(h2: ∀j,j<k→x.testBit j=false):(x&&&(x-1)).testBit j=(x.testBit j&&decide (k<j)):=by
 obtain⟨q,hq⟩:=low_shape h1 h2;have p0:0<2^k:=Nat.two_pow_pos k;have e1:x=2^(k+1)*q+2^k:=by rw[hq,Nat.pow_succ,Nat.mul_add,Nat.mul_one,Nat.mul_assoc]
 have e2:x-1=2^(k+1)*q+(2^k-1):=by omega
 have l1:2^k<2^(k+1):=by rw[Nat.pow_succ];omega
 rw[Nat.testBit_and,e2]
 conv=>lhs;lhs;rw[e1]
 conv=>rhs;lhs;rw[e1]
 rw[Nat.testBit_two_pow_mul_add _ l1,Nat.testBit_two_pow_mul_add _ (by omega:2^k-1<2^(k+1))];by_cases hj:j<k+1
 ·simp only[hj,if_true];rw[Nat.testBit_two_pow_sub_one,Nat.testBit_two_pow];by_cases hjk:k=j
  ·subst hjk;simp
  have: ¬k<j:=by omega
  simp[hjk,this]
 simp only[hj,if_false];have:k<j:=by omega
 simp[this]
theorem bits_zero:bits 0= []:=by unfold bits;simp
theorem bits_step{x:Nat}(hx:x<18446744073709551616)(h0:x≠0): ∃k,k<64∧x.testBit k=true∧(∀j,j<k→x.testBit j=false)∧bits x=k::bits (x&&&(x-1)):=by
 obtain⟨k,h1,h2⟩:=low_bit h0
 have hk:k<64:=by
  refine Classical.byContradiction fun hc=>?_;have:=Nat.testBit_lt_two_pow (x:=x) (i:=k) (Nat.lt_of_lt_of_le (show x<2^64 by simpa using hx) (Nat.pow_le_pow_right Om Om));rw[this]at h1;cases h1
 exact⟨k,hk,h1,h2,filter_low hk h1 h2 fun j=>clear_low h1 h2⟩
def foldY{σ:Type}(Y:Int→σ→Option (σ×Bool)):List Nat→σ→Option (σ×Bool)
 | [],s=>some (s,true)
 |x::r,s=>Y (x:Int) s >>= fun q=>if q.2=true then foldY Y r q.1 else some (q.1,false)
theorem foldY_append{σ:Type}(Y:Int→σ→Option (σ×Bool))(l':List Nat): ∀(l:List Nat) (s:σ),foldY Y (l++l') s=foldY Y l s >>= fun q=>if q.2=true then foldY Y l' q.1 else some (q.1,false)
 | [],s=>by simp[foldY]
 |x::r,s=>by
   simp only[List.cons_append,foldY,bind]
   cases Y (x:Int) s with
   |none=>rfl
   |some q=>
     simp only[Option.bind_some];by_cases hq:q.2=true
     ·simp only[hq,if_true];have:=foldY_append Y l' r q.1;simpa only[bind]using this
     simp[hq]
section
variable {N:Nat}{σ:Type}
theorem word_loop{Y:Int→σ→Option (σ×Bool)}{i:Nat}(hi:i<4): ∀(n x M:Nat) (s:σ),(bits x).length=n→x<18446744073709551616→n<M→
 iterO M (fun s=>F_170 N Y (i:Int) s.1 s.2) (s,(x:Int))=foldY Y ((bits x).map (64*i+ ·)) s >>= fun q=>if q.2=true then some (.inl q.1)else some (.inr (.inr (.inr (q.1,false)))):=by
 intro n
 induction n with
 |zero=>
   intro x M s hn hx hM;obtain⟨M,rfl⟩: ∃m,M=m+1:=⟨M-1,by omega⟩;have hb:bits x= []:=List.eq_nil_of_length_eq_zero hn
   have hx0:x=0:=by
    refine Classical.byContradiction fun hc=>?_;obtain⟨k,_,_,_,e⟩:=bits_step hx hc;rw[hb]at e;cases e
   subst hx0;rw[hb];simp only[iterO,List.map_nil,foldY,bind,Option.bind_some,if_true];unfold F_170;rw[if_neg Sm]
 |succ n ih=>
   intro x M s hn hx hM;obtain⟨M,rfl⟩: ∃m,M=m+1:=⟨M-1,by omega⟩;have hx0:x≠0:=by rintro rfl;rw[bits_zero]at hn;simp at hn
   obtain⟨k,hk,h1,h2,e⟩:=bits_step hx hx0
   have e3:iand .u64 (x:Int) (IntKind.wrap .u64 ((x:Int)-1))=((x&&&(x-1):Nat):Int):=by
    rw[show((x:Int)-1)=((x-1:Nat):Int) by omega,wrapU64 Om Om,iand_u64 hx Om]
   have hlt:x&&&(x-1)<18446744073709551616:=Nat.lt_of_le_of_lt Nat.and_le_left hx;rw[e];simp only[iterO,List.map_cons,foldY];unfold F_170;rw[if_pos (by simpa using hx0),tz_spec hx h1 h2 hk];simp only[bind,Option.bind_some]
   rw[show w64 ((w64 (64*(i:Int)))+(k:Int))=((64*i+k:Nat):Int) by
    have a1:w64 (64*(i:Int))=64*(i:Int):=by rw[w64];exact wrap64 Om Om
    rw[a1,w64];rw[wrap64 Om Om];omega]
   cases Y ((64*i+k:Nat):Int) s with
   |none=>rfl
   |some q=>
     simp only[Option.bind_some];by_cases hq:q.2=true
     ·simp only[hq,Bool.not_true,Bool.false_eq_true,if_false,if_true];rw[e3];have:=ih (x&&&(x-1)) M q.1 (by rw[e]at hn;simpa using hn) hlt Om;exact this
     have hq':q.2=false:=by simpa using hq
     simp[hq']
end
theorem bits_len(x:Nat):(bits x).length≤64:=by
 unfold bits;exact Nat.le_trans (List.length_filter_le _ _) Sm
theorem part_els(s:Q4){i:Nat}(_hi:i<4):(List.range' (64*i) 64).filter (bs s)=(bits (wd s i)).map (64*i+ ·):=by
 have e:List.range' (64*i) 64=(List.range 64).map (64*i+ ·):=by
  rw[List.range_eq_range',List.map_add_range'];simp
 rw[e,List.filter_map];unfold bits
 congr 1
 refine List.filter_congr fun j hj=>?_;have hj:=List.mem_range.1 hj;simp only[Function.comp];unfold bs;rw[show(64*i+j)/64=i by omega,show(64*i+j) %64=j by omega]
theorem els_eq(s:Q4):els s=(bits s.1).map (64*0+ ·)++((bits s.2.1).map (64*1+ ·)++((bits s.2.2.1).map (64*2+ ·)++(bits s.2.2.2).map (64*3+ ·))):=by
 unfold els;have e:List.range 256=List.range' (64*0) 64++(List.range' (64*1) 64++(List.range' (64*2) 64++List.range' (64*3) 64)):=by decide+kernel
 rw[e,List.filter_append,List.filter_append,List.filter_append,part_els s Om,part_els s Om,part_els s Om,part_els s Om];rfl
theorem mem_els{s:Q4}{c:Nat}:c∈els s↔c<256∧bs s c=true:=by unfold els;simp
section
variable {N:Nat}{σ:Type}
theorem all_step{Y:Int→σ→Option (σ×Bool)}{a b c d x:Nat}{i:Nat}(hN:70≤N)(hi:i<4)(hx:idx [(a:Int),(b:Int),(c:Int),(d:Int)] (i:Int)=some (x:Int))(hlt:x<18446744073709551616)(s:σ):
 F_100 N Y a b c d s (i:Int)=foldY Y ((bits x).map (64*i+ ·)) s >>= fun q=>if q.2=true then some (.inl (q.1,((i+1:Nat):Int)))else some (.inr (.inr (q.1,false))):=by
 unfold F_100;rw[if_pos (by simp;omega),hx];simp only[bind,Option.bind_some];have h:=word_loop (N:=N) (Y:=Y) hi (bits x).length x N s rfl hlt (by have:=bits_len x;omega);rw[h,w64_succ Om];simp only[bind]
 cases foldY Y ((bits x).map (64*i+ ·)) s with
 |none=>rfl
 |some q=>
   simp only[Option.bind_some];by_cases hq:q.2=true
   ·simp[hq]
   simp[hq]
theorem all_spec{Y:Int→σ→Option (σ×Bool)}{a b c d:Nat}(hN:70≤N)(h:S64 (a,b,c,d))(s:σ):F_30 N Y s a b c d=foldY Y (els (a,b,c,d)) s:=by
 obtain⟨h1,h2,h3,h4⟩:=h;simp only at h1 h2 h3 h4;obtain⟨M,hM⟩: ∃m,N=m+5:=⟨N-5,by omega⟩;have t0:=fun s=>all_step (N:=N) (Y:=Y) (a:=a) (b:=b) (c:=c) (d:=d) (x:=a) (i:=0) hN Om rfl h1 s;have t1:=fun s=>all_step (N:=N) (Y:=Y) (a:=a) (b:=b) (c:=c) (d:=d) (x:=b) (i:=1) hN Om rfl h2 s;have t2:=fun s=>all_step (N:=N) (Y:=Y) (a:=a) (b:=b) (c:=c) (d:=d) (x:=c) (i:=2) hN Om rfl h3 s;have t3:=fun s=>all_step (N:=N) (Y:=Y) (a:=a) (b:=b) (c:=c) (d:=d) (x:=d) (i:=3) hN Om rfl h4 s
 have t4: ∀s:σ,F_100 N Y a b c d s ((4:Nat):Int)=some (.inr (.inl s)):=fun s=>by
  unfold F_100;rw[if_neg Sm]
 have key: ∀s,iterO (M+5) (fun s=>F_100 N Y a b c d s.1 s.2) (s,((0:Nat):Int))=foldY Y (els (a,b,c,d)) s >>= fun q=>if q.2=true then some (.inl q.1)else some (.inr (q.1,false)):=by
  intro s;rw[els_eq,foldY_append];simp only[iterO,t0,bind]
  cases foldY Y ((bits a).map (64*0+ ·)) s with
  |none=>rfl
  |some q=>
    simp only[Option.bind_some];by_cases hq:q.2=true
    ·simp only[hq,if_true];rw[foldY_append];simp only[t1,bind]
     cases foldY Y ((bits b).map (64*1+ ·)) q.1 with
     |none=>rfl
     |some q=>
       simp only[Option.bind_some];by_cases hq:q.2=true
       ·simp only[hq,if_true];rw[foldY_append];simp only[t2,bind]
        cases foldY Y ((bits c).map (64*2+ ·)) q.1 with
        |none=>rfl
        |some q=>
          simp only[Option.bind_some];by_cases hq:q.2=true
          ·simp only[hq,if_true];simp only[t3,bind]
           cases foldY Y ((bits d).map (64*3+ ·)) q.1 with
           |none=>rfl
           |some q=>
             simp only[Option.bind_some];by_cases hq:q.2=true
             ·simp only[hq,if_true,t4]
             simp[hq]
          simp[hq]
       simp[hq]
    simp[hq]
 unfold F_30;have:=key s;rw[←hM,show((0:Nat):Int)=0 from rfl]at this;rw[this];simp only[bind]
 cases foldY Y (els (a,b,c,d)) s with
 |none=>rfl
 |some q=>
   rcases q with⟨q1,q2⟩;cases q2<;>rfl
def sleast(s:Q4):Int:=match els s with| []=> -1|c::_=>(c:Int)
theorem sleast_spec{a b c d:Nat}(hN:70≤N)(h:S64 (a,b,c,d)):F_150 N a b c d=some (sleast (a,b,c,d)):=by
 unfold F_150 F_99 F_18;rw[if_neg (by decide)];simp only[bind,Option.bind_some];rw[if_neg (by decide),all_spec hN h];unfold sleast
 cases els (a,b,c,d)with
 |nil=>rfl
 |cons c l=>rfl
end
open Go Go.Eng
set_option maxRecDepth 100000
abbrev T4:=Int×Int×Int×Int
def Wd4(t:T4):Prop:=Wd t.1∧Wd t.2.1∧Wd t.2.2.1∧Wd t.2.2.2
def tb(t:T4)(c:Nat):Bool:=tst t (c:Int)
def qI(s:Q4):T4:=((s.1:Int),(s.2.1:Int),(s.2.2.1:Int),(s.2.2.2:Int))
def qN(t:T4):Q4:=(t.1.toNat,t.2.1.toNat,t.2.2.1.toNat,t.2.2.2.toNat)
theorem qI_qN{t:T4}(h:Wd4 t):qI (qN t)=t:=by
 obtain⟨a,b,c,d⟩:=t;obtain⟨⟨h1,_⟩,⟨h2,_⟩,⟨h3,_⟩,⟨h4,_⟩⟩:=h;simp only at h1 h2 h3 h4;simp only[qI,qN,Int.toNat_of_nonneg h1,Int.toNat_of_nonneg h2,Int.toNat_of_nonneg h3,Int.toNat_of_nonneg h4]
theorem qN_64{t:T4}(h:Wd4 t):S64 (qN t):=by
 obtain⟨⟨h1,g1⟩,⟨h2,g2⟩,⟨h3,g3⟩,⟨h4,g4⟩⟩:=h;exact⟨by show t.1.toNat<_;omega,by show t.2.1.toNat<_;omega,by show t.2.2.1.toNat<_;omega,by show t.2.2.2.toNat<_;omega⟩
theorem qI_wd{s:Q4}(h:S64 s):Wd4 (qI s):=by
 obtain⟨h1,h2,h3,h4⟩:=h;refine⟨⟨?_,?_⟩,⟨?_,?_⟩,⟨?_,?_⟩,⟨?_,?_⟩⟩<;>simp only[qI]<;>omega
theorem four{n:Nat}(h:n<4):n=0∨n=1∨n=2∨n=3:=by omega
theorem tb_qI{s:Q4}{c:Nat}(hc:c<256):tb (qI s) c=bs s c:=by
 unfold tb tst bs;rw[Int.toNat_natCast];rcases four (show c/64<4 by omega)with h|h|h|h<;>rw[h]<;>simp[wds,qI,wd]
theorem tb_qN{t:T4}(h:Wd4 t){c:Nat}(hc:c<256):tb t c=bs (qN t) c:=by
 rw[←tb_qI hc,qI_qN h]
theorem bs_ext{s s':Q4}(h:S64 s)(h':S64 s')(he: ∀c,c<256→bs s c=bs s' c):s=s':=by
 have key: ∀i,i<4→wd s i=wd s' i:=by
  intro i hi;apply Nat.eq_of_testBit_eq;intro j;by_cases hj:j<64
  ·have:=he (64*i+j) Om;unfold bs at this;rw[show(64*i+j)/64=i by omega,show(64*i+j) %64=j by omega]at this;exact this
  have e: ∀x:Nat,x<18446744073709551616→x.testBit j=false:=fun x hx=>
   Nat.testBit_lt_two_pow (Nat.lt_of_lt_of_le (show x<2^64 by simpa using hx) (Nat.pow_le_pow_right Om Om))
  rw[e _ (wd_lt h i),e _ (wd_lt h' i)]
 have k0:=key 0 Om;have k1:=key 1 Om;have k2:=key 2 Om;have k3:=key 3 Om;obtain⟨a,b,c,d⟩:=s;obtain⟨a',b',c',d'⟩:=s';simp only[wd]at k0 k1 k2 k3;simp at k0 k1 k2 k3;rw[k0,k1,k2,k3]
theorem tb_ext{t t':T4}(h:Wd4 t)(h':Wd4 t')(he: ∀c,c<256→tb t c=tb t' c):t=t':=by
 rw[←qI_qN h,←qI_qN h',bs_ext (qN_64 h) (qN_64 h') fun c hc=>by rw[←tb_qN h hc,←tb_qN h' hc,he c hc]]
theorem wd4_zero:Wd4 (0,0,0,0):=by refine⟨⟨?_,?_⟩,⟨?_,?_⟩,⟨?_,?_⟩,⟨?_,?_⟩⟩<;>simp
theorem tb_zero{c:Nat}:tb (0,0,0,0) c=false:=by
 unfold tb tst
 have: ∀i,(wds (0,0,0,0)).getD i 0=0:=by
  intro i
  match i with
  |0=>rfl
  |1=>rfl
  |2=>rfl
  |3=>rfl
  |_+4=>rfl
 rw[this];simp
def nz(t:T4):Bool:= !(([t.1,t.2.1,t.2.2.1,t.2.2.2]:LI)==([0,0,0,0]:LI))
theorem nz_iff{t:T4}(h:Wd4 t):nz t=true↔ ∃c,c<256∧tb t c=true:=by
 constructor
 ·intro hn;refine Classical.byContradiction fun hc=>?_
  have e:t=(0,0,0,0):=tb_ext h wd4_zero fun c hc'=>by
   rw[tb_zero]
   cases hb:tb t c with
   |false=>rfl
   |true=>exact absurd ⟨c,hc',hb⟩ hc
  rw[e]at hn;simp[nz]at hn
 rintro⟨c,hc,hb⟩;obtain⟨a,b,c',d⟩:=t;unfold nz
 cases he:([a,b,c',d]:LI)== [0,0,0,0]with
 |false=>simp
 |true=>
   have:=eq_of_beq he;simp only[List.cons.injEq,and_true]at this;obtain⟨rfl,rfl,rfl,rfl⟩:=this;rw[tb_zero]at hb;cases hb
def qand(s s':Q4):Q4:=(s.1&&&s'.1,s.2.1&&&s'.2.1,s.2.2.1&&&s'.2.2.1,s.2.2.2&&&s'.2.2.2)
def qnot(s:Q4):Q4:=(nt s.1,nt s.2.1,nt s.2.2.1,nt s.2.2.2)
theorem qand_64{s s':Q4}(h:S64 s):S64 (qand s s'):=by
 obtain⟨h1,h2,h3,h4⟩:=h;exact⟨Nat.lt_of_le_of_lt Nat.and_le_left h1,Nat.lt_of_le_of_lt Nat.and_le_left h2,Nat.lt_of_le_of_lt Nat.and_le_left h3,Nat.lt_of_le_of_lt Nat.and_le_left h4⟩
theorem qnot_64(s:Q4):S64 (qnot s):=⟨nt_lt _,nt_lt _,nt_lt _,nt_lt _⟩
theorem bs_and{s s':Q4}{c:Nat}(hc:c<256):bs (qand s s') c=(bs s c&&bs s' c):=by
 unfold bs;rcases four (show c/64<4 by omega)with h|h|h|h<;>rw[h]<;>simp[wd,qand,Nat.testBit_and]
theorem bs_not{s:Q4}(h:S64 s){c:Nat}(hc:c<256):bs (qnot s) c= !bs s c:=by
 unfold bs;have hj:c %64<64:=by omega
 obtain⟨h1,h2,h3,h4⟩:=h;rcases four (show c/64<4 by omega)with h|h|h|h<;>rw[h]<;>simp[wd,qnot]
 ·exact nt_bit h1 hj
 ·exact nt_bit h2 hj
 ·exact nt_bit h3 hj
 exact nt_bit h4 hj
def tand(t t':T4):T4:=qI (qand (qN t) (qN t'))
def tsub(t t':T4):T4:=qI (qand (qN t) (qnot (qN t')))
def tall:T4:=qI (qnot (0,0,0,0))
theorem tand_wd{t t':T4}(h:Wd4 t):Wd4 (tand t t'):=qI_wd (qand_64 (qN_64 h))
theorem tsub_wd{t t':T4}(h:Wd4 t):Wd4 (tsub t t'):=qI_wd (qand_64 (qN_64 h))
theorem tall_wd:Wd4 tall:=qI_wd (qnot_64 _)
theorem tb_and{t t':T4}(h:Wd4 t)(h':Wd4 t'){c:Nat}(hc:c<256):tb (tand t t') c=(tb t c&&tb t' c):=by
 rw[tand,tb_qI hc,bs_and hc,tb_qN h hc,tb_qN h' hc]
theorem tb_sub{t t':T4}(h:Wd4 t)(h':Wd4 t'){c:Nat}(hc:c<256):tb (tsub t t') c=(tb t c&& !tb t' c):=by
 rw[tsub,tb_qI hc,bs_and hc,bs_not (qN_64 h') hc,tb_qN h hc,tb_qN h' hc]
theorem tb_all{c:Nat}(hc:c<256):tb tall c=true:=by
 rw[tall,tb_qI hc,bs_not ⟨by decide,by decide,by decide,by decide⟩ hc];unfold bs wd;simp
section
variable {N:Nat}
theorem tnot_spec{t:T4}(hN:5≤N)(h:Wd4 t):F_39 N t.1 t.2.1 t.2.2.1 t.2.2.2=some (qI (qnot (qN t))):=by
 have:=not_spec (N:=N) hN (qN_64 h);rw[←qI_qN h];exact this
theorem tand_spec{t t':T4}(hN:5≤N)(h:Wd4 t)(h':Wd4 t'):F_36 N t.1 t.2.1 t.2.2.1 t.2.2.2 t'.1 t'.2.1 t'.2.2.1 t'.2.2.2=some (tand t t'):=by
 have:=and_spec (N:=N) hN (qN_64 h) (qN_64 h')
 conv=>lhs;rw[←qI_qN h,←qI_qN h']
 exact this
theorem tsub_spec{t t':T4}(hN:5≤N)(h:Wd4 t)(h':Wd4 t'):F_202 N t.1 t.2.1 t.2.2.1 t.2.2.2 t'.1 t'.2.1 t'.2.2.1 t'.2.2.2=some (tsub t t'):=by
 unfold F_202;rw[tnot_spec hN h'];have:=and_spec (N:=N) hN (qN_64 h) (qnot_64 (qN t'))
 have e:F_36 N t.1 t.2.1 t.2.2.1 t.2.2.2 (qI (qnot (qN t'))).1 (qI (qnot (qN t'))).2.1 (qI (qnot (qN t'))).2.2.1 (qI (qnot (qN t'))).2.2.2=some (tsub t t'):=by
  conv=>lhs;rw[←qI_qN h]
  exact this
 simp only[bind,Option.bind_some];rw[e];rfl
theorem tall_spec(hN:5≤N):F_201 N=some tall:=by
 unfold F_201;have:=tnot_spec (N:=N) (t:=(0,0,0,0)) hN wd4_zero;simp only at this;rw[this];rfl
def tl(t:T4):Int:=sleast (qN t)
theorem tl_spec{t:T4}(hN:70≤N)(h:Wd4 t):F_150 N t.1 t.2.1 t.2.2.1 t.2.2.2=some (tl t):=by
 have:=sleast_spec (N:=N) hN (qN_64 h)
 conv=>lhs;rw[←qI_qN h]
 exact this
end
theorem filter_head{p:Nat→Bool}{n k:Nat}{l:List Nat}(h:(List.range n).filter p=k::l):k<n∧p k=true∧ ∀j,j<k→p j=false:=by
 have hm:k∈(List.range n).filter p:=by rw[h];simp
 have hk:=List.mem_filter.1 hm;refine⟨List.mem_range.1 hk.1,hk.2,fun j hj=>?_⟩
 cases hp:p j with
 |false=>rfl
 |true=>
   have hjm:j∈(List.range n).filter p:=List.mem_filter.2 ⟨List.mem_range.2 (by have:=List.mem_range.1 hk.1;omega),hp⟩;have hs:((List.range n).filter p).Pairwise (· < ·):=List.Pairwise.filter _ List.pairwise_lt_range;rw[h]at hjm hs;rcases List.mem_cons.1 hjm with e|hjm
   ·omega
   have:=(List.pairwise_cons.1 hs).1 j hjm;omega
theorem tl_low{t:T4}(h:Wd4 t)(hn: ∃c,c<256∧tb t c=true): ∃k:Nat,tl t=(k:Int)∧k<256∧tb t k=true∧ ∀j,j<k→tb t j=false:=by
 unfold tl sleast
 cases he:els (qN t)with
 |nil=>
   exfalso;obtain⟨c,hc,hb⟩:=hn;have:c∈els (qN t):=mem_els.2 ⟨hc,by rw[←tb_qN h hc];exact hb⟩;rw[he]at this;cases this
 |cons k l=>
   obtain⟨h1,h2,h3⟩:=filter_head he;exact⟨k,rfl,h1,by rw[tb_qN h h1];exact h2,fun j hj=>by rw[tb_qN h Om];exact h3 j hj⟩
open Go Go.Eng Go.Sort Go.Proofs
set_option maxRecDepth 100000
def alk(T:List T4)(c c':Nat):Prop:= ∀t∈T,tb t c=tb t c'
theorem alk.symm{T:List T4}{c c':Nat}(h:alk T c c'):alk T c' c:=fun t ht=>(h t ht).symm
theorem alk.trans{T:List T4}{a b c:Nat}(h:alk T a b)(h':alk T b c):alk T a c:=fun t ht=>(h t ht).trans (h' t ht)
theorem alk_snoc{T:List T4}{z:T4}{c c':Nat}:alk (T++ [z]) c c'↔alk T c c'∧tb z c=tb z c':=
 ⟨fun h=>⟨fun t ht=>h t (by simp[ht]),h z Sm⟩,fun h t ht=>by
  rcases List.mem_append.1 ht with h1|h1
  ·exact h.1 t h1
  rw[List.mem_singleton]at h1;subst h1;exact h.2⟩
structure PInv(T:List T4)(ps:List T4):Prop where
 wd: ∀p∈ps,Wd4 p
 ne: ∀p∈ps,∃c,c<256∧tb p c=true
 cov: ∀c,c<256→ ∃p∈ps,tb p c=true
 cls: ∀p∈ps,∀c,c<256→ ∀c',c'<256→tb p c=true→(tb p c'=true↔alk T c c')
 dis:ps.Pairwise fun p q=> ∀c,c<256→ ¬(tb p c=true∧tb q c=true)
theorem PInv.nil:PInv [] [tall] where
 wd p hp:=by rw[List.mem_singleton]at hp;subst hp;exact tall_wd
 ne p hp:=by rw[List.mem_singleton]at hp;subst hp;exact⟨0,by omega,tb_all Om⟩
 cov c hc:=⟨tall,by simp,tb_all hc⟩
 cls p hp c _ c' hc' _:=by
  rw[List.mem_singleton]at hp;subst hp;exact⟨fun _ t ht=>(nomatch ht),fun _=>tb_all hc'⟩
 dis:=by simp
theorem PInv.len{T ps:List T4}(h:PInv T ps):ps.length≤256:=by
 have hn:(ps.map tl).Nodup:=by
  refine List.pairwise_map.2 ?_;refine h.dis.imp_of_mem fun{p q} hp hq hd e=>?_;obtain⟨k,hk,k1,k2,_⟩:=tl_low (h.wd p hp) (h.ne p hp);obtain⟨m,hm,m1,m2,_⟩:=tl_low (h.wd q hq) (h.ne q hq);have:k=m:=by omega
  subst this;exact hd k k1 ⟨k2,m2⟩
 have:=nodup_len hn (m:=(List.range 256).map fun n:Nat=>(n:Int)) (fun x hx=>by
  obtain⟨p,hp,rfl⟩:=List.mem_map.1 hx;obtain⟨k,hk,k1,_⟩:=tl_low (h.wd p hp) (h.ne p hp);exact List.mem_map.2 ⟨k,List.mem_range.2 k1,hk.symm⟩)
 simpa using this
def split2(z p:T4):List T4:=[tand p z,tsub p z].filter nz
def splitP(z:T4)(ps:List T4):List T4:=ps.flatMap (split2 z)
theorem mem_split2{z p q:T4}(hz:Wd4 z)(hp:Wd4 p)(h:q∈split2 z p):Wd4 q∧(∃c,c<256∧tb q c=true)∧ ∃b:Bool,∀c,c<256→tb q c=(tb p c&&(tb z c==b)):=by
 unfold split2 at h;obtain⟨h1,h2⟩:=List.mem_filter.1 h;rcases List.mem_cons.1 h1 with rfl|h1
 ·exact⟨tand_wd hp,(nz_iff (tand_wd hp)).1 h2,true,fun c hc=>by rw[tb_and hp hz hc];cases tb p c<;>cases tb z c<;>rfl⟩
 rw[List.mem_singleton]at h1;subst h1;exact⟨tsub_wd hp,(nz_iff (tsub_wd hp)).1 h2,false,fun c hc=>by rw[tb_sub hp hz hc];cases tb p c<;>cases tb z c<;>rfl⟩
theorem PInv.step{T ps:List T4}{z:T4}(h:PInv T ps)(hz:Wd4 z):PInv (T++ [z]) (splitP z ps) where
 wd q hq:=by
  obtain⟨p,hp,hq⟩:=List.mem_flatMap.1 hq;exact(mem_split2 hz (h.wd p hp) hq).1
 ne q hq:=by
  obtain⟨p,hp,hq⟩:=List.mem_flatMap.1 hq;exact(mem_split2 hz (h.wd p hp) hq).2.1
 cov c hc:=by
  obtain⟨p,hp,hb⟩:=h.cov c hc;have hw:=h.wd p hp
  cases hzc:tb z c with
  |true=>
    have hb':tb (tand p z) c=true:=by rw[tb_and hw hz hc,hb,hzc];rfl
    exact⟨tand p z,List.mem_flatMap.2 ⟨p,hp,List.mem_filter.2 ⟨by simp,(nz_iff (tand_wd hw)).2 ⟨c,hc,hb'⟩⟩⟩,hb'⟩
  |false=>
    have hb':tb (tsub p z) c=true:=by rw[tb_sub hw hz hc,hb,hzc];rfl
    exact⟨tsub p z,List.mem_flatMap.2 ⟨p,hp,List.mem_filter.2 ⟨by simp,(nz_iff (tsub_wd hw)).2 ⟨c,hc,hb'⟩⟩⟩,hb'⟩
 cls q hq c hc c' hc' hb:=by
  obtain⟨p,hp,hq⟩:=List.mem_flatMap.1 hq;obtain⟨_,_,b,hbq⟩:=mem_split2 hz (h.wd p hp) hq;rw[hbq c hc,Bool.and_eq_true,beq_iff_eq]at hb;rw[hbq c' hc',Bool.and_eq_true,beq_iff_eq,alk_snoc,h.cls p hp c hc c' hc' hb.1,hb.2];constructor
  ·rintro⟨h1,h2⟩;exact⟨h1,h2.symm⟩
  rintro⟨h1,h2⟩;exact⟨h1,h2.symm⟩
 dis:=by
  unfold splitP;rw[List.pairwise_flatMap];refine⟨fun p hp=>?_,?_⟩
  ·unfold split2;refine List.Pairwise.filter _ ?_;refine List.pairwise_cons.2 ⟨fun q hq c hc ⟨h1,h2⟩=>?_,by simp⟩;rw[List.mem_singleton]at hq;subst hq;rw[tb_and (h.wd p hp) hz hc,Bool.and_eq_true]at h1;rw[tb_sub (h.wd p hp) hz hc,h1.2]at h2;simp at h2
  refine h.dis.imp_of_mem fun{p q} hp hq hd x hx y hy c hc ⟨h1,h2⟩=>?_;obtain⟨_,_,b,hbx⟩:=mem_split2 hz (h.wd p hp) hx;obtain⟨_,_,b',hby⟩:=mem_split2 hz (h.wd q hq) hy;rw[hbx c hc,Bool.and_eq_true]at h1;rw[hby c hc,Bool.and_eq_true]at h2;exact hd c hc ⟨h1.1,h2.1⟩
theorem PInv.skip{T ps:List T4}{z:T4}(h:PInv T ps)(hz:z∈T):PInv (T++ [z]) ps where
 wd:=h.wd
 ne:=h.ne
 cov:=h.cov
 cls p hp c hc c' hc' hb:=by
  rw[h.cls p hp c hc c' hc' hb,alk_snoc];exact⟨fun h1=>⟨h1,h1 z hz⟩,fun h1=>h1.1⟩
 dis:=h.dis
theorem mget_mset_ne{α β:Type}[BEq α](hlaw: ∀a b:α,(a==b)=true↔a=b)(m:List (α×β))(a k:α)(b:β)(hk:k≠a):mget (mset m a b) k=mget m k:=by
 unfold mget mset
 congr 1
 cases hi:m.findIdx? fun e=>e.1==a with
 |none=>
   rw[List.find?_append]
   have:(a==k)=false:=by
    cases h:a==k with
    |false=>rfl
    |true=>exact absurd ((hlaw _ _).1 h).symm hk
   simp[this]
 |some i=>
   obtain⟨h1,h2,h3⟩:=List.findIdx?_eq_some_iff_getElem.1 hi;have ha:=(hlaw _ _).1 h2
   have hka:(a==k)=false:=by
    cases h:a==k with
    |false=>rfl
    |true=>exact absurd ((hlaw _ _).1 h).symm hk
   clear hi h3
   induction m generalizing i with
   |nil=>simp at h1
   |cons e m ih=>
     cases i with
     |zero=>
       simp only[List.getElem_cons_zero]at ha;simp[ha,hka]
     |succ i=>
       simp only[List.modify_succ_cons,List.find?_cons]
       cases h:e.1==k with
       |true=>rfl
       |false=>
         exact ih i (by simpa using h1) (by simpa using h2) (by simpa using ha)
theorem wds_inj{t t':T4}(h:wds t=wds t'):t=t':=by
 obtain⟨a,b,c,d⟩:=t;obtain⟨a',b',c',d'⟩:=t';simp only[wds,List.cons.injEq,and_true]at h;obtain⟨rfl,rfl,rfl,rfl⟩:=h;rfl
section
variable {N:Nat}{S:List Stt}{E:LI}
theorem bytes_l2{a b:T4}{out:List T4}(hN:4294967296≤N)(ho:out.length≤1000):
 iterO N (fun s:Int×List T4=>F_95 N a.1 a.2.1 a.2.2.1 a.2.2.2 b.1 b.2.1 b.2.2.1 b.2.2.2 s.1 s.2) (0,out)=some (out++ [a,b].filter nz):=by
 obtain⟨M,rfl⟩: ∃m,N=m+3:=⟨N-3,by omega⟩
 have step: ∀(x:T4) (i:Nat) (o:List T4),([a,b]:List T4)[i]? =some x→i<2→o.length≤1001→
  F_95 (M+3) a.1 a.2.1 a.2.2.1 a.2.2.2 b.1 b.2.1 b.2.2.1 b.2.2.2 (i:Int) o=some (.inl (((i+1:Nat):Int),o++ [x].filter nz)):=by
  intro x i o hx hi ho;have hx':idx [(a.1,a.2.1,a.2.2.1,a.2.2.2),(b.1,b.2.1,b.2.2.1,b.2.2.2)] (i:Int)=some x:=idx_of hx;unfold F_95;rw[if_pos (by simp;omega),hx'];simp only[bind,Option.bind_some,F_182];rw[w64_succ Om]
  cases h:nz x with
  |true=>
    have h':(!(([x.1,x.2.1,x.2.2.1,x.2.2.2]:LI)==([0,0,0,0]:LI)))=true:=h;rw[if_pos h',app_eq (by simp;omega)];simp[h]
  |false=>
    have h':(!(([x.1,x.2.1,x.2.2.1,x.2.2.2]:LI)==([0,0,0,0]:LI)))=false:=h;rw[h'];simp[h]
 have h0:=step a 0 out rfl Om Om
 have h1:=step b 1 (out++ [a].filter nz) rfl Om (by
  have:=List.length_filter_le nz [a];simp only[List.length_append,List.length_cons,List.length_nil]at this ⊢;omega)
 have h2: ∀o,F_95 (M+3) a.1 a.2.1 a.2.2.1 a.2.2.2 b.1 b.2.1 b.2.2.1 b.2.2.2 ((2:Nat):Int) o=some (.inr o):=fun o=>by unfold F_95;rw[if_neg Sm]
 simp only[iterO];rw[show(0:Int)=((0:Nat):Int)from rfl,h0];simp only;rw[h1];simp only;rw[h2,List.append_assoc,←List.filter_append];rfl
theorem bytes_l1{x:Stt}{ps:List T4}(hN:4294967296≤N)(hz:Wd4 x.2.1)(hp: ∀p∈ps,Wd4 p)(hl:ps.length≤256):
 iterO N (fun s:Int×List T4=>F_94 N ps x s.1 s.2) (0,[])=some (splitP x.2.1 ps):=by
 have e:=loop_fold (f:=fun s:Int×List T4=>F_94 N ps x s.1 s.2) (fun i (o:List T4)=>((i:Int),o)) id ps (fun o p=>o++split2 x.2.1 p) (fun i o=>o.length≤2*i) (N:=N) (s:=[]) Om
  Sm
  (fun i p o hx ho=>by
   have hi:=lt_len hx;have hw:=hp p (List.mem_of_getElem? hx);refine⟨?_,?_⟩
   ·simp only;unfold F_94;simp only[show((i:Int)<(ps.length:Int)) by omega,decide_true,if_true,idx_of hx,bind,Option.bind_some];rw[tand_spec Om hw hz];simp only[Option.bind_some];rw[tsub_spec Om hw hz];simp only[Option.bind_some];rw[bytes_l2 hN Om];simp only[Option.bind_some];rw[w64_succ Om];rfl
   have:=List.length_filter_le nz [tand p x.2.1,tsub p x.2.1];simp only[split2,List.length_append,List.length_cons,List.length_nil]at this ⊢;omega)
  (fun o _=>by simp only;unfold F_94;simp)
 rw[show iterO N (fun s:Int×List T4=>F_94 N ps x s.1 s.2) (0,[])=_ from e]
 have key: ∀(l:List T4) (o:List T4),l.foldl (fun o p=>o++split2 x.2.1 p) o=o++l.flatMap (split2 x.2.1):=by
  intro l
  induction l with
  |nil=>intro o;simp
  |cons p l ih=>intro o;simp[ih]
 rw[key];rfl
def sets(S:List Stt):List T4:=S.map (·.2.1)
theorem bytes_l0(hN:4294967296≤N)(hw:SetW S)(hl:S.length<4294967296):
 ∃ps,iterO N (fun s:Int×List T4×List (LI×Int)=>F_93 N S s.1 s.2.1 s.2.2) (0,[tall],[])=some ps∧PInv (sets S) ps:=by
 obtain⟨s',h1,h2⟩:=loop_inv (f:=fun s:Int×List T4×List (LI×Int)=>F_93 N S s.1 s.2.1 s.2.2) (fun i (s:List T4×List (LI×Int))=>((i:Int),s.1,s.2)) (fun s=>s.1) S
  (fun i s=>PInv (sets (S.take i)) s.1∧ ∀k,(mget s.2 k).getD 0>0→ ∃t∈sets (S.take i),wds t=k) (N:=N) (s:=([tall],[])) Om
  ⟨by simpa[sets]using PInv.nil,fun k hk=>by simp[mget]at hk⟩
  (fun i x s hx ⟨hI,hM⟩=>by
   have hi:=lt_len hx;have hz:Wd4 x.2.1:=hw x (List.mem_of_getElem? hx)
   have ht:sets (S.take (i+1))=sets (S.take i)++ [x.2.1]:=by
    unfold sets;rw[List.take_add_one,hx];simp
   obtain⟨ps,m⟩:=s;simp only at hI hM ⊢;unfold F_93;simp only[show((i:Int)<(S.length:Int)) by omega,decide_true,if_true,idx_of hx,bind,Option.bind_some];rw[w64_succ Om,ht];by_cases hc:(mget m [x.2.1.1,x.2.1.2.1,x.2.1.2.2.1,x.2.1.2.2.2]).getD 0>0
   ·refine⟨(ps,m),by simp only[hc,decide_true,if_true,Option.bind_some],?_,fun k hk=>?_⟩
    ·obtain⟨t,ht1,ht2⟩:=hM _ hc;obtain rfl:t=x.2.1:=wds_inj ht2;exact hI.skip ht1
    obtain⟨t,h1,h2⟩:=hM k hk;exact⟨t,by simp[h1],h2⟩
   refine⟨(splitP x.2.1 ps,mset (mset m [x.2.1.1,x.2.1.2.1,x.2.1.2.2.1,x.2.1.2.2.2] ((mget m [x.2.1.1,x.2.1.2.1,x.2.1.2.2.1,x.2.1.2.2.2]).getD 0)) [x.2.1.1,x.2.1.2.1,x.2.1.2.2.1,x.2.1.2.2.2] (w64 ((mget m [x.2.1.1,x.2.1.2.1,x.2.1.2.2.1,x.2.1.2.2.2]).getD 0+1))),by simp only[hc,decide_false,Bool.false_eq_true,if_false,bytes_l1 hN hz hI.wd hI.len,Option.bind_some],hI.step hz,fun k hk=>?_⟩;by_cases hk':k= [x.2.1.1,x.2.1.2.1,x.2.1.2.2.1,x.2.1.2.2.2]
   ·exact⟨x.2.1,by simp,hk'.symm⟩
   simp only at hk;rw[mget_mset_ne (fun a b=>beq_iff_eq) _ _ _ _ hk',mget_mset_ne (fun a b=>beq_iff_eq) _ _ _ _ hk']at hk;obtain⟨t,h1,h2⟩:=hM k hk;exact⟨t,by simp[h1],h2⟩)
  (fun s _=>by simp only;unfold F_93;simp)
 refine⟨s'.1,h1,?_⟩;have:=h2.1;rw[List.take_length]at this;exact this
end
theorem wr_wd(x:T4):Wd4 (wr4 x):=by
 have: ∀n:Int,Wd (IntKind.u64.wrap n):=by
  intro n;unfold Wd;simp only[IntKind.wrap,IntKind.bits,IntKind.signed];simp;omega
 exact⟨this _,this _,this _,this _⟩
theorem wr_id{x:T4}(h:Wd4 x):wr4 x=x:=by
 obtain⟨⟨h1,g1⟩,⟨h2,g2⟩,⟨h3,g3⟩,⟨h4,g4⟩⟩:=h;unfold wr4;rw[wrapU64 h1 Om,wrapU64 h2 Om,wrapU64 h3 Om,wrapU64 h4 Om]
def cmpI(a b:Int):Int:=if a<b then-1 else if a>b then 1 else 0
section
variable {N:Nat}
theorem cmp_int(a b:Int):F_198 N a b=some (cmpI a b):=by
 unfold F_198 F_112 cmpI;by_cases h1:a<b
 ·simp[h1]
 by_cases h2:a>b<;>simp[h1,h2]
theorem bytes1_spec{a b:T4}(hN:70≤N)(ha:Wd4 a)(hb:Wd4 b):F_149 N a.1 a.2.1 a.2.2.1 a.2.2.2 b.1 b.2.1 b.2.2.1 b.2.2.2=some (cmpI (tl a) (tl b)):=by
 unfold F_149;rw[tl_spec hN ha];simp only[bind,Option.bind_some];rw[tl_spec hN hb];simp only[Option.bind_some,cmp_int]
abbrev cmpN(N:Nat)(a b:T4):Option Int:=F_149 N a.1 a.2.1 a.2.2.1 a.2.2.2 b.1 b.2.1 b.2.2.1 b.2.2.2
theorem cf4_eq(hN:70≤N)(x y:T4):cf4 (cmpN N) x y=cmpI (tl (wr4 x)) (tl (wr4 y)):=by
 unfold cf4;rw[show cmpN N (wr4 x) (wr4 y)=_ from bytes1_spec hN (wr_wd x) (wr_wd y)];rfl
theorem lt_eq(hN:70≤N)(x y:T4):ltOf (cf4 (cmpN N)) x y=decide (tl (wr4 x)<tl (wr4 y)):=by
 unfold ltOf;rw[cf4_eq hN];unfold cmpI;by_cases h1:tl (wr4 x)<tl (wr4 y)
 ·simp[h1]
 by_cases h2:tl (wr4 x)>tl (wr4 y)<;>simp[h1,h2]
theorem swo4(hN:70≤N):SWO (ltOf (cf4 (cmpN N))) where
 irrefl x:=by rw[lt_eq hN];simp
 trans x y z h1 h2:=by rw[lt_eq hN]at*;simp at*;omega
 ntrans x y z h1 h2:=by rw[lt_eq hN]at*;simp at*;omega
theorem sort_spec{ps:List T4}(hN:70≤N)(hw: ∀p∈ps,Wd4 p)(h0:ps≠ [])(hl:ps.length≤256):
 ∃l,sortF (fun a b=>F_149 N a.1 a.2.1 a.2.2.1 a.2.2.2 b.1 b.2.1 b.2.2.1 b.2.2.2) ps=some l∧l.Perm ps∧l.Pairwise fun p q=>tl p≤tl q:=by
 have hc:CanSort (cmpN N) ps:=⟨fun x hx=>wr_id (hw x hx),h0,by omega,fun x y=>by rw[cf4_eq hN];exact bytes1_spec hN (wr_wd x) (wr_wd y),swo4 hN⟩;obtain⟨⟨h1,h2,h3⟩,h4⟩:=pdq_sorts (ltOf (cf4 (cmpN N))) (swo4 hN) ps.toArray 0 ps.toArray.size (Lib.bitLen ps.toArray.size) true true (Nat.zero_le _) (Nat.le_refl _) (Or.inl rfl)
 have e:sortF (cmpN N) ps=some ((pdq (ltOf (cf4 (cmpN N))) ps.toArray 0 ps.toArray.size (Lib.bitLen ps.toArray.size) true true).toList.map wr4):=by
  unfold sortF;rw[if_pos hc]
 refine⟨_,e,?_⟩;generalize pdq (ltOf (cf4 (cmpN N))) ps.toArray 0 ps.toArray.size (Lib.bitLen ps.toArray.size) true true=d at h1 h2 h3 h4
 have hp:d.toList.Perm ps:=by
  rw[←h1]at h3;simp only[Array.extract_size]at h3;rw[h1]at h3;simpa using h3
 have hm:d.toList.map wr4=d.toList:=by
  conv=>rhs;rw[←List.map_id d.toList]
  exact List.map_congr_left fun x hx=>wr_id (hw x (hp.mem_iff.1 hx))
 rw[hm];refine⟨hp,?_⟩;rw[List.pairwise_iff_getElem];intro i j hi hj hij;have:=h4 i j (Nat.zero_le _) hij (by simpa[←h1]using hj);rw[lt_eq hN]at this;have gi:d[i]! =d.toList[i]:=by rw[getElem!_pos d i (by simpa using hi)];simp
 have gj:d[j]! =d.toList[j]:=by rw[getElem!_pos d j (by simpa using hj)];simp
 rw[gi,gj,wr_id (hw _ (hp.mem_iff.1 (List.getElem_mem hi))),wr_id (hw _ (hp.mem_iff.1 (List.getElem_mem hj)))]at this;simpa using this
end
theorem sorted_strict{T ps l:List T4}(h:PInv T ps)(hp:l.Perm ps)(hs:l.Pairwise fun p q=>tl p≤tl q):PInv T l∧l.Pairwise fun p q=>tl p<tl q:=by
 have hI:PInv T l:=
  {wd:=fun p hp'=>h.wd p (hp.mem_iff.1 hp')
   ne:=fun p hp'=>h.ne p (hp.mem_iff.1 hp')
   cov:=fun c hc=>(h.cov c hc).imp fun p hp'=>⟨hp.mem_iff.2 hp'.1,hp'.2⟩
   cls:=fun p hp'=>h.cls p (hp.mem_iff.1 hp')
   dis:=hp.symm.pairwise h.dis fun{p q} hd c hc ⟨a,b⟩=>hd c hc ⟨b,a⟩}
 refine⟨hI,?_⟩;have:=hs.and hI.dis;refine this.imp_of_mem fun{p q} hp' hq' ⟨h1,h2⟩=>?_;obtain⟨k,hk,k1,k2,_⟩:=tl_low (hI.wd p hp') (hI.ne p hp');obtain⟨m,hm,m1,m2,_⟩:=tl_low (hI.wd q hq') (hI.ne q hq');by_cases e:tl p=tl q
 ·exfalso;have:k=m:=by omega
  subst this;exact h2 k k1 ⟨k2,m2⟩
 omega
section
variable {N:Nat}{S:List Stt}{E:LI}
theorem nfaBytes_spec(hN:4294967296≤N)(hs:NSz S E)(hw:SetW S):
 ∃l,F_6 N S E=some l∧(rtB S E=false→l= [])∧(rtB S E=true→PInv (sets S) l∧l.Pairwise fun p q=>tl p<tl q):=by
 unfold F_6;rw[nfaRight_spec hN hs];simp only[bind,Option.bind_some]
 cases hr:rtB S E with
 |false=>exact⟨[],rfl,fun _=>rfl,fun h=>by cases h⟩
 |true=>
   simp only[Bool.not_true,Bool.false_eq_true,if_false];rw[tall_spec Om];simp only[Option.bind_some];obtain⟨ps,h1,h2⟩:=bytes_l0 hN hw hs.a;have h1':iterO N (fun s=>F_93 N S s.1 s.2.1 s.2.2) (0,[(tall.1,tall.2.1,tall.2.2.1,tall.2.2.2)],([]:List (LI×Int)))=some ps:=h1;rw[h1'];simp only[Option.bind_some]
   have h0:ps≠ []:=by
    obtain⟨p,hp,_⟩:=h2.cov 0 Om;rintro rfl;cases hp
   obtain⟨l,g1,g2,g3⟩:=sort_spec (N:=N) Om h2.wd h0 h2.len;rw[g1];refine⟨l,rfl,fun h=>(by cases h),fun _=>sorted_strict h2 g2 g3⟩
end
open Go Go.Eng
set_option maxRecDepth 100000
abbrev Row:=List Bool
structure MR(n:Nat)(m:LI)(o:Row):Prop where
 mr:MkR n m
 hi: ∀j,n≤j→has m j=false
 len:o.length=n
 eq: ∀j,j<n→has m j=bo o j
def kb4(x:Int):LI:=[IntKind.wrap .u8 (shrI .i64 x 24),IntKind.wrap .u8 (shrI .i64 x 16),IntKind.wrap .u8 (shrI .i64 x 8),IntKind.wrap .u8 x]
def kb(L:LI):LI:=L.flatMap kb4
def keyR(o:Row):ByteArray:=bstr (kb (lst (bo o) o.length))
theorem u8_emod(x:Int):IntKind.wrap .u8 x=x %256:=by simp[IntKind.wrap,IntKind.signed,IntKind.bits]
theorem u8_rng(x:Int):0≤IntKind.wrap .u8 x∧IntKind.wrap .u8 x<256:=by rw[u8_emod];omega
theorem shr_nat(j k:Nat)(hk:k≤64):shrI .i64 (j:Int) (k:Int)=((j/2^k:Nat):Int):=by
 unfold shrI;rw[Int.fdiv_eq_ediv_of_nonneg _ (by exact Int.pow_nonneg Om)];simp[IntKind.bits,Nat.min_eq_left hk]
theorem kb4_inj{i j:Nat}(hi:i<65536)(hj:j<65536)(h:kb4 (i:Int)=kb4 (j:Int)):i=j:=by
 simp only[kb4,List.cons.injEq,and_true]at h;obtain⟨_,_,h1,h2⟩:=h;have e1:=shr_nat i 8 Om;have e2:=shr_nat j 8 Om;rw[show shrI .i64 (i:Int) 8=_ from e1,show shrI .i64 (j:Int) 8=_ from e2,u8_emod,u8_emod]at h1;rw[u8_emod,u8_emod]at h2;omega
theorem kb_inj: ∀{L M:LI},(∀x∈L,∃j:Nat,x=(j:Int)∧j<65536)→(∀x∈M,∃j:Nat,x=(j:Int)∧j<65536)→kb L=kb M→L=M
 | [],[],_,_,_=>rfl
 | [],y::M,_,_,h=>by simp[kb,kb4]at h
 |x::L,[],_,_,h=>by simp[kb,kb4]at h
 |x::L,y::M,hL,hM,h=>by
   have e:kb4 x++kb L=kb4 y++kb M:=by simpa[kb]using h
   have e1:=List.append_inj e rfl;obtain⟨i,rfl,hi⟩:=hL x Sm;obtain⟨j,rfl,hj⟩:=hM y Sm;rw[kb4_inj hi hj e1.1,kb_inj (fun z hz=>hL z (by simp[hz])) (fun z hz=>hM z (by simp[hz])) e1.2]
theorem kb_bys{L:LI}: ∀c∈kb L,0≤c∧c<256:=by
 intro c hc;obtain⟨x,_,hx⟩:=List.mem_flatMap.1 hc;simp only[kb4,List.mem_cons,List.not_mem_nil,or_false]at hx;rcases hx with rfl|rfl|rfl|rfl<;>exact u8_rng _
theorem bstr_inj'{a b:LI}(ha: ∀c∈a,0≤c∧c<256)(hb: ∀c∈b,0≤c∧c<256)(h:bstr a=bstr b):a=b:=by
 have key: ∀(l:LI) (r:ByteArray),(l.foldl (fun(r:ByteArray) n=>r.push (UInt8.ofNat n.toNat)) r).data.toList=r.data.toList++l.map fun n=>UInt8.ofNat n.toNat:=by
  intro l
  induction l with
  |nil=>simp
  |cons x l ih=>
    intro r;rw[List.foldl_cons,ih];simp[ByteArray.push]
 have e:a.map (fun n=>UInt8.ofNat n.toNat)=b.map fun n=>UInt8.ofNat n.toNat:=by
  have h1:=key a ByteArray.empty;have h2:=key b ByteArray.empty;have h3:(bstr a).data.toList=(bstr b).data.toList:=by rw[h]
  unfold bstr at h3;rw[h1,h2]at h3;simpa using h3
 clear h key
 induction a generalizing b with
 |nil=>cases b with|nil=>rfl|cons y b=>simp at e
 |cons x a ih=>
   cases b with
   |nil=>simp at e
   |cons y b=>
     simp only[List.map_cons,List.cons.injEq]at e;have h1:=ha x Sm;have h2:=hb y Sm
     have h3:x.toNat %256=y.toNat %256:=by
      have:=congrArg UInt8.toNat e.1;simpa using this
     rw[show x=y by omega,ih (fun c hc=>ha c (by simp[hc])) (fun c hc=>hb c (by simp[hc])) e.2]
theorem keyR_inj{o o':Row}(hl:o.length=o'.length)(hn:o.length≤65536)(h:keyR o=keyR o'):o=o':=by
 unfold keyR at h
 have hm: ∀(p:Row) (x:Int),p.length≤65536→x∈lst (bo p) p.length→ ∃j:Nat,x=(j:Int)∧j<65536:=fun p x hp hx=>by
  obtain⟨j,e,hj,_⟩:=mem_lstB.1 hx;exact⟨j,e,by omega⟩
 have e:=kb_inj (fun x hx=>hm o x hn hx) (fun x hx=>hm o' x Om hx) (bstr_inj' kb_bys kb_bys h);refine bo_ext hl fun j hj=>?_;have h1:(j:Int)∈lst (bo o) o.length↔(j:Int)∈lst (bo o') o'.length:=by rw[e]
 rw[mem_lstB,mem_lstB]at h1
 have e1:(∃k:Nat,(j:Int)=(k:Int)∧k<o.length∧bo o k=true)↔bo o j=true:=
  ⟨fun⟨k,a,_,b⟩=>by rw[show j=k by omega];exact b,fun b=>⟨j,rfl,hj,b⟩⟩
 have e2:(∃k:Nat,(j:Int)=(k:Int)∧k<o'.length∧bo o' k=true)↔bo o' j=true:=
  ⟨fun⟨k,a,_,b⟩=>by rw[show j=k by omega];exact b,fun b=>⟨j,rfl,by omega,b⟩⟩
 rw[e1,e2]at h1;exact Bool.eq_iff_iff.2 h1
section
variable {N:Nat}
theorem key_of{n:Nat}{m:LI}{o:Row}(hN:4294967296≤N)(h:MR n m o)(hn:n≤65536)(h0:0<n):F_48 N m (n:Int)=some (keyR o):=by
 have hlst:=lst_len (has m) n;unfold F_48;rw[list_specB hN h.mr hn h0 h.hi];simp only[bind,Option.bind_some]
 have h1:=loop_fold (f:=fun s:LI×Int=>F_147 N (lst (has m) n) s.1 s.2) (fun i (s:LI)=>(s,(i:Int))) id (lst (has m) n) (fun s x=>s++kb4 x) (fun i s=>s.length=4*i) (N:=N) (s:=[]) Om rfl
  (fun i x s hx hI=>by
   have hi:=lt_len hx;refine⟨?_,by simp[kb4];omega⟩;unfold F_147;simp only[show((i:Int)<((lst (has m) n).length:Int)) by omega,decide_true,if_true,idx_of hx,bind,Option.bind_some];rw[w64_succ Om,app_eq (by simp;omega)];rfl)
  (fun s _=>by unfold F_147;simp)
 have h2: ∀(l acc:LI),l.foldl (fun s x=>s++kb4 x) acc=acc++kb l:=by
  intro l
  induction l with
  |nil=>simp[kb]
  |cons x l ih=>intro acc;rw[List.foldl_cons,ih];simp[kb]
 rw[show iterO N (fun s:LI×Int=>F_147 N (lst (has m) n) s.1 s.2) ([],0)=_ from h1,h2];unfold keyR;rw[h.len,lst_congr (f:=has m) (g:=bo o) h.eq];rfl
theorem least'{P:Nat→Prop}: ∀{n:Nat},P n→ ∃k,k≤n∧P k∧ ∀j,j<k→ ¬P j:=by
 intro n
 induction n using Nat.strongRecOn with
 |ind n ih=>
   intro h;by_cases c: ∃j,j<n∧P j
   ·obtain⟨j,hj,hp⟩:=c;obtain⟨k,h1,h2,h3⟩:=ih j hj hp;exact⟨k,by omega,h2,h3⟩
   exact⟨n,Nat.le_refl _,h,fun j hj hp=>c ⟨j,hj,hp⟩⟩
theorem place_l1{o p:Row}(hN:4294967296≤N)(hl:p.length=o.length)(ho:o.length<4294967296):iterO N (fun s=>F_56 N o p s) 0=some (p==o):=by
 have hb: ∀i,i<o.length→F_56 N o p (i:Int)=some (if bo p i=bo o i then .inl ((i+1:Nat):Int)else .inr false):=fun i hi=>by
  unfold F_56;simp only[show((i:Int)<(o.length:Int)) by omega,decide_true,if_true,bo_idx hi,bo_idx (show i<p.length by omega),bind,Option.bind_some];rw[w64_succ Om];by_cases c:bo p i=bo o i<;>simp[c]
 by_cases c:p=o
 ·subst c;have h:=iterO_for0 (f:=fun s=>F_56 N p p s) (fun i=>(i:Int)) p.length (r:=true) (N:=N) rfl Om (fun i hi=>by rw[hb i hi];simp) (by unfold F_56;simp);rw[show iterO N (fun s=>F_56 N p p s) 0=_ from h];simp
 have: ∃k,k<o.length∧bo p k≠bo o k:=by
  apply Classical.byContradiction;intro hn;exact c (bo_ext hl fun j hj=>Classical.byContradiction fun hne=>hn ⟨j,by omega,hne⟩)
 obtain⟨q,hq⟩:=this;obtain⟨k,_,hk,hlt⟩:=least' (P:=fun k=>k<o.length∧bo p k≠bo o k) hq
 have h:=iterO_for0 (f:=fun s=>F_56 N o p s) (fun i=>(i:Int)) k (r:=false) (N:=N) rfl Om (fun i hi=>by
  have:=hlt i hi;rw[hb i Om,if_pos (Classical.byContradiction fun hne=>this ⟨by omega,hne⟩)]) (by rw[hb k hk.1,if_neg hk.2])
 rw[show iterO N (fun s=>F_56 N o p s) 0=_ from h];have:(p==o)=false:=by simp[c]
 rw[this]
theorem place_specB{os:List Row}{o:Row}(hN:4294967296≤N)(hl: ∀p∈os,p.length=o.length)(ho:o.length<4294967296)(hs:os.length<4294967296):
 F_27 N os o=some (os.idxOf o:Int):=by
 unfold F_27
 rw[loop_find os (· ==o) (fun i=>((i:Nat):Int)) Om (fun i x hx=>by
  have hi:=lt_len hx;unfold F_179;simp only[show((i:Int)<(os.length:Int)) by omega,decide_true,if_true,idx_of hx,bind,Option.bind_some];rw[show iterO N (fun s=>F_56 N o x s) 0=_ from place_l1 hN (hl x (List.mem_of_getElem? hx)) ho,w64_succ Om];rfl) (by unfold F_179;simp)]
 cases h:os.findIdx? (· ==o)with
 |none=>
   have h':=List.findIdx?_eq_none_iff.1 h;have:os.idxOf o=os.length:=List.idxOf_eq_length fun hm=>by have:=h' o hm;simp at this
   rw[this];rfl
 |some k=>
   have:os.idxOf o=k:=(List.findIdx?_eq_some_iff_findIdx_eq.1 h).2;rw[this];rfl
end
open Go Go.Eng
set_option maxRecDepth 100000
noncomputable def mkRow(n:Nat)(P:Nat→Prop):Row:=(List.range n).map fun j=> @decide (P j) (Classical.propDecidable _)
theorem mkRow_len{n:Nat}{P:Nat→Prop}:(mkRow n P).length=n:=by simp[mkRow]
theorem bo_mkRow{n:Nat}{P:Nat→Prop}{j:Nat}(hj:j<n):bo (mkRow n P) j=true↔P j:=by
 unfold bo mkRow;rw[List.getD,List.getElem?_map,List.getElem?_range hj];simp
theorem eq_mkRow{n:Nat}{P:Nat→Prop}{o:Row}(hl:o.length=n)(h: ∀j,j<n→(bo o j=true↔P j)):o=mkRow n P:=
 bo_ext (by rw[hl,mkRow_len]) fun j hj=>by rw[Bool.eq_iff_iff,h j Om,bo_mkRow Om]
noncomputable def stpR(S:List Stt)(o:Row)(c:Int):Row:=mkRow S.length fun j=>RchF S (stepL S (bo o) c) (j:Int)
noncomputable def begR(S:List Stt)(E:LI)(c:Int):Row:=mkRow S.length fun j=>RchF S (begL E c) (j:Int)
def ruR(S:List Stt)(o:Row):Int:=lrule S (bo o)
theorem stpR_len{S:List Stt}{o:Row}{c:Int}:(stpR S o c).length=S.length:=mkRow_len
theorem begR_len{S:List Stt}{E:LI}{c:Int}:(begR S E c).length=S.length:=mkRow_len
theorem stpR_alk{S:List Stt}{o:Row}{c c':Nat}(h:alk (sets S) c c'):stpR S o (c:Int)=stpR S o (c':Int):=by
 have e:stepS S (c:Int)=stepS S (c':Int):=by
  funext acc j;unfold stepS
  have:bitS S (c:Int) j=bitS S (c':Int) j:=by
   unfold bitS
   cases hj:S[j]? with
   |none=>rfl
   |some s=>
     have:=h s.2.1 (List.mem_map.2 ⟨s,List.mem_of_getElem? hj,rfl⟩);simpa[tb]using this
  rw[this]
 unfold stpR stepL;rw[e]
section
variable {N:Nat}{S:List Stt}{E:LI}
theorem wbeg_of{cond:Int}(hN:4294967296≤N)(hs:NSz S E)(h:NRt S E)(hf: ∀s∈S,s.1.length≤100):
 ∃m,F_194 N S E cond=some m∧MR S.length m (begR S E cond):=by
 obtain⟨m,e1,e2,e3,e4⟩:=wbegin_spec (cond:=cond) hN h hf;refine⟨m,?_,e2,e3,begR_len,fun j hj=>?_⟩
 ·unfold F_194;rw[nfaRight_spec hN hs,(rtB_iff S E).2 h];simp only[bind,Option.bind_some,Bool.not_true,Bool.false_eq_true,if_false,e1]
 rw[Bool.eq_iff_iff,e4 j hj];unfold begR;rw[bo_mkRow hj]
theorem wstep_of{m:LI}{o:Row}{c:Int}(hN:4294967296≤N)(hs:NSz S E)(h:NRt S E)(hf: ∀s∈S,s.1.length≤100)(hw:SetW S)(hm:MR S.length m o)(hc:0≤c∧c<256):
 ∃m',F_207 N S E (m,(S.length:Int)) c=some m'∧MR S.length m' (stpR S o c):=by
 have hn1:=h.n1;have hn2:=h.n2;obtain⟨m',e1,e2,e3,e4⟩:=step_spec (c:=c) hN h hf hw hm.mr Om Om (Nat.le_refl _) hm.hi hc;refine⟨m',?_,e2,e3,stpR_len,fun j hj=>?_⟩
 ·unfold F_207;rw[nfaRight_spec hN hs,(rtB_iff S E).2 h];simp only[bind,Option.bind_some,Bool.not_true,Bool.false_eq_true,if_false];rw[show F_38 N S E (m,(S.length:Int)) c=some m' from e1];rfl
 rw[Bool.eq_iff_iff,e4 j hj,stepL_congr hm.eq];unfold stpR;rw[bo_mkRow hj]
theorem wrule_of{m:LI}{o:Row}(hN:4294967296≤N)(hs:NSz S E)(h:NRt S E)(hm:MR S.length m o):F_195 N S E (m,(S.length:Int))=some (ruR S o):=by
 have hn1:=h.n1;have hn2:=h.n2;have e:=rule_spec (S:=S) (E:=E) hN hm.mr Om Om (Nat.le_refl _) hm.hi;unfold F_195;rw[nfaRight_spec hN hs,(rtB_iff S E).2 h];simp only[bind,Option.bind_some,Bool.not_true,Bool.false_eq_true,if_false];rw[show F_37 N S E (m,(S.length:Int))=_ from e,lrule_congr hm.eq];rfl
theorem refBeg_of{cond:Int}(hN:4294967296≤N)(h:NRt S E)(hf: ∀s∈S,s.1.length≤100):F_177 N S E cond=some (begR S E cond):=by
 obtain⟨o,e1,e2,e3⟩:=refBegin_spec (cond:=cond) hN h hf;rw[e1];exact congrArg some (eq_mkRow e2 e3)
theorem refStep_of{o:Row}{c:Int}(hN:4294967296≤N)(h:NRt S E)(hf: ∀s∈S,s.1.length≤100)(hw:SetW S)(hl:o.length=S.length)(hc:0≤c∧c<256):F_47 N S E o c=some (stpR S o c):=by
 obtain⟨o',e1,e2,e3⟩:=refStep_spec (c:=c) hN h hf hw hl hc;rw[e1];exact congrArg some (eq_mkRow e2 e3)
end
def adR(os:List Row)(o:Row):List Row:=if o∈os then os else os++ [o]
def cad(p:List Row×Int)(o:Row):List Row×Int:=if o∈p.1 then p else if 200≤p.1.length then(p.1,9)else(p.1++ [o],p.2)
theorem adR_pre(os:List Row)(o:Row):os <+: adR os o:=by
 unfold adR;split
 ·exact List.prefix_refl _
 exact List.prefix_append _ _
theorem adR_of{os:List Row}{o:Row}(h:o∈os):adR os o=os:=by unfold adR;rw[if_pos h]
theorem mem_adR{os:List Row}{o x:Row}:x∈adR os o↔x∈os∨x=o:=by
 unfold adR;split
 ·rename_i h;exact⟨.inl,fun h'=>h'.elim id fun e=>by rw[e];exact h⟩
 simp
theorem adRs_pre: ∀(l os:List Row),os <+: l.foldl adR os
 | [],_=>List.prefix_refl _
 |o::l,os=>(adR_pre os o).trans (adRs_pre l _)
theorem mem_adRs{x:Row}: ∀{l os:List Row},x∈l.foldl adR os↔x∈os∨x∈l
 | [],os=>by simp
 |o::l,os=>by rw[List.foldl_cons,mem_adRs,mem_adR,List.mem_cons,or_assoc]
theorem idx_pre{os os':List Row}{o:Row}(h:os <+: os')(ho:o∈os):os'.idxOf o=os.idxOf o:=by
 obtain⟨t,rfl⟩:=h;rw[List.idxOf_append,if_pos ho]
theorem get_pre{os os':List Row}{i:Nat}{o:Row}(h:os <+: os')(ho:os[i]? =some o):os'[i]? =some o:=by
 obtain⟨t,rfl⟩:=h;rw[List.getElem?_append_left (List.getElem?_eq_some_iff.1 ho).1];exact ho
theorem cad_9(o:Row)(os:List Row):(cad (os,9) o).2=9:=by
 unfold cad;split
 ·rfl
 split<;>rfl
theorem cads_9: ∀(l os:List Row),(l.foldl cad (os,9)).2=9
 | [],_=>rfl
 |o::l,os=>by
   rw[List.foldl_cons,show cad (os,9) o=((cad (os,9) o).1,9)from Prod.ext rfl (cad_9 o os)];exact cads_9 l _
theorem capA{e:Int}: ∀{l os:List Row},(l.foldl adR os).length≤200→l.foldl cad (os,e)=(l.foldl adR os,e)
 | [],_,_=>rfl
 |o::l,os,h=>by
   rw[List.foldl_cons]at h ⊢;rw[List.foldl_cons];have hl:(adR os o).length≤200:=Nat.le_trans (adRs_pre l _).length_le h
   have:cad (os,e) o=(adR os o,e):=by
    unfold cad adR at*;by_cases c:o∈os
    ·simp[c]
    simp only[c,if_false]at hl ⊢;rw[List.length_append,List.length_singleton]at hl;rw[if_neg Om]
   rw[this];exact capA h
theorem capB{e:Int}: ∀{l os:List Row},os.length≤200→200<(l.foldl adR os).length→(l.foldl cad (os,e)).2=9
 | [],os,h1,h2=>by simp at h2;omega
 |o::l,os,h1,h2=>by
   rw[List.foldl_cons]at h2 ⊢;unfold adR at h2;unfold cad;by_cases c:o∈os
   ·simp only[c,if_true]at h2 ⊢;exact capB h1 h2
   simp only[c,if_false]at h2 ⊢;by_cases c2:200≤os.length
   ·rw[if_pos c2];exact cads_9 _ _
   rw[if_neg c2];exact capB (by simp;omega) h2
theorem cad_len{p:List Row×Int}{o:Row}(h:p.1.length≤200):(cad p o).1.length≤200:=by
 unfold cad;split
 ·exact h
 split
 ·exact h
 simp;omega
theorem cad_pre{p:List Row×Int}{o:Row}:p.1 <+: (cad p o).1:=by
 unfold cad;split
 ·exact List.prefix_refl _
 split
 ·exact List.prefix_refl _
 exact List.prefix_append _ _
theorem cads_len: ∀{l:List Row} {p:List Row×Int},p.1.length≤200→(l.foldl cad p).1.length≤200
 | [],_,h=>h
 |o::l,p,h=>cads_len (l:=l) (p:=cad p o) (cad_len h)
theorem cads_pre: ∀{l:List Row} {p:List Row×Int},p.1 <+: (l.foldl cad p).1
 | [],_=>List.prefix_refl _
 |o::l,p=>cad_pre.trans (cads_pre (l:=l) (p:=cad p o))
theorem adR_reps{F:Nat→Row}{ls:List Nat}{os:List Row}(hs:ls.Pairwise (· < ·))(hr: ∀c,c<256→ ∃r∈ls,r≤c∧F c=F r):
 ∀k,k≤256→((List.range k).map F).foldl adR os=((ls.filter (· <k)).map F).foldl adR os
 |0,_=>by rw[List.filter_eq_nil_iff.2 (fun y _=>by simp)];rfl
 |k+1,hk=>by
   rw[List.range_succ,List.map_append,List.foldl_append,adR_reps hs hr k Om]
   have hsp:ls.filter (· <k+1)=ls.filter (· <k)++if k∈ls then [k]else []:=by
    clear hr
    induction ls with
    |nil=>simp
    |cons x ls ih=>
      have ih':=ih (List.pairwise_cons.1 hs).2;have hx:=(List.pairwise_cons.1 hs).1;rw[List.filter_cons,List.filter_cons,ih'];by_cases c1:x<k
      ·have c2:x<k+1:=by omega
       have c3: ¬k=x:=by omega
       simp[c1,c2,c3]
      by_cases c4:x=k
      ·subst c4;have hn:x∉ls:=fun h=>by have:=hx x h;omega
       have hf:ls.filter (fun y=>decide (y<x))= []:=List.filter_eq_nil_iff.2 fun y hy=>by have:=hx y hy;simp;omega
       simp[hn,hf]
      have c2: ¬x<k+1:=by omega
      have hn:k∉ls:=fun h=>by have:=hx k h;omega
      have c3: ¬k=x:=by omega
      simp[c1,c2,c3,hn]
   rw[hsp,List.map_append,List.foldl_append];by_cases c:k∈ls
   ·simp[c]
   simp only[c,if_false,List.map_nil,List.foldl_nil,List.map_cons,List.foldl_cons];obtain⟨r,h1,h2,h3⟩:=hr k Om;have h4:r≠k:=fun e=>c (e▸h1);refine adR_of (mem_adRs.2 (.inr ?_));rw[h3];exact List.mem_map.2 ⟨r,List.mem_filter.2 ⟨h1,by simp;omega⟩,rfl⟩
theorem ba_law: ∀a b:ByteArray,(a==b)=true↔a=b:=by
 intro a b;rcases a with⟨a⟩;rcases b with⟨b⟩;constructor
 ·intro h;have:(a==b)=true:=h;rw[eq_of_beq this]
 intro h;injection h with h;subst h;show(a==a)=true;exact beq_self_eq_true a
structure Bld(n:Nat)(os:List Row)(ms:List (LI×Int))(mp:List (ByteArray×Int)):Prop where
 len:ms.length=os.length
 el: ∀(i:Nat) (o:Row) (p:LI×Int),os[i]? =some o→ms[i]? =some p→p.2=(n:Int)∧MR n p.1 o
 ln: ∀o∈os,o.length=n
 mp: ∀o:Row,o.length=n→mget mp (keyR o)=if o∈os then some (os.idxOf o:Int)else none
theorem Bld.nil{n:Nat}:Bld n [] [] [] where
 len:=rfl
 el i o p h:=by simp at h
 ln o h:=by cases h
 mp o _:=by simp[mget]
section
variable {N:Nat}{S:List Stt}{E:LI}
theorem state1_spec{os:List Row}{ms:List (LI×Int)}{mp:List (ByteArray×Int)}{m:LI}{o:Row}{rows:List LI}{ent:LI}{e:Int}
 (hN:4294967296≤N) (hs:NSz S E) (h:NRt S E) (hB:Bld S.length os ms mp) (hm:MR S.length m o) (hos:os.length≤200) (hr:rows.length=os.length):
 ∃mp' ms',F_193 N rows (os.map (ruR S)) ent S E mp ms e m (S.length:Int)=some (rows++List.replicate ((cad (os,e) o).1.length-os.length) (List.replicate 256 0),(cad (os,e) o).1.map (ruR S),mp',ms',(cad (os,e) o).2,if o∈(cad (os,e) o).1 then((cad (os,e) o).1.idxOf o:Int)else 0)∧Bld S.length (cad (os,e) o).1 ms' mp':=by
 have hn1:=h.n1;have hn2:=h.n2;have hlen:=hB.len;unfold F_193 cad;rw[key_of hN hm Om Om];simp only[bind,Option.bind_some];rw[hB.mp o hm.len];by_cases c:o∈os
 ·refine⟨mp,ms,?_,?_⟩
  ·simp[c]
  simp only[c,if_true];exact hB
 simp only[c,if_false,Option.isSome_none,Bool.false_eq_true];by_cases c2:200≤os.length
 ·refine⟨mp,ms,?_,?_⟩
  ·simp[c,c2,show((ms.length:Int)≥200) by omega]
  simp only[c2,if_true];exact hB
 rw[if_neg (show¬(decide ((ms.length:Int)≥200))=true by simp;omega)];rw[app_eq (by simp;omega),app_eq (by simp;omega),wrule_of hN hs h hm];simp only[Option.bind_some];rw[app_eq (by simp;omega)];simp only[Option.bind_some,if_neg c2];refine⟨mset mp (keyR o) (ms.length:Int),ms++ [(m,(S.length:Int))],?_,?_⟩
 ·have e1:w64 (((ms++ [(m,(S.length:Int))]).length:Int)-1)=((os++ [o]).idxOf o:Int):=by
   rw[List.idxOf_append,if_neg c,List.length_append,List.length_singleton];simp only[List.idxOf_cons_self,Nat.zero_add];rw[show(((ms.length+1:Nat):Int)-1)=(ms.length:Int) by omega,w64,wrap64 Om Om,hlen]
  rw[e1];simp
 refine⟨by simp[hlen],fun i o' p h1 h2=>?_,fun o' ho'=>?_,fun o' ho'=>?_⟩
 ·by_cases c3:i<os.length
  ·rw[List.getElem?_append_left c3]at h1;rw[List.getElem?_append_left Om]at h2;exact hB.el i o' p h1 h2
  rw[List.getElem?_append_right Om]at h1 h2;rw[hlen]at h2;have:i-os.length=0:=by have:=lt_len h1;simp at this;omega
  rw[this]at h1 h2;simp at h1 h2;subst h1;subst h2;exact⟨rfl,hm⟩
 ·rcases List.mem_append.1 ho' with h1|h1
  ·exact hB.ln o' h1
  rw[List.mem_singleton.1 h1];exact hm.len
 by_cases c3:o'=o
 ·subst c3;rw[Go.Eng.mget_mset ba_law,List.idxOf_append,if_neg c];simp[hlen]
 rw[mget_mset_ne ba_law _ _ _ _ (fun hk=>c3 (keyR_inj (by rw[ho',hm.len]) Om hk)),hB.mp o' ho'];by_cases c4:o'∈os
 ·rw[if_pos c4,if_pos (by simp[c4]),List.idxOf_append,if_pos c4]
 rw[if_neg c4,if_neg (by simp[c3,c4])]
end
open Go Go.Eng
set_option maxRecDepth 100000
theorem els_len(s:Q4):(els s).length≤256:=by
 unfold els;have:=List.length_filter_le (bs s) (List.range 256);simpa using this
section
variable {N:Nat}
theorem list4_spec{t:T4}(hN:70≤N)(h:Wd4 t):F_44 N t.1 t.2.1 t.2.2.1 t.2.2.2=some ((els (qN t)).map fun c:Nat=>(c:Int)):=by
 have hY: ∀(l:List Nat) (s:LI),(∀c∈l,c<256)→s.length+l.length≤1000→foldY (fun x s=>F_97 N x s) l s=some (s++l.map (fun c:Nat=>(c:Int)),true):=by
  intro l
  induction l with
  |nil=>intro s _ _;simp[foldY]
  |cons c l ih=>
    intro s hl hs;have hc:=hl c Sm;simp only[List.length_cons]at hs
    have e0:F_97 N (c:Int) s=some (s++ [(c:Int)],true):=by
     unfold F_97;rw[app_eq (by simp;omega),u8_emod,show(c:Int) %256=(c:Int) by omega];rfl
    unfold foldY;rw[e0];simp only[bind,Option.bind_some,if_true];rw[ih _ (fun c hc=>hl c (by simp[hc])) (by simp;omega)];simp
 have key:F_44 N ((qI (qN t)).1) ((qI (qN t)).2.1) ((qI (qN t)).2.2.1) ((qI (qN t)).2.2.2)=some ((els (qN t)).map fun c:Nat=>(c:Int)):=by
  unfold F_44 F_18;simp only[bind,Option.bind_some];have e:=all_spec (Y:=fun x s=>F_97 N x s) hN (qN_64 h) ([]:LI);rw[show F_30 N (fun x s=>F_97 N x s) ([]:LI) ((qI (qN t)).1) ((qI (qN t)).2.1) ((qI (qN t)).2.2.1) ((qI (qN t)).2.2.2)=_ from e];have h256:=els_len (qN t);rw[show((t.1.toNat,t.2.1.toNat,t.2.2.1.toNat,t.2.2.2.toNat):Q4)=qN t from rfl,hY _ _ (fun c hc=>(mem_els.1 hc).1) (by simp;omega)];simp
 rw[qI_qN h]at key;exact key
theorem fill_loop{i:Nat}{r L:LI}{v:Int}(hN:4294967296≤N)(hi:rows[i]? =some r)(hr:r.length=256)(hL: ∀c∈L,0≤c∧c<256)(hl:L.length≤256):
 iterO N (fun s=>F_102 N (i:Int) v L s.1 s.2) (rows,0)=some (rows.set i (L.foldl (fun r c=>r.set c.toNat v) r)):=by
 have hlt:=lt_len hi
 have hlen: ∀(M:LI),(M.foldl (fun(r:LI) c=>r.set c.toNat v) r).length=256:=by
  intro M
  have: ∀(M r:LI),(M.foldl (fun(r:LI) c=>r.set c.toNat v) r).length=r.length:=by
   intro M
   induction M with
   |nil=>intro r;rfl
   |cons x M ih=>intro r;rw[List.foldl_cons,ih];simp
  rw[this,hr]
 obtain⟨s,e1,e2⟩:=loop_inv (f:=fun s:List LI×Int=>F_102 N (i:Int) v L s.1 s.2) (fun k (s:List LI)=>(s,(k:Int))) id L
  (fun k s=>s=rows.set i ((L.take k).foldl (fun r c=>r.set c.toNat v) r)) (N:=N) (s:=rows) Om (by
   simp only[List.take_zero,List.foldl_nil];obtain⟨h1,h2⟩:=List.getElem?_eq_some_iff.1 hi;rw[←h2,List.set_getElem_self])
  (fun k x s hx hI=>by
   have hk:=lt_len hx;have hc:=hL x (List.mem_of_getElem? hx);subst hI;have hll:=hlen (L.take k);unfold F_102;simp only[show((k:Int)<(L.length:Int)) by omega,decide_true,if_true,idx_of hx,bind,Option.bind_some];rw[idx_of (x:=(L.take k).foldl (fun r c=>r.set c.toNat v) r) (by simp[hlt])];simp only[Option.bind_some];rw[idx_int hc.1 (by rw[hll];omega)];simp only[Option.bind_some];rw[setI_int hc.1 (by rw[hll];omega)];simp only[Option.bind_some];rw[setI_nat (by simp;exact hlt)];simp only[Option.bind_some,List.set_set];rw[w64_succ Om];refine⟨_,rfl,?_⟩;rw[List.take_add_one,hx,List.foldl_append];rfl)
  (fun s _=>by unfold F_102;simp)
 rw[show iterO N (fun s=>F_102 N (i:Int) v L s.1 s.2) (rows,0)=_ from e1,e2,List.take_length];rfl
end
theorem setAll_get(v:Int): ∀(L:List Nat) (r:LI) (c:Nat),(L.foldl (fun(r:LI) (c:Nat)=>r.set c v) r)[c]? =if c∈L∧c<r.length then some v else r[c]?
 | [],r,c=>by simp
 |x::L,r,c=>by
   rw[List.foldl_cons,setAll_get v L];simp only[List.length_set,List.mem_cons];by_cases h1:c∈L∧c<r.length
   ·rw[if_pos h1,if_pos ⟨.inr h1.1,h1.2⟩]
   rw[if_neg h1,List.getElem?_set];by_cases h2:x=c
   ·subst h2;by_cases h3:x<r.length
    ·simp[h3]
    simp[h3]
   have: ¬((c=x∨c∈L)∧c<r.length):=fun⟨h3,h4⟩=>h3.elim (fun e=>h2 e.symm) fun h=>h1 ⟨h,h4⟩;rw[if_neg h2,if_neg this]
def prow(V:Nat→Int)(ps:List T4)(k:Nat):LI:=(List.range 256).map fun c=>if(ps.take k).any (fun p=>tb p c)=true then V c else 0
theorem prow_len{V:Nat→Int}{ps:List T4}{k:Nat}:(prow V ps k).length=256:=by simp[prow]
theorem prow_zero{V:Nat→Int}{ps:List T4}:prow V ps 0=List.replicate 256 0:=by
 unfold prow;rw[List.take_zero];simp only[List.any_nil,Bool.false_eq_true,if_false];rw[List.map_const'];simp
theorem prow_succ{V:Nat→Int}{ps:List T4}{k:Nat}{p:T4}{v:Int}(hp:ps[k]? =some p)(hw:Wd4 p)(hv: ∀c,c<256→tb p c=true→V c=v):
 (((els (qN p)).map fun c:Nat=>(c:Int)).foldl (fun(r:LI) c=>r.set c.toNat v) (prow V ps k))=prow V ps (k+1):=by
 rw[List.foldl_map];have e:(els (qN p)).foldl (fun(r:LI) (c:Nat)=>r.set ((c:Int)).toNat v) (prow V ps k)=(els (qN p)).foldl (fun(r:LI) (c:Nat)=>r.set c v) (prow V ps k):=rfl;rw[e];apply List.ext_getElem?;intro c;rw[setAll_get,prow_len];by_cases hc:c<256
 ·have g: ∀m,(prow V ps m)[c]? =some (if(ps.take m).any (fun p=>tb p c)=true then V c else 0):=fun m=>by
   unfold prow;rw[List.getElem?_map,List.getElem?_range hc];rfl
  rw[g,g,List.take_add_one,hp];simp only[Option.toList_some,List.any_append,List.any_cons,List.any_nil,Bool.or_false,Bool.or_eq_true,mem_els];have ht:=tb_qN hw hc
  cases h1:tb p c with
  |true=>
    rw[ht]at h1;rw[if_pos ⟨⟨hc,h1⟩,hc⟩,if_pos (.inr rfl),hv c hc (by rw[ht];exact h1)]
  |false=>
    rw[ht]at h1;rw[if_neg (fun h=>by rw[h1]at h;exact absurd h.1.2 Sm)];by_cases hA:((ps.take k).any fun p=>tb p c)=true
    ·rw[if_pos hA,if_pos (.inl hA)]
    rw[if_neg hA,if_neg (fun h=>h.elim hA Sm)]
 rw[if_neg (fun h=>hc h.2),List.getElem?_eq_none (by rw[prow_len];omega),List.getElem?_eq_none (by rw[prow_len];omega)]
section
variable {N:Nat}{S:List Stt}{E:LI}
noncomputable abbrev Gof(S:List Stt)(o:Row)(ps:List T4):List Row:=ps.map fun p=>stpR S o (tl p)
theorem row_spec{os:List Row}{ms:List (LI×Int)}{mp:List (ByteArray×Int)}{o:Row}{rows:List LI}{ent:LI}{e:Int}{i:Nat}{ps:List T4}
 (hN:4294967296≤N) (hs:NSz S E) (h:NRt S E) (hf: ∀s∈S,s.1.length≤100) (hw:SetW S) (hI:PInv (sets S) ps) (hB:Bld S.length os ms mp) (hos:os.length≤200) (hi:os[i]? =some o) (hr:rows.length=os.length) (hr0:rows[i]? =some (List.replicate 256 0)):
 ∃rows' mp' ms',F_32 N rows (os.map (ruR S)) ent S E mp ms e (i:Int) ps=some (rows',((Gof S o ps).foldl cad (os,e)).1.map (ruR S),mp',ms',((Gof S o ps).foldl cad (os,e)).2)∧Bld S.length ((Gof S o ps).foldl cad (os,e)).1 ms' mp'∧rows'.length=((Gof S o ps).foldl cad (os,e)).1.length∧
   (((Gof S o ps).foldl adR os).length≤200→rows'=(rows++List.replicate (((Gof S o ps).foldl adR os).length-os.length) (List.replicate 256 0)).set i ((List.range 256).map fun c:Nat=>(((Gof S o ps).foldl adR os).idxOf (stpR S o (c:Int)):Int))):=by
 have hpl:=hI.len;have hil:=lt_len hi;generalize hfin:(Gof S o ps).foldl adR os=fin
 obtain⟨s,e1,e2⟩:=loop_inv (f:=fun s:(List LI)×LI×(List (ByteArray×Int))×(List (LI×Int))×Int×Int=>F_152 N ent S E (i:Int) ps s.1 s.2.1 s.2.2.1 s.2.2.2.1 s.2.2.2.2.1 s.2.2.2.2.2)
  (fun k (s:(List LI)×LI×(List (ByteArray×Int))×(List (LI×Int))×Int)=>(s.1,s.2.1,s.2.2.1,s.2.2.2.1,s.2.2.2.2,(k:Int))) (fun s=>s) ps
  (fun k s=> ∃p:List Row×Int,(Gof S o (ps.take k)).foldl cad (os,e)=p∧s.2.1=p.1.map (ruR S)∧Bld S.length p.1 s.2.2.2.1 s.2.2.1∧s.2.2.2.2=p.2∧s.1.length=p.1.length∧(∃r,s.1[i]? =some r∧r.length=256)∧
   (fin.length≤200→s.1=(rows++List.replicate (p.1.length-os.length) (List.replicate 256 0)).set i (prow (fun c=>(fin.idxOf (stpR S o (c:Int)):Int)) ps k))) (N:=N) (s:=(rows,os.map (ruR S),mp,ms,e)) Om
  ⟨(os,e),by simp[Gof],rfl,hB,rfl,hr,⟨_,hr0,by simp⟩,fun _=>by
    rw[prow_zero,Nat.sub_self,List.replicate_zero,List.append_nil];obtain⟨h1,h2⟩:=List.getElem?_eq_some_iff.1 hr0;rw[←h2,List.set_getElem_self]⟩
  (fun k x s hx hII=>by
   obtain⟨rows1,rule1,mp1,ms1,e1⟩:=s;obtain⟨⟨os1,e1'⟩,q1,q2,q3,q4,q5,⟨r,q6,q6'⟩,q7⟩:=hII;simp only at q1 q2 q3 q4 q5 q6 q7;subst q2;subst q4;have hk:=lt_len hx;have hpm:=List.mem_of_getElem? hx;have hwx:=hI.wd x hpm;obtain⟨t,t1,t2,t3,_⟩:=tl_low hwx (hI.ne x hpm)
   have hpre:os <+: os1:=by
    have:=cads_pre (l:=Gof S o (ps.take k)) (p:=(os,e1));have hp2:=cads_pre (l:=Gof S o (ps.take k)) (p:=(os,e));rw[q1]at hp2;exact hp2
   have hl1:os1.length≤200:=by
    have:=cads_len (l:=Gof S o (ps.take k)) (p:=(os,e)) hos;rw[q1]at this;exact this
   have hi1:os1[i]? =some o:=get_pre hpre hi;have him:i<ms1.length:=by rw[q3.len];exact lt_len hi1
   obtain⟨g1,g2⟩:=q3.el i o ms1[i] hi1 (List.getElem?_eq_getElem him);obtain⟨m',w1,w2⟩:=wstep_of (c:=(t:Int)) hN hs h hf hw g2 Om;obtain⟨mp',ms',z1,z2⟩:=state1_spec (e:=e1) (rows:=rows1) (ent:=ent) hN hs h q3 w2 hl1 q5;unfold F_152;simp only[show((k:Int)<(ps.length:Int)) by omega,decide_true,if_true,idx_of hx,bind,Option.bind_some];rw[idx_nat him,tl_spec Om hwx];simp only[Option.bind_some];rw[t1,u8_emod,show(t:Int) %256=(t:Int) by omega,show ms1[i]=(ms1[i].1,(S.length:Int))from Prod.ext rfl g1,w1];simp only[Option.bind_some];rw[z1];simp only[Option.bind_some];rw[list4_spec Om hwx];simp only[Option.bind_some];have hcl:=cad_pre (p:=(os1,e1)) (o:=stpR S o (t:Int));have hi2:i<rows1.length:=lt_len q6
   have hfill:=fill_loop (N:=N) (rows:=rows1++List.replicate ((cad (os1,e1) (stpR S o (t:Int))).1.length-os1.length) (List.replicate 256 0)) (i:=i) (r:=r) (L:=(els (qN x)).map fun c:Nat=>(c:Int)) (v:=if stpR S o (t:Int)∈(cad (os1,e1) (stpR S o (t:Int))).1 then(((cad (os1,e1) (stpR S o (t:Int))).1.idxOf (stpR S o (t:Int)):Nat):Int)else 0) hN
    (by rw[List.getElem?_append_left hi2];exact q6) q6' (fun c hc=>by
     obtain⟨d,hd,rfl⟩:=List.mem_map.1 hc;have:=(mem_els.1 hd).1;omega) (by simp[els_len])
   rw[hfill];simp only[Option.bind_some];rw[w64_succ Om];refine⟨(_,_,_,_,_),rfl,cad (os1,e1) (stpR S o (t:Int)),?_,rfl,z2,rfl,?_,⟨_,by rw[List.getElem?_set_self (by simp;omega)],?_⟩,fun hfl=>?_⟩
   ·rw[List.take_add_one,hx];unfold Gof at q1 ⊢;rw[List.map_append,List.foldl_append,q1];simp[t1]
   ·have:=hcl.length_le;simp only at this;simp only[List.length_set,List.length_append,List.length_replicate,q5];omega
   ·rw[List.foldl_map]
    have: ∀(M:List Nat) (r:LI) (v:Int),(M.foldl (fun(r:LI) (c:Nat)=>r.set ((c:Int)).toNat v) r).length=r.length:=by
     intro M
     induction M with
     |nil=>intro r v;rfl
     |cons x M ih=>intro r v;rw[List.foldl_cons,ih];simp
    rw[this,q6']
   have hsplit:Gof S o (ps.take (k+1))=Gof S o (ps.take k)++ [stpR S o (t:Int)]:=by
    rw[List.take_add_one,hx];simp[Gof,t1]
   have hpf:(Gof S o (ps.take (k+1))).foldl adR os <+: fin:=by
    rw[←hfin]
    conv=>rhs;rw[show Gof S o ps=Gof S o (ps.take (k+1))++Gof S o (ps.drop (k+1)) by unfold Gof;rw[←List.map_append,List.take_append_drop]]
    rw[List.foldl_append];exact adRs_pre _ _
   have hl2:=hpf.length_le;have c2:=capA (l:=Gof S o (ps.take (k+1))) (os:=os) (e:=e) Om
   have hl3:((Gof S o (ps.take k)).foldl adR os).length≤200:=by
    have:(Gof S o (ps.take k)).foldl adR os <+: (Gof S o (ps.take (k+1))).foldl adR os:=by
     rw[hsplit,List.foldl_append];exact adRs_pre _ _
    have:=this.length_le;omega
   have c3:=capA (l:=Gof S o (ps.take k)) (os:=os) (e:=e) hl3;rw[q1]at c3
   have c4:cad (os1,e1) (stpR S o (t:Int))=((Gof S o (ps.take (k+1))).foldl adR os,e):=by
    rw[←c2,hsplit,List.foldl_append,q1];rfl
   have hmem:stpR S o (t:Int)∈(Gof S o (ps.take (k+1))).foldl adR os:=by
    rw[mem_adRs];right;rw[hsplit];simp
   rw[c4];simp only[if_pos hmem];have hlow:os.length≤os1.length:=hpre.length_le
   have hup:os1.length≤((Gof S o (ps.take (k+1))).foldl adR os).length:=by
    have:=hcl.length_le;rw[c4]at this;exact this
   have hrow1:rows1=_:=q7 hfl
   have hr1:r=prow (fun c=>(fin.idxOf (stpR S o (c:Int)):Int)) ps k:=by
    rw[hrow1,List.getElem?_set_self (by simp;omega)]at q6;exact(Option.some.inj q6).symm
   rw[hr1,prow_succ hx hwx (fun c hc htc=>by
    have:stpR S o (c:Int)=stpR S o (t:Int):=(stpR_alk ((hI.cls x hpm t t2 c hc t3).1 htc)).symm;simp only[this];rw[idx_pre hpf hmem])]
   rw[hrow1,←List.set_append_left _ _ (by simp;omega),List.set_set,List.append_assoc,List.replicate_append_replicate]
   congr 3
   omega)
  (fun s hII=>by unfold F_152;simp)
 obtain⟨p,q1,q2,q3,q4,q5,_,q7⟩:=e2;rw[List.take_length]at q1;unfold F_32;rw[show iterO N (fun s=>F_152 N ent S E (i:Int) ps s.1 s.2.1 s.2.2.1 s.2.2.2.1 s.2.2.2.2.1 s.2.2.2.2.2) (rows,os.map (ruR S),mp,ms,e,0)=_ from e1];simp only[bind,Option.bind_some];rw[q1];refine⟨s.1,s.2.2.1,s.2.2.2.1,by rw[q2,q4],q3,q5,fun hfl=>?_⟩;have c2:=capA (l:=Gof S o ps) (os:=os) (e:=e) (by rw[hfin];exact hfl);rw[q1]at c2;rw[q7 hfl,c2,hfin]
 congr 1
 unfold prow;apply List.map_congr_left;intro c hc;obtain⟨x,hx,hx'⟩:=hI.cov c (List.mem_range.1 hc);rw[List.take_length,if_pos (List.any_eq_true.2 ⟨x,hx,hx'⟩)]
end
open Go Go.Eng
set_option maxRecDepth 100000
noncomputable def Gb(S:List Stt)(o:Row)(k:Nat):List Row:=(List.range k).map fun c:Nat=>stpR S o (c:Int)
theorem parts_bytes{S:List Stt}{ps:List T4}{o:Row}{os:List Row}(hI:PInv (sets S) ps)(hs:ps.Pairwise fun p q=>tl p<tl q):(Gof S o ps).foldl adR os=(Gb S o 256).foldl adR os:=by
 have hn: ∀p∈ps,((tl p).toNat:Int)=tl p∧(tl p).toNat<256:=fun p hp=>by
  obtain⟨k,e,h,_⟩:=tl_low (hI.wd p hp) (hI.ne p hp);omega
 have h1:=adR_reps (F:=fun c:Nat=>stpR S o (c:Int)) (ls:=ps.map fun p=>(tl p).toNat) (os:=os)
  (List.pairwise_map.2 (hs.imp_of_mem fun{p q} hp hq h=>by have:=hn p hp;have:=hn q hq;omega))
  (fun c hc=>by
   obtain⟨p,hp,hp'⟩:=hI.cov c hc;obtain⟨k,e,h1,h2,h3⟩:=tl_low (hI.wd p hp) (hI.ne p hp);refine⟨(tl p).toNat,List.mem_map.2 ⟨p,hp,rfl⟩,?_,?_⟩
   ·have: ¬c<k:=fun hlt=>by have:=h3 c hlt;rw[hp']at this;cases this
    omega
   have:(tl p).toNat=k:=by omega
   rw[this];exact stpR_alk ((hI.cls p hp c hc k h1 hp').1 h2)) 256 (Nat.le_refl _)
 unfold Gb
 rw[h1,List.filter_eq_self.2 (fun x hx=>by
  obtain⟨p,hp,rfl⟩:=List.mem_map.1 hx;have:=hn p hp;simp;omega),List.map_map]
 have e:Gof S o ps=ps.map ((fun c:Nat=>stpR S o (c:Int))∘fun p=>(tl p).toNat):=List.map_congr_left fun p hp=>by simp only[Function.comp_def];rw[(hn p hp).1]
 rw[e]
noncomputable def Qs(S:List Stt)(os:List Row):Nat→List Row
 |0=>os
 |i+1=>match(Qs S os i)[i]? with
   |some o=>(Gb S o 256).foldl adR (Qs S os i)
   |none=>Qs S os i
noncomputable def rowAt(S:List Stt)(os:List Row)(i:Nat):LI:=(List.range 256).map fun c:Nat=>((Qs S os (i+1)).idxOf (stpR S ((Qs S os i).getD i []) (c:Int)):Int)
theorem Qs_pre{S:List Stt}{os:List Row}{i:Nat}:Qs S os i <+: Qs S os (i+1):=by
 conv=>rhs;unfold Qs
 split
 ·exact adRs_pre _ _
 exact List.prefix_refl _
theorem Qs_ln{S:List Stt}{os:List Row}(h: ∀o∈os,o.length=S.length): ∀i,∀o∈Qs S os i,o.length=S.length
 |0,o,ho=>h o ho
 |i+1,o,ho=>by
   unfold Qs at ho;split at ho
   ·rcases mem_adRs.1 ho with h1|h1
    ·exact Qs_ln h i o h1
    obtain⟨c,_,rfl⟩:=List.mem_map.1 h1;exact stpR_len
   exact Qs_ln h i o ho
theorem Qs_succ{S:List Stt}{os:List Row}{i:Nat}{o:Row}(h:(Qs S os i)[i]? =some o):Qs S os (i+1)=(Gb S o 256).foldl adR (Qs S os i):=by
 conv=>lhs;unfold Qs
 rw[h]
theorem Qs_end(S:List Stt)(os:List Row): ∃T,T≤200∧(∀i,i<T→i<(Qs S os i).length∧(Qs S os (i+1)).length≤200)∧((Qs S os T).length≤T∨(T<(Qs S os T).length∧200<(Qs S os (T+1)).length)):=by
 have hex: ∃n,n≤200∧((Qs S os n).length≤n∨200<(Qs S os (n+1)).length):=by
  by_cases c:(Qs S os 200).length≤200
  ·exact⟨200,by omega,.inl c⟩
  exact⟨199,by omega,.inr (by simpa using c)⟩
 obtain⟨n,hn0,hn⟩:=hex;obtain⟨T,h1,h2,h3⟩:=least' (P:=fun n=>(Qs S os n).length≤n∨200<(Qs S os (n+1)).length) hn;refine⟨T,by omega,fun i hi=>?_,?_⟩
 ·have:=h3 i hi;omega
 omega
theorem Gb_succ(S:List Stt)(o:Row)(k:Nat):Gb S o (k+1)=Gb S o k++ [stpR S o (k:Int)]:=by simp[Gb,List.range_succ]
theorem Gb_pre{S:List Stt}{o:Row}{os:List Row}{k m:Nat}(h:k≤m):(Gb S o k).foldl adR os <+: (Gb S o m).foldl adR os:=by
 induction m with
 |zero=>
           obtain rfl:k=0:=by omega
           exact List.prefix_refl _
 |succ m ih=>
   by_cases c:k=m+1
   ·subst c;exact List.prefix_refl _
   refine(ih Om).trans ?_;rw[Gb_succ,List.foldl_append];exact adRs_pre _ _
section
variable {N:Nat}{S:List Stt}{E:LI}
theorem adO{os:List Row}{o:Row}(hs:os.length<4294967296):((if(((os.idxOf o:Nat):Int)==(os.length:Int))=true then(app os ([o]) >>= fun x=>some x)else(some os)):Option (List Row))=some (adR os o):=by
 unfold adR;by_cases c:o∈os
 ·have:=List.idxOf_lt_length_iff.2 c;have e:(((os.idxOf o:Nat):Int)==(os.length:Int))=false:=by simp;omega
  rw[e,if_pos c];rfl
 have:=List.idxOf_eq_length c;rw[this,if_neg c,app_eq (by simp;omega)];simp
theorem idx_adR{os:List Row}{o:Row}:os.idxOf o=(adR os o).idxOf o:=by
 unfold adR;by_cases c:o∈os
 ·rw[if_pos c]
 rw[if_neg c,List.idxOf_append,if_neg c,List.idxOf_eq_length c];simp
theorem refB_step{os:List Row}{o:Row}{i c:Nat}{r:LI}(hN:4294967296≤N)(h:NRt S E)(hf: ∀s∈S,s.1.length≤100)(hw:SetW S)(hln: ∀p∈os,p.length=S.length)(hi:os[i]? =some o)(hos:os.length≤200)(hc:c<256)(hr:r.length=256):
 F_61 N S E (i:Int) r (c:Int) os=some (if(adR os (stpR S o (c:Int))).length>200 then .inr (.inr (.inr (.inr ([],[],[],9))))else .inl (r.set c ((adR os (stpR S o (c:Int))).idxOf (stpR S o (c:Int)):Int),((c+1:Nat):Int),adR os (stpR S o (c:Int)))):=by
 have hn2:=h.n2
 have hal:(adR os (stpR S o (c:Int))).length≤201:=by
  unfold adR;split
  ·omega
  simp;omega
 unfold F_61;rw[if_pos (by simp;omega),idx_of hi,u8_emod,show(c:Int) %256=(c:Int) by omega];simp only[bind,Option.bind_some];rw[refStep_of hN h hf hw (hln o (List.mem_of_getElem? hi)) Om];simp only[Option.bind_some];rw[place_specB hN (fun p hp=>by rw[hln p hp,stpR_len]) (by rw[stpR_len];omega) Om];simp only[Option.bind_some];have ha:=adO (o:=stpR S o (c:Int)) (os:=os) Om;simp only[bind]at ha;rw[ha];simp only[Option.bind_some];rw[idx_nat Om];simp only[Option.bind_some];rw[setI_nat Om];simp only[Option.bind_some];by_cases q:(adR os (stpR S o (c:Int))).length>200
 ·rw[if_pos q,if_pos (by simp;omega)];rfl
 rw[if_neg q,if_neg (by simp;omega),w64_succ Om,idx_adR];rfl
noncomputable def rowC(S:List Stt)(os:List Row)(o:Row)(k:Nat):LI:=(List.range 256).map fun c:Nat=>if c<k then(((Gb S o 256).foldl adR os).idxOf (stpR S o (c:Int)):Int)else 0
theorem rowC_set{os:List Row}{o:Row}{c:Nat}(_hc:c<256):(rowC S os o c).set c (((Gb S o (c+1)).foldl adR os).idxOf (stpR S o (c:Int)):Int)=rowC S os o (c+1):=by
 have hm:stpR S o (c:Int)∈(Gb S o (c+1)).foldl adR os:=by rw[mem_adRs,Gb_succ];simp
 rw[←idx_pre (Gb_pre (show c+1≤256 by omega)) hm];unfold rowC;apply List.ext_getElem
 ·simp
 intro j h1 h2;rw[List.getElem_set];simp only[List.getElem_map,List.getElem_range];by_cases c1:c=j
 ·subst c1;simp
 rw[if_neg c1];by_cases c2:j<c
 ·rw[if_pos c2,if_pos Om]
 rw[if_neg c2,if_neg Om]
theorem refB_l2{os:List Row}{o:Row}{i:Nat}(hN:4294967296≤N)(h:NRt S E)(hf: ∀s∈S,s.1.length≤100)(hw:SetW S)(hln: ∀p∈os,p.length=S.length)(hi:os[i]? =some o)(hos:os.length≤200):
 iterO N (fun s=>F_61 N S E (i:Int) s.1 s.2.1 s.2.2) (List.replicate 256 0,0,os)=some (if((Gb S o 256).foldl adR os).length>200 then .inr (.inr (.inr ([],[],[],9)))else .inl (rowC S os o 256,(Gb S o 256).foldl adR os)):=by
 have hz:(rowC S os o 0,((0:Nat):Int),(Gb S o 0).foldl adR os)=(List.replicate 256 (0:Int),(0:Int),os):=by
  have:rowC S os o 0=List.replicate 256 0:=by
   unfold rowC;simp only[Nat.not_lt_zero,if_false];rw[List.map_const'];simp
  rw[this];simp[Gb]
 have hst: ∀c,c<256→((Gb S o c).foldl adR os).length≤200→F_61 N S E (i:Int) (rowC S os o c) (c:Int) ((Gb S o c).foldl adR os)=some (if((Gb S o (c+1)).foldl adR os).length>200 then .inr (.inr (.inr (.inr ([],[],[],9))))else .inl (rowC S os o (c+1),((c+1:Nat):Int),(Gb S o (c+1)).foldl adR os)):=fun c hc hl=>by
  have hp:os <+: (Gb S o c).foldl adR os:=adRs_pre _ _
  rw[refB_step hN h hf hw (fun p hp=>by
   rcases mem_adRs.1 hp with h1|h1
   ·exact hln p h1
   obtain⟨c,_,rfl⟩:=List.mem_map.1 h1;exact stpR_len) (get_pre hp hi) hl hc (by simp[rowC])]
  have e:adR ((Gb S o c).foldl adR os) (stpR S o (c:Int))=(Gb S o (c+1)).foldl adR os:=by rw[Gb_succ,List.foldl_append];rfl
  rw[e,rowC_set hc]
 by_cases q:((Gb S o 256).foldl adR os).length>200
 ·obtain⟨k,hk1,hk2,hk3⟩:=least' (P:=fun k=>200<((Gb S o k).foldl adR os).length) q
  have hk0:k≠0:=by
   rintro rfl;simp[Gb]at hk2;omega
  obtain⟨k,rfl⟩: ∃j,k=j+1:=⟨k-1,by omega⟩;rw[if_pos q];refine iterO_for0 (f:=fun s:LI×Int×List Row=>F_61 N S E (i:Int) s.1 s.2.1 s.2.2) (fun c:Nat=>(rowC S os o c,(c:Int),(Gb S o c).foldl adR os)) k hz Om (fun c hc=>?_) ?_
  ·have h1:=hk3 c Om;have h2:=hk3 (c+1) Om;simp only;rw[hst c Om Om,if_neg Om]
  have h1:=hk3 k Om;simp only;rw[hst k Om Om,if_pos hk2]
 rw[if_neg q]
 have hle: ∀c,c≤256→((Gb S o c).foldl adR os).length≤200:=fun c hc=>by
  have:=(Gb_pre (S:=S) (o:=o) (os:=os) hc).length_le;omega
 refine iterO_for0 (f:=fun s:LI×Int×List Row=>F_61 N S E (i:Int) s.1 s.2.1 s.2.2) (fun c:Nat=>(rowC S os o c,(c:Int),(Gb S o c).foldl adR os)) 256 hz Om (fun c hc=>?_) ?_
 ·simp only;rw[hst c hc (hle c Om),if_neg (by have:=hle (c+1) Om;omega)]
 simp only;unfold F_61;rw[if_neg Sm]
theorem rowAt_eq{os:List Row}{i:Nat}{o:Row}(h:(Qs S os i)[i]? =some o):rowC S (Qs S os i) o 256=rowAt S os i:=by
 unfold rowC rowAt;rw[Qs_succ h,List.getD,h];apply List.map_congr_left;intro c hc;rw[if_pos (by simpa using hc)];rfl
noncomputable def rulR(S:List Stt)(os:List Row)(k:Nat):LI:=(List.range k).map fun i=>ruR S ((Qs S os i).getD i [])
theorem refB_l1{os:List Row}{T:Nat}(hN:4294967296≤N)(h:NRt S E)(hf: ∀s∈S,s.1.length≤100)(hw:SetW S)(hln: ∀p∈os,p.length=S.length)(hos:os.length≤200)(hT:T≤200)(h1: ∀i,i<T→i<(Qs S os i).length∧(Qs S os (i+1)).length≤200)(h2:(Qs S os T).length≤T∨(T<(Qs S os T).length∧200<(Qs S os (T+1)).length)):
 iterO N (fun s=>F_75 N S E s.1 s.2.1 s.2.2.1 s.2.2.2) (os,[],[],0)=some (if(Qs S os T).length≤T then .inl ((List.range T).map (rowAt S os),rulR S os T)else .inr ([],[],[],9)):=by
 have hQl: ∀k,k≤T→(Qs S os k).length≤200:=fun k hk=>by
  cases k with
  |zero=>exact hos
  |succ k=>exact(h1 k Om).2
 have hst: ∀k,k≤T→k<(Qs S os k).length→F_75 N S E (Qs S os k) ((List.range k).map (rowAt S os)) (rulR S os k) (k:Int)=some (if(Qs S os (k+1)).length>200 then .inr (.inr ([],[],[],9))else .inl (Qs S os (k+1),(List.range (k+1)).map (rowAt S os),rulR S os (k+1),((k+1:Nat):Int))):=fun k hk hlt=>by
  have hi:=List.getElem?_eq_getElem hlt;generalize(Qs S os k)[k]=o at hi;have hl:=hQl k hk;unfold F_75;rw[if_pos (by simp;omega),refB_l2 hN h hf hw (Qs_ln hln k) hi hl,←Qs_succ hi];by_cases q:(Qs S os (k+1)).length>200
  ·rw[if_pos q,if_pos q];rfl
  rw[if_neg q,if_neg q];simp only[bind,Option.bind_some];have hi':(Qs S os (k+1))[k]? =some o:=get_pre Qs_pre hi;have ho:=Qs_ln hln k o (List.mem_of_getElem? hi);rw[app_eq (by simp;omega),idx_of hi',rowAt_eq hi];simp only[Option.bind_some];rw[refRule_spec hN h ho];simp only[Option.bind_some];rw[app_eq (by simp[rulR];omega),w64_succ Om];simp only[Option.bind_some];have e:ruR S ((Qs S os k).getD k [])=lrule S (bo o):=by rw[List.getD,hi];rfl
  have e2:rulR S os (k+1)=rulR S os k++ [lrule S (bo o)]:=by unfold rulR;rw[List.range_succ,List.map_append,←e];rfl
  rw[e2,List.range_succ,List.map_append];rfl
 have hz:(Qs S os 0,(List.range 0).map (rowAt S os),rulR S os 0,((0:Nat):Int))=(os,([]:List LI),([]:LI),(0:Int)):=by simp[Qs,rulR]
 refine iterO_for0 (f:=fun s:List Row×List LI×LI×Int=>F_75 N S E s.1 s.2.1 s.2.2.1 s.2.2.2) (fun k:Nat=>(Qs S os k,(List.range k).map (rowAt S os),rulR S os k,(k:Int))) T hz Om (fun k hk=>?_) ?_
 ·simp only;rw[hst k Om (h1 k hk).1,if_neg (by have:=(h1 k hk).2;omega)]
 simp only;by_cases q:(Qs S os T).length≤T
 ·rw[if_pos q];unfold F_75;rw[if_neg (by simp;omega)]
 rw[if_neg q,hst T (Nat.le_refl _) Om,if_pos Om]
end
open Go Go.Eng
set_option maxRecDepth 100000
section
variable {N:Nat}{S:List Stt}{E:LI}
noncomputable def Be(S:List Stt)(E:LI)(k:Nat):List Row:=(List.range k).map fun j:Nat=>begR S E (j:Int)
noncomputable def osE(S:List Stt)(E:LI)(k:Nat):List Row:=(Be S E k).foldl adR [begR S E (-1)]
noncomputable def entE(S:List Stt)(E:LI)(k:Nat):LI:=(List.range k).map fun j:Nat=>((osE S E E.length).idxOf (begR S E (j:Int)):Int)
theorem Be_succ(k:Nat):Be S E (k+1)=Be S E k++ [begR S E (k:Int)]:=by simp[Be,List.range_succ]
theorem osE_succ(k:Nat):osE S E (k+1)=adR (osE S E k) (begR S E (k:Int)):=by unfold osE;rw[Be_succ,List.foldl_append];rfl
theorem osE_pre{k m:Nat}(h:k≤m):osE S E k <+: osE S E m:=by
 induction m with
 |zero=>
           obtain rfl:k=0:=by omega
           exact List.prefix_refl _
 |succ m ih=>
   by_cases c:k=m+1
   ·subst c;exact List.prefix_refl _
   exact(ih Om).trans (by rw[osE_succ];exact adR_pre _ _)
theorem osE_len: ∀k,(osE S E k).length≤k+1
 |0=>by simp[osE,Be]
 |k+1=>by
   have:=osE_len k;rw[osE_succ];unfold adR;split
   ·omega
   simp;omega
theorem osE_ln{k:Nat}: ∀o∈osE S E k,o.length=S.length:=fun o ho=>by
 rcases mem_adRs.1 ho with h|h
 ·rw[List.mem_singleton.1 h];exact begR_len
 obtain⟨j,_,rfl⟩:=List.mem_map.1 h;exact begR_len
theorem osE_mem{j m:Nat}(h:j<m):begR S E (j:Int)∈osE S E m:=by
 unfold osE;rw[mem_adRs];right;exact List.mem_map.2 ⟨j,by simpa using h,rfl⟩
theorem beg_none:begR S E (-1)=List.replicate S.length false:=by
 symm;refine eq_mkRow Sm fun j _=>?_;have h1:begL E (-1)= []:=by unfold begL;simp
 rw[h1];constructor
 ·intro h;unfold bo at h;rw[List.getD,List.getElem?_replicate]at h;split at h<;>cases h
 exact fun h=>(rch_nil h).elim
theorem cad_ok{os:List Row}{o:Row}{e:Int}(h:os.length<200):cad (os,e) o=(adR os o,e):=by
 unfold cad adR;by_cases c:o∈os
 ·simp[c]
 simp only[c,if_false];rw[if_neg Om]
theorem build_l0{rule:LI}{mp:List (ByteArray×Int)}{ms:List (LI×Int)}(hN:4294967296≤N)(hs:NSz S E)(h:NRt S E)(hf: ∀s∈S,s.1.length≤100)
 (hr:rows=List.replicate 1 (List.replicate 256 0)) (hu:rule= [begR S E (-1)].map (ruR S)) (hB:Bld S.length [begR S E (-1)] ms mp):
 ∃mp' ms',iterO N (fun s=>F_72 N S E s.1 s.2.1 s.2.2.1 s.2.2.2.1 s.2.2.2.2.1 s.2.2.2.2.2.1 s.2.2.2.2.2.2) (0,rows,rule,([]),mp,ms,0)=some (List.replicate (osE S E E.length).length (List.replicate 256 0),(osE S E E.length).map (ruR S),entE S E E.length,mp',ms',0)∧Bld S.length (osE S E E.length) ms' mp':=by
 have he2:=h.e2;have h0:osE S E 0= [begR S E (-1)]:=by simp[osE,Be]
 obtain⟨s,e1,e2⟩:=loop_inv (f:=fun s:Int×(List LI)×LI×LI×(List (ByteArray×Int))×(List (LI×Int))×Int=>F_72 N S E s.1 s.2.1 s.2.2.1 s.2.2.2.1 s.2.2.2.2.1 s.2.2.2.2.2.1 s.2.2.2.2.2.2)
  (fun k (s:(List LI)×LI×LI×(List (ByteArray×Int))×(List (LI×Int))×Int)=>((k:Int),s)) id E
  (fun k s=>s.1=List.replicate (osE S E k).length (List.replicate 256 0)∧s.2.1=(osE S E k).map (ruR S)∧s.2.2.1=entE S E k∧Bld S.length (osE S E k) s.2.2.2.2.1 s.2.2.2.1∧s.2.2.2.2.2=0) (N:=N) (s:=(rows,rule,[],mp,ms,0)) Om
  ⟨by rw[h0];exact hr,by rw[h0];exact hu,by simp[entE],by rw[h0];exact hB,rfl⟩
  (fun k x s hx hI=>by
   obtain⟨rows1,rule1,ent1,mp1,ms1,er1⟩:=s;obtain⟨q1,q2,q3,q4,q5⟩:=hI;simp only at q1 q2 q3 q4 q5;subst q2;subst q5;have hk:=lt_len hx;have hol:=osE_len (S:=S) (E:=E) k;obtain⟨m,w1,w2⟩:=wbeg_of (cond:=(k:Int)) hN hs h hf;obtain⟨mp',ms',z1,z2⟩:=state1_spec (e:=0) (rows:=rows1) (ent:=ent1) hN hs h q4 w2 Om (by rw[q1];simp);have hc:=cad_ok (o:=begR S E (k:Int)) (e:=0) (show(osE S E k).length<200 by omega);rw[hc,←osE_succ]at z1 z2;simp only at z1 z2;have hmem:=osE_mem (S:=S) (E:=E) (show k<k+1 by omega);unfold F_72;simp only[show((k:Int)<(E.length:Int)) by omega,decide_true,if_true,bind,Option.bind_some,w1];rw[z1];simp only[Option.bind_some,if_pos hmem];rw[app_eq (by rw[q3];simp[entE];omega),w64_succ Om];refine⟨(_,_,_,_,_,_),rfl,?_,rfl,?_,z2,rfl⟩
   ·simp only;rw[q1,List.replicate_append_replicate]
    congr 1
    have:=(osE_pre (S:=S) (E:=E) (show k≤k+1 by omega)).length_le;omega
   simp only;rw[q3];unfold entE;rw[List.range_succ,List.map_append,List.map_singleton,idx_pre (osE_pre (show k+1≤E.length by omega)) hmem])
  (fun s hI=>by unfold F_72;simp)
 obtain⟨q1,q2,q3,q4,q5⟩:=e2;refine⟨s.2.2.2.1,s.2.2.2.2.1,?_,q4⟩;rw[show iterO N (fun s=>F_72 N S E s.1 s.2.1 s.2.2.1 s.2.2.2.1 s.2.2.2.2.1 s.2.2.2.2.2.1 s.2.2.2.2.2.2) (0,rows,rule,([]),mp,ms,0)=_ from e1,←q1,←q2,←q3,←q5];rfl
noncomputable def rowsP(S:List Stt)(os:List Row)(k:Nat):List LI:=(List.range k).map (rowAt S os)++List.replicate ((Qs S os k).length-k) (List.replicate 256 0)
theorem rowsP_succ{os:List Row}{k:Nat}(hk:k<(Qs S os k).length):(rowsP S os k++List.replicate ((Qs S os (k+1)).length-(Qs S os k).length) (List.replicate 256 0)).set k (rowAt S os k)=rowsP S os (k+1):=by
 have hl:=(Qs_pre (S:=S) (os:=os) (i:=k)).length_le;unfold rowsP;rw[List.append_assoc,List.replicate_append_replicate,List.set_append_right _ _ Sm];simp only[List.length_map,List.length_range,Nat.sub_self];rw[show(Qs S os k).length-k+((Qs S os (k+1)).length-(Qs S os k).length)=((Qs S os (k+1)).length-(k+1))+1 by omega,List.replicate_succ,List.set_cons_zero,List.range_succ,List.map_append,List.map_singleton,List.append_assoc];rfl
theorem build_l1{os:List Row}{T:Nat}{ms:List (LI×Int)}{mp:List (ByteArray×Int)}{ent:LI}{ps:List T4}(hN:4294967296≤N)(hs:NSz S E)(h:NRt S E)(hf: ∀s∈S,s.1.length≤100)(hw:SetW S)(hI:PInv (sets S) ps)(hps:ps.Pairwise fun p q=>tl p<tl q)
 (hB:Bld S.length os ms mp) (hos:os.length≤200) (hT:T≤200) (h1: ∀i,i<T→i<(Qs S os i).length∧(Qs S os (i+1)).length≤200) (h2:(Qs S os T).length≤T∨(T<(Qs S os T).length∧200<(Qs S os (T+1)).length)):
 ∃r:(List LI)×LI×(List (ByteArray×Int))×(List (LI×Int))×Int,iterO N (fun s=>F_59 N S E ent ps s.1 s.2.1 s.2.2.1 s.2.2.2.1 s.2.2.2.2.1 s.2.2.2.2.2) (List.replicate os.length (List.replicate 256 0),os.map (ruR S),mp,ms,0,0)=some r∧
   if(Qs S os T).length≤T then r.1=(List.range T).map (rowAt S os)∧r.2.1=(Qs S os T).map (ruR S)∧r.2.2.2.2=0 else r.2.2.2.2=9:=by
 have hQl: ∀k,k≤T→(Qs S os k).length≤200:=fun k hk=>by
  cases k with
  |zero=>exact hos
  |succ k=>exact(h1 k Om).2
 let st:Nat→(List LI)×LI×(List (ByteArray×Int))×(List (LI×Int))×Int→(List LI)×LI×(List (ByteArray×Int))×(List (LI×Int))×Int×Int:=fun k s=>(s.1,s.2.1,s.2.2.1,s.2.2.2.1,s.2.2.2.2,(k:Int));let I:Nat→(List LI)×LI×(List (ByteArray×Int))×(List (LI×Int))×Int→Prop:=fun k s=>s.1=rowsP S os k∧s.2.1=(Qs S os k).map (ruR S)∧Bld S.length (Qs S os k) s.2.2.2.1 s.2.2.1∧s.2.2.2.2=0;have hI0:I 0 (List.replicate os.length (List.replicate 256 0),os.map (ruR S),mp,ms,0):=⟨by simp[rowsP,Qs],rfl,hB,rfl⟩
 have hst: ∀k s,k≤T→k<(Qs S os k).length→I k s→ ∃s',F_59 N S E ent ps s.1 s.2.1 s.2.2.1 s.2.2.2.1 s.2.2.2.2 (k:Int)=some (.inl (st (k+1) s'))∧(if(Qs S os (k+1)).length≤200 then I (k+1) s' else s'.2.2.2.2=9):=by
  intro k s hk hlt hII;obtain⟨rows1,rule1,mp1,ms1,e1⟩:=s;obtain⟨q1,q2,q3,q4⟩:=hII;simp only at q1 q2 q3 q4;subst q2;subst q4;have hi:=List.getElem?_eq_getElem hlt;generalize(Qs S os k)[k]=o at hi;have hl:=hQl k hk;have hml:=q3.len
  obtain⟨rows',mp',ms',g1,g2,g3,g4⟩:=row_spec (rows:=rows1) (ent:=ent) (e:=0) (i:=k) (ps:=ps) hN hs h hf hw hI q3 hl hi (by rw[q1];simp[rowsP];omega)
   (by rw[q1];unfold rowsP;rw[List.getElem?_append_right Sm];simp only[List.length_map,List.length_range,Nat.sub_self];rw[List.getElem?_replicate,if_pos Om])
  have hpb:=parts_bytes (o:=o) (os:=Qs S os k) hI hps;rw[←Qs_succ hi]at hpb;refine⟨(rows',((Gof S o ps).foldl cad (Qs S os k,0)).1.map (ruR S),mp',ms',((Gof S o ps).foldl cad (Qs S os k,0)).2),?_,?_⟩
  ·unfold F_59;simp only[show((k:Int)<(ms1.length:Int)) by omega,decide_true,if_true,show eOk errIds 0=false by decide,Bool.not_false,bind,Option.bind_some];rw[g1];simp only[Option.bind_some];rw[w64_succ Om]
  by_cases c:(Qs S os (k+1)).length≤200
  ·rw[if_pos c];have hc:=capA (l:=Gof S o ps) (os:=Qs S os k) (e:=0) (by rw[hpb];exact c);rw[hpb]at hc g4;refine⟨?_,?_,?_,?_⟩
   ·simp only;rw[g4 c,q1,←rowsP_succ hlt]
    congr 1
    unfold rowAt;rw[List.getD,hi];rfl
   ·simp only;rw[hc]
   ·simp only;rw[hc]at g2;exact g2
   simp only;rw[hc]
  rw[if_neg c];exact capB hl (by rw[hpb];omega)
 by_cases hh:(Qs S os T).length≤T
 ·obtain⟨s,e1,e2⟩:=loop_inv (f:=fun s:(List LI)×LI×(List (ByteArray×Int))×(List (LI×Int))×Int×Int=>F_59 N S E ent ps s.1 s.2.1 s.2.2.1 s.2.2.2.1 s.2.2.2.2.1 s.2.2.2.2.2) st (fun s=>s) (List.range T) I (N:=N) (s:=(List.replicate os.length (List.replicate 256 0),os.map (ruR S),mp,ms,0)) (by simp;omega) hI0
   (fun k x s hx hII=>by
    have hk:k<T:=by have:=lt_len hx;simpa using this
    obtain⟨s',z1,z2⟩:=hst k s Om (h1 k hk).1 hII;rw[if_pos (h1 k hk).2]at z2;exact⟨s',z1,z2⟩)
   (fun s hII=>by
    simp only[List.length_range]at hII ⊢;have hml:=hII.2.2.1.len;show F_59 N S E ent ps s.1 s.2.1 s.2.2.1 s.2.2.2.1 s.2.2.2.2 (T:Int)=_;unfold F_59;simp only[show¬((T:Int)<(s.2.2.2.1.length:Int)) by omega,decide_false,Bool.false_eq_true,if_false,bind,Option.bind_some])
  rw[List.length_range]at e2;refine⟨s,e1,?_⟩;rw[if_pos hh];refine⟨?_,e2.2.1,e2.2.2.2⟩;rw[e2.1];unfold rowsP;rw[show(Qs S os T).length-T=0 by omega];simp
 have hgt:T<(Qs S os T).length∧200<(Qs S os (T+1)).length:=by omega
 obtain⟨s,e1,e2⟩:=loop_inv (f:=fun s:(List LI)×LI×(List (ByteArray×Int))×(List (LI×Int))×Int×Int=>F_59 N S E ent ps s.1 s.2.1 s.2.2.1 s.2.2.2.1 s.2.2.2.2.1 s.2.2.2.2.2) st (fun s=>s) (List.range (T+1)) (fun k s=>(k≤T→I k s)∧(k=T+1→s.2.2.2.2=9)) (N:=N) (s:=(List.replicate os.length (List.replicate 256 0),os.map (ruR S),mp,ms,0)) (by simp;omega) ⟨fun _=>hI0,fun e=>by omega⟩
  (fun k x s hx hII=>by
   have hk:k<T+1:=by have:=lt_len hx;simpa using this
   obtain⟨s',z1,z2⟩:=hst k s Om (by
    by_cases c:k<T
    ·exact(h1 k c).1
    obtain rfl:k=T:=by omega
    exact hgt.1) (hII.1 Om)
   refine⟨s',z1,fun hk2=>?_,fun hk2=>?_⟩
   ·rw[if_pos (h1 k Om).2]at z2;exact z2
   obtain rfl:k=T:=by omega
   rw[if_neg Om]at z2;exact z2)
  (fun s hII=>by
   simp only[List.length_range]at hII ⊢;have h9:s.2.2.2.2=9:=by simpa using hII.2
   show F_59 N S E ent ps s.1 s.2.1 s.2.2.1 s.2.2.2.1 s.2.2.2.2 ((T+1:Nat):Int)=_;unfold F_59
   have e:(if decide (((T+1:Nat):Int)<(s.2.2.2.1.length:Int))=true then some (!(eOk errIds s.2.2.2.2))else some false:Option Bool)=some false:=by
    rw[h9];split<;>rfl
   rw[e];simp only[bind,Option.bind_some,Bool.false_eq_true,if_false])
 rw[List.length_range]at e2;refine⟨s,e1,?_⟩;rw[if_neg hh];exact e2.2 rfl
theorem build_spec{T:Nat}(hN:4294967296≤N)(hs:NSz S E)(h:NRt S E)(hf: ∀s∈S,s.1.length≤100)(hw:SetW S)(hT:T≤200)(h1: ∀i,i<T→i<(Qs S (osE S E E.length) i).length∧(Qs S (osE S E E.length) (i+1)).length≤200)
 (h2:(Qs S (osE S E E.length) T).length≤T∨(T<(Qs S (osE S E E.length) T).length∧200<(Qs S (osE S E E.length) (T+1)).length)):
 F_19 N S E=some (if(Qs S (osE S E E.length) T).length≤T then((List.range T).map (rowAt S (osE S E E.length)),(Qs S (osE S E E.length) T).map (ruR S),entE S E E.length,0)else([],[],[],9)):=by
 have he2:=h.e2;have hol:=osE_len (S:=S) (E:=E) E.length;obtain⟨m,w1,w2⟩:=wbeg_of (cond:= -1) hN hs h hf;obtain⟨mp0,ms0,z1,z2⟩:=state1_spec (e:=0) (rows:=[]) (ent:=[]) hN hs h Bld.nil w2 Sm rfl;obtain⟨mp1,ms1,y1,y2⟩:=build_l0 (rows:=List.replicate 1 (List.replicate 256 0)) (rule:=[begR S E (-1)].map (ruR S)) (mp:=mp0) (ms:=ms0) hN hs h hf rfl rfl z2;obtain⟨ps,p1,_,p3⟩:=nfaBytes_spec hN hs hw;obtain⟨hI,hps⟩:=p3 ((rtB_iff S E).2 h);obtain⟨r,r1,r2⟩:=build_l1 (ent:=entE S E E.length) hN hs h hf hw hI hps y2 Om hT h1 h2;unfold F_19;rw[nfaRight_spec hN hs,(rtB_iff S E).2 h];simp only[bind,Option.bind_some,Bool.not_true,Bool.false_eq_true,if_false,w1];rw[show F_68 N [] [] [] S E ([]:List (ByteArray×Int)) [] m (S.length:Int)=_ from z1];simp only[Option.bind_some];rw[show iterO N (fun s=>F_72 N S E s.1 s.2.1 s.2.2.1 s.2.2.2.1 s.2.2.2.2.1 s.2.2.2.2.2.1 s.2.2.2.2.2.2) (0,[]++List.replicate ((cad ([],0) (begR S E (-1))).1.length-([]:List Row).length) (List.replicate 256 0),(cad ([],0) (begR S E (-1))).1.map (ruR S),[],mp0,ms0,(cad ([],0) (begR S E (-1))).2)=_ from y1];simp only[Option.bind_some,p1];rw[r1];simp only[Option.bind_some];by_cases c:(Qs S (osE S E E.length) T).length≤T
 ·rw[if_pos c]at r2 ⊢;rw[r2.1,r2.2.1,r2.2.2];rw[if_neg (by decide)]
 rw[if_neg c]at r2 ⊢;rw[r2,if_pos (by decide)]
theorem build_not(hN:4294967296≤N)(hs:NSz S E)(h:rtB S E=false):F_19 N S E=some ([],[],[],4):=by
 unfold F_19;rw[nfaRight_spec hN hs,h];rfl
theorem refBuild_not(hN:4294967296≤N)(hs:NSz S E)(h:rtB S E=false):F_11 N S E=some ([],[],[],4):=by
 unfold F_11;rw[nrefRight_spec hN hs,h];rfl
theorem refBuild_spec{T:Nat}(hN:4294967296≤N)(hs:NSz S E)(h:NRt S E)(hf: ∀s∈S,s.1.length≤100)(hw:SetW S)(hT:T≤200)(h1: ∀i,i<T→i<(Qs S (osE S E E.length) i).length∧(Qs S (osE S E E.length) (i+1)).length≤200)
 (h2:(Qs S (osE S E E.length) T).length≤T∨(T<(Qs S (osE S E E.length) T).length∧200<(Qs S (osE S E E.length) (T+1)).length)):
 F_11 N S E=some (if(Qs S (osE S E E.length) T).length≤T then((List.range T).map (rowAt S (osE S E E.length)),rulR S (osE S E E.length) T,entE S E E.length,0)else([],[],[],9)):=by
 have hn2:=h.n2;have he2:=h.e2;have hol:=osE_len (S:=S) (E:=E) E.length;unfold F_11;rw[nrefRight_spec hN hs,(rtB_iff S E).2 h,mk_eq Om];simp only[bind,Option.bind_some,Bool.not_true,Bool.false_eq_true,if_false]
 obtain⟨s,e1,e2⟩:=loop_inv (f:=fun s:Int×List Row×LI=>F_120 N S E s.1 s.2.1 s.2.2) (fun k (s:List Row×LI)=>((k:Int),s)) id E (fun k s=>s=(osE S E k,entE S E k)) (N:=N) (s:=([List.replicate S.length false],[])) Om
  (by rw[←beg_none (E:=E)];simp[osE,Be,entE])
  (fun k x s hx hI=>by
   subst hI;have hk:=lt_len hx;have hok:=osE_len (S:=S) (E:=E) k;have hmem:=osE_mem (S:=S) (E:=E) (show k<k+1 by omega);unfold F_120;simp only[show((k:Int)<(E.length:Int)) by omega,decide_true,if_true,bind];rw[refBeg_of hN h hf];simp only[Option.bind_some];rw[place_specB hN (fun p hp=>by rw[osE_ln p hp,begR_len]) (by rw[begR_len];omega) Om];simp only[Option.bind_some];have ha:=adO (o:=begR S E (k:Int)) (os:=osE S E k) Om;simp only[bind]at ha;rw[ha];simp only[Option.bind_some];rw[app_eq (by simp[entE];omega),w64_succ Om];refine⟨_,rfl,?_⟩;rw[idx_adR,←osE_succ,←idx_pre (osE_pre (show k+1≤E.length by omega)) hmem];unfold entE;rw[List.range_succ,List.map_append,List.map_singleton])
  (fun s _=>by unfold F_120;simp)
 rw[show iterO N (fun s=>F_120 N S E s.1 s.2.1 s.2.2) (0,[List.replicate S.length false],[])=_ from e1,e2];simp only[id,Option.bind_some];rw[refB_l1 hN h hf hw osE_ln Om hT h1 h2];by_cases c:(Qs S (osE S E E.length) T).length≤T
 ·rw[if_pos c,if_pos c];rfl
 rw[if_neg c,if_neg c];rfl
end
open Go Go.Eng
set_option maxRecDepth 100000
theorem num_nil:F_35 N 0=some 0:=by
 unfold F_35;rw[if_pos (by decide)]
theorem num_form(hN:100≤N):F_35 N 4=some 4:=by
 unfold F_35;rw[if_neg (by decide)]
 have h:=iterO_for0 (f:=fun s=>F_115 N 4 s) (fun i=>(i:Int)) 3 (r:=(.inr 4:Unit ⊕ Int)) (N:=N) rfl Om (fun i hi=>by
  match i,hi with
  |0,_=>rfl
  |1,_=>rfl
  |2,_=>rfl) rfl
 rw[show iterO N (fun s=>F_115 N 4 s) 0=_ from h];rfl
theorem num_limit(hN:100≤N):F_35 N 9=some 9:=by
 unfold F_35;rw[if_neg (by decide)]
 have h:=iterO_for0 (f:=fun s=>F_115 N 9 s) (fun i=>(i:Int)) 8 (r:=(.inr 9:Unit ⊕ Int)) (N:=N) rfl Om (fun i hi=>by
  match i,hi with
  |0,_=>rfl
  |1,_=>rfl
  |2,_=>rfl
  |3,_=>rfl
  |4,_=>rfl
  |5,_=>rfl
  |6,_=>rfl
  |7,_=>rfl) rfl
 rw[show iterO N (fun s=>F_115 N 9 s) 0=_ from h];rfl
theorem rowAt_len{S:List Stt}{os:List Row}{i:Nat}:(rowAt S os i).length=256:=by simp[rowAt]
section
variable {N:Nat}{S:List Stt}{E:LI}
theorem lrule_rng(h:NRt S E)(f:Nat→Bool): -1≤lrule S f∧lrule S f<48:=by
 have key: ∀(l:List Nat) (a:Int),-1≤a∧a<48→ -1≤l.foldl (stepR S) a∧l.foldl (stepR S) a<48:=by
  intro l
  induction l with
  |nil=>exact fun a ha=>ha
  |cons j l ih=>
    intro a ha;rw[List.foldl_cons];refine ih _ ?_;unfold stepR;split
    ·unfold rul
     cases hj:S[j]? with
     |none=>simp
     |some s=>have:=h.rul s (List.mem_of_getElem? hj);simp;omega
    exact ha
 exact key _ _ ⟨by omega,by omega⟩
theorem none_bo{n j:Nat}:bo (List.replicate n false) j=false:=by unfold bo;rw[List.getD,List.getElem?_replicate];split<;>rfl
theorem none_stp(c:Int):stpR S (List.replicate S.length false) c=List.replicate S.length false:=by
 symm;refine eq_mkRow Sm fun j _=>?_
 have h1:stepL S (bo (List.replicate S.length false)) c= []:=by
  unfold stepL;rw[List.filter_eq_nil_iff.2 (fun x _=>by rw[none_bo];simp)];rfl
 rw[h1,none_bo];exact⟨fun h=>(by cases h),fun h=>(rch_nil h).elim⟩
theorem none_rule:lrule S (bo (List.replicate S.length false))= -1:=by
 unfold lrule;rw[List.filter_eq_nil_iff.2 (fun x _=>by rw[none_bo];simp)];rfl
theorem Qs_mono{os:List Row}{i j:Nat}(h:i≤j):Qs S os i <+: Qs S os j:=by
 induction j with
 |zero=>
           obtain rfl:i=0:=by omega
           exact List.prefix_refl _
 |succ j ih=>
   by_cases c:i=j+1
   ·subst c;exact List.prefix_refl _
   exact(ih Om).trans Qs_pre
theorem built{T:Nat}(h:NRt S E)(hT:T≤200)(h1: ∀i,i<T→i<(Qs S (osE S E E.length) i).length∧(Qs S (osE S E E.length) (i+1)).length≤200)(h2:(Qs S (osE S E E.length) T).length≤T):
 (Qs S (osE S E E.length) T).length=T∧rulR S (osE S E E.length) T=(Qs S (osE S E E.length) T).map (ruR S)∧Rt ((List.range T).map (rowAt S (osE S E E.length))) ((Qs S (osE S E E.length) T).map (ruR S)) (entE S E E.length):=by
 have hE1:=h.e1;have hE2:=h.e2
 have h00: [List.replicate S.length false] <+: osE S E E.length:=by
  have:=osE_pre (S:=S) (E:=E) (show 0≤E.length by omega);rw[show osE S E 0= [List.replicate S.length false] by rw[←beg_none (E:=E)];simp[osE,Be]]at this;exact this
 have hz: ∀i,(Qs S (osE S E E.length) i)[0]? =some (List.replicate S.length false):=fun i=>get_pre (h00.trans (Qs_mono (S:=S) (os:=osE S E E.length) (Nat.zero_le i))) rfl;have hpos:0<(Qs S (osE S E E.length) T).length:=lt_len (hz T)
 have hTl:(Qs S (osE S E E.length) T).length=T:=by
  refine Nat.le_antisymm h2 ?_
  cases T with
  |zero=>omega
  |succ t=>
    have a:=(h1 t Om).1;have b:=(Qs_pre (S:=S) (os:=osE S E E.length) (i:=t)).length_le;omega
 have hru:rulR S (osE S E E.length) T=(Qs S (osE S E E.length) T).map (ruR S):=by
  unfold rulR;apply List.ext_getElem
  ·simp[hTl]
  intro i a b;simp only[List.getElem_map,List.getElem_range];simp only[List.length_map,List.length_range]at a;have e1:=List.getElem?_eq_getElem (h1 i a).1;have e2:=get_pre (Qs_mono (S:=S) (os:=osE S E E.length) (show i≤T by omega)) e1;rw[List.getD,e1];obtain⟨g1,g2⟩:=List.getElem?_eq_some_iff.1 e2;rw[g2];rfl
 refine⟨hTl,hru,?_⟩;constructor
 ·simp;omega
 ·simpa using hT
 ·simp[hTl]
 ·simp[entE];omega
 ·simp[entE];omega
 ·intro r hr x hx;obtain⟨i,hi,rfl⟩:=List.mem_map.1 hr;have hi':i<T:=by simpa using hi
  obtain⟨c,hc,rfl⟩:=List.mem_map.1 hx;have e1:=List.getElem?_eq_getElem (h1 i hi').1
  have hmem:stpR S ((Qs S (osE S E E.length) i).getD i []) (c:Int)∈Qs S (osE S E E.length) (i+1):=by
   rw[Qs_succ e1,mem_adRs];right;rw[List.getD,e1];exact List.mem_map.2 ⟨c,hc,rfl⟩
  have a:=List.idxOf_lt_length_iff.2 hmem;have b:=(Qs_mono (S:=S) (os:=osE S E E.length) (show i+1≤T by omega)).length_le;simp only[List.length_map,List.length_range];omega
 ·intro x hx;obtain⟨o,_,rfl⟩:=List.mem_map.1 hx;exact lrule_rng h _
 ·intro x hx;obtain⟨j,hj,rfl⟩:=List.mem_map.1 hx;have a:=List.idxOf_lt_length_iff.2 (osE_mem (S:=S) (E:=E) (show j<E.length by simpa using hj));have b:=(Qs_mono (S:=S) (os:=osE S E E.length) (Nat.zero_le T)).length_le;have c:(Qs S (osE S E E.length) 0).length=(osE S E E.length).length:=rfl;simp only[List.length_map,List.length_range];omega
 ·have hT0:0<T:=by omega
  rw[List.getElem?_map,List.getElem?_range hT0];simp only[Option.map_some,Option.some.injEq];unfold rowAt;rw[List.eq_replicate_iff];refine⟨by simp,fun x hx=>?_⟩;obtain⟨c,_,rfl⟩:=List.mem_map.1 hx;rw[List.getD,hz 0];simp only[Option.getD_some,none_stp]
  have:(Qs S (osE S E E.length) (0+1)).idxOf (List.replicate S.length false)=0:=by
   rw[idx_pre (h00.trans (Qs_mono (S:=S) (os:=osE S E E.length) (Nat.zero_le (0+1)))) Sm];simp
  rw[this];rfl
 rw[List.getElem?_map,hz T];simp only[Option.map_some,Option.some.injEq];exact none_rule
end
open Go Go.Eng
set_option maxRecDepth 100000
section
variable {N:Nat}{rows:List LI}{rule entry:LI}
theorem rch_ord(h:Rt rows rule entry){s:Int}(hr:Rch rows entry s):s∈ord rows entry:=by
 obtain⟨hA,hp,hc⟩:=ord_props h
 induction hr with
 |zero=>exact(ord_zero h).1
 |ent hx=>exact hp.subset (mem_insAll.2 (.inr hx))
 |step _ hy ih=>exact hc _ ih _ hy
theorem rch_re(h:Rt rows rule entry){s:Int}(hr:Rch rows entry s):Rch (reRows (ord rows entry) rows) (reEntry (ord rows entry) entry) (pl (ord rows entry) s):=by
 induction hr with
 |zero=>rw[(ord_zero h).2.1];exact .zero
 |ent hx=>exact .ent (List.mem_map_of_mem hx)
 |step hr hy ih=>
   refine .step ih ?_;rw[reRows_get (rch_ord h hr)];exact List.mem_map_of_mem hy
theorem lv_re(h:Rt rows rule entry){s:Int}(hr:Rch rows entry s)(hl:Lv rows rule s):Lv (reRows (ord rows entry) rows) (reRule (ord rows entry) rule) (pl (ord rows entry) s):=by
 have hrg: ∀x,0≤pl (ord rows entry) x∧pl (ord rows entry) x<((reRows (ord rows entry) rows).length:Int):=fun x=>by
  have:=pl_rng (x:=x) (ord_zero h).2.2;simpa[reRows]using this
 induction hl with
 |here a0 a1 a2=>
   refine .here (hrg _).1 (hrg _).2 ?_;rw[rule_re (rch_ord h hr)];exact a2
 |step a0 a1 a2 a3 ih=>
   refine .step (hrg _).1 (hrg _).2 ?_ (ih (.step hr a2));rw[reRows_get (rch_ord h hr)];exact List.mem_map_of_mem a2
theorem fold_re(hs:Sz rows rule entry)(h:Rt rows rule entry): ∀{t:LI} {s:Int},Byt t→s∈ord rows entry→
 t.foldl (nxt (reRows (ord rows entry) rows)) (pl (ord rows entry) s)=pl (ord rows entry) (t.foldl (nxt rows) s)∧t.foldl (nxt rows) s∈ord rows entry
 | [],_,_,hm=>⟨rfl,hm⟩
 |c::t,s,hb,hm=>by
   obtain⟨h1,h2⟩:=nxt_re hs h hm (hb c Sm);simp only[List.foldl_cons,h1];exact fold_re hs h (fun x hx=>hb x (by simp[hx])) h2
theorem lst_re(hs:Sz rows rule entry)(h:Lst rows rule entry):Lst (reRows (ord rows entry) rows) (reRule (ord rows entry) rule) (reEntry (ord rows entry) entry):=by
 obtain⟨hR,hk,hC⟩:=h;obtain⟨hA,hp,hc⟩:=ord_props hR;have hln:(reRows (ord rows entry) rows).length=(ord rows entry).length:=by simp[reRows]
 have hkp: ∀s:Int,0≤s∧s<(rows.length:Int)→s=0∨Rch rows entry s∧Lv rows rule s:=fun s hs=>by
  have hm:s∈kp rows rule entry:=by
   rw[kp_full hk];unfold upto;exact List.mem_map.2 ⟨s.toNat,List.mem_range.2 Om,by omega⟩
  exact(mem_kp hR).1 hm
 refine⟨re_right hR,?_,?_⟩
 ·have:kp (reRows (ord rows entry) rows) (reRule (ord rows entry) rule) (reEntry (ord rows entry) entry)=upto (reRows (ord rows entry) rows).length:=by
   refine lst_all fun j hj=>?_;have hj':j<(ord rows entry).length:=by rwa[hln]at hj
   unfold kpf;rw[Bool.or_eq_true,Bool.and_eq_true,rch_iff,lv_iff,beq_iff_eq];have hpg:=pl_get hA.nd hj';rcases hkp _ (hA.rng _ (List.getElem_mem hj'))with h0|⟨h1,h2⟩
   ·left;rw[h0,(ord_zero hR).2.1]at hpg;omega
   right;have a1:=rch_re hR h1;have a2:=lv_re hR h1 h2;rw[hpg]at a1 a2;exact⟨a1,a2⟩
  rw[this,upto_len]
 rw[hln];refine cls_upto hln fun a b ha hb hab=>?_;have hga:(ord rows entry)[a.toNat]'Om∈ord rows entry:=List.getElem_mem _;have hgb:(ord rows entry)[b.toNat]'Om∈ord rows entry:=List.getElem_mem _;have pa:=pl_get hA.nd (show a.toNat<(ord rows entry).length by omega);have pb:=pl_get hA.nd (show b.toNat<(ord rows entry).length by omega);generalize(ord rows entry)[a.toNat]'Om=s at hga pa;generalize(ord rows entry)[b.toNat]'Om=t at hgb pb;have ea:a=pl (ord rows entry) s:=by omega
 have eb:b=pl (ord rows entry) t:=by omega
 have hst:Alk rows rule s t:=fun x hx=>by
  have q:=hab x hx;obtain⟨f1,f2⟩:=fold_re hs hR hx hga;obtain⟨g1,g2⟩:=fold_re hs hR hx hgb;rw[ea,eb,f1,g1,rule_re f2,rule_re g2]at q;exact q
 have hs1:=hA.rng s hga;have ht1:=hA.rng t hgb;have:=(hC.pt_iff hs1 ht1).2 hst;rw[pt_upto hs1,pt_upto ht1]at this;rw[ea,eb,this]
theorem cn_all(hN:4294967296≤N)(hs:Sz rows rule entry)(h:Lst rows rule entry):
 F_163 N (reRows (ord rows entry) rows) (reRule (ord rows entry) rule) (reEntry (ord rows entry) entry)=some true∧F_167 N (reRows (ord rows entry) rows) (reRule (ord rows entry) rule) (reEntry (ord rows entry) entry)=some true:=by
 have hz:=re_sz hs h.1;obtain⟨b,hb,hbt⟩:=isCanon_spec (N:=N) hN hz;obtain⟨b',hb',hbt'⟩:=isLeast_spec (N:=N) hN hz;obtain rfl:=hbt.2 ⟨re_right h.1,re_canon h.1⟩;obtain rfl:=hbt'.2 (lst_re hs h);exact⟨hb,hb'⟩
end
theorem sz0:Sz [] [] []:=⟨by simp,by simp,by simp,by simp⟩
theorem canonOf_true{S:List Stt}{E:LI}(hw:SetW S):F_114 4294967296 S E=some true:=by
 unfold F_114;simp only[alive20,bind,Option.bind_some,Bool.not_true,Bool.false_eq_true,if_false];generalize hN':(4294967296:Nat)=N;have hN:4294967296≤N:=by omega
 clear hN';obtain⟨p,hp,hq⟩:=of15_spec (N:=N) (S:=S) (E:=E) (m:=6) hN Om;rw[hp];simp only[Option.bind_some]
 cases h2:p.2 with
 |false=>simp
 |true=>
   obtain⟨e,hl,hE,hf⟩:=hq h2;have hs:NSz S E:=⟨by omega,by omega,fun s hs=>by have:=hf s hs;omega⟩;simp only[Bool.not_true,Bool.false_eq_true,if_false,e];unfold F_211 F_213
   cases hr:rtB S E with
   |false=>
     rw[build_not hN hs hr,refBuild_not hN hs hr];simp only[bind,Option.bind_some];rw[if_pos (by decide),if_pos (by decide)];simp only[Option.bind_some];rw[num_form Om];simp[of_spec hN sz0]
   |true=>
     have h:=(rtB_iff S E).1 hr;obtain⟨T,hT,t1,t2⟩:=Qs_end S (osE S E E.length);rw[build_spec hN hs h hf hw hT t1 t2,refBuild_spec hN hs h hf hw hT t1 t2];simp only[bind,Option.bind_some];by_cases c:(Qs S (osE S E E.length) T).length≤T
     ·rw[if_pos c,if_pos c];obtain⟨b1,b2,b3⟩:=built h hT t1 c;rw[b2];have hE2:=h.e2
      have hsz:Sz ((List.range T).map (rowAt S (osE S E E.length))) ((Qs S (osE S E E.length) T).map (ruR S)) (entE S E E.length):=
       ⟨fun r hr=>by obtain⟨i,_,rfl⟩:=List.mem_map.1 hr;exact rowAt_len,by simp;omega,by simp;omega,by simp[entE];omega⟩
      generalize(List.range T).map (rowAt S (osE S E E.length))=rows at hsz b3;generalize(Qs S (osE S E E.length) T).map (ruR S)=rule at hsz b3;generalize entE S E E.length=entry at hsz b3;obtain⟨P,m,hC⟩:=cls_ex (t_sz hsz b3) (t_right b3);have hA:=least_lst hsz b3 hC;have hAs:=mg_sz (t_sz hsz b3) (t_right b3) hC;obtain⟨k1,k2⟩:=cn_all hN hAs hA;have hz:=re_sz hAs hA.1;have hrr:=re_right hA.1;simp only;rw[if_neg (by decide),if_neg (by decide)];simp only[least_spec hN hsz b3 hC,refTrim_spec hN hsz b3,refMerge_spec hN (t_sz hsz b3) (t_right b3) hC,canon_spec hN hAs hA.1,refCanon_spec hN hAs hA.1,Option.bind_some];rw[num_nil];simp only[Option.bind_some];rw[if_neg (by decide),of_spec hN hz,if_neg (by have a1:=hrr.n2;have a2:=hrr.ru;have a3:=hrr.e2;omega)];simp only[Option.bind_some];rw[same_spec hN hz];simp[k1,k2]
     rw[if_neg c,if_neg c];simp only;rw[if_pos (by decide),if_pos (by decide)];simp only[Option.bind_some];rw[num_limit Om];simp[of_spec hN sz0]
end Go.Proofs.YtchjfkdljnmmgaaGreatDoor
