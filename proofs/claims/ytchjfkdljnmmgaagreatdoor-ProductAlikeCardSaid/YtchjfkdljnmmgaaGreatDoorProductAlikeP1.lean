import Derived.Test.YtchjfkdljnmmgaaGreatDoorProductAlikeD1
import Derived.Test.YtchjfkdljnmmgaaGreatDoorProg
namespace Go.Eng
open Go
theorem iterO_for{σ τ:Type}{f:σ→Option (σ ⊕ τ)}{r:τ}(st:Nat→σ): ∀(n:Nat) {N k:Nat},n<N→(∀i,k≤i→i<k+n→f (st i)=some (.inl (st (i+1))))→f (st (k+n))=some (.inr r)→iterO N f (st k)=some r
 |0,0,_,h,_,_=>absurd h (Nat.not_lt_zero _)
 |0,N+1,k,_,_,he=>by simp only[iterO];rw[show f (st k)=_ from he]
 |n+1,0,_,h,_,_=>absurd h (Nat.not_lt_zero _)
 |n+1,N+1,k,h,hs,he=>by
   simp only[iterO];rw[hs k (Nat.le_refl _) (by omega)];exact iterO_for st n (by omega) (fun i h1 h2=>hs i (by omega) (by omega)) (by rw[show k+1+n=k+(n+1) by omega];exact he)
theorem iterO_for0{σ τ:Type}{f:σ→Option (σ ⊕ τ)}{r:τ}{s:σ}(st:Nat→σ)(n:Nat){N:Nat}(h0:st 0=s)(hN:n<N)(hs: ∀i,i<n→f (st i)=some (.inl (st (i+1))))(he:f (st n)=some (.inr r)):iterO N f s=some r:=by
 subst h0;exact iterO_for st n hN (fun i _ h=>hs i (by omega)) (by rw[Nat.zero_add];exact he)
theorem iterO_while{σ τ:Type}{f:σ→Option (σ ⊕ τ)}(I:σ→Prop)(μ:σ→Nat)(Q:τ→Prop)(step: ∀s,I s→(∃s',f s=some (.inl s')∧I s'∧μ s'<μ s)∨ ∃r,f s=some (.inr r)∧Q r):
 ∀{N:Nat} {s:σ},I s→μ s<N→ ∃r,iterO N f s=some r∧Q r
 |0,_,_,h=>absurd h (Nat.not_lt_zero _)
 |N+1,s,hI,h=>by
   rcases step s hI with⟨s',h1,h2,h3⟩|⟨r,h1,h2⟩
   ·obtain⟨r,h4,h5⟩:=iterO_while I μ Q step (N:=N) h2 (by omega);exact⟨r,by simp only[iterO,h1];exact h4,h5⟩
   exact⟨r,by simp only[iterO,h1],h2⟩
theorem wrap64{x:Int}(h1: -9223372036854775808≤x)(h2:x≤9223372036854775807):IntKind.wrap .i64 x=x:=by
 simp only[IntKind.wrap,IntKind.signed,IntKind.bits];simp;omega
theorem wrapU64{x:Int}(h1:0≤x)(h2:x≤18446744073709551615):IntKind.wrap .u64 x=x:=by
 simp only[IntKind.wrap,IntKind.signed,IntKind.bits];simp;omega
theorem w64_succ{n:Nat}(h:n<9223372036854775807):w64 ((n:Int)+1)=((n+1:Nat):Int):=by
 rw[w64,wrap64]<;>omega
theorem idx_nat{α:Type}{xs:List α}{i:Nat}(h:i<xs.length):idx xs (i:Int)=some xs[i]:=by simp[idx,h]
theorem idx_int{α:Type}{xs:List α}{i:Int}(h0:0≤i)(h:i.toNat<xs.length):idx xs i=some xs[i.toNat]:=by simp[idx,h,h0]
theorem idx_of{α:Type}{xs:List α}{i:Nat}{x:α}(h:xs[i]? =some x):idx xs (i:Int)=some x:=by simp[idx,h]
theorem setI_nat{α:Type}{xs:List α}{i:Nat}{x:α}(h:i<xs.length):setI xs (i:Int) x=some (xs.set i x):=by simp[setI,h]
theorem setI_int{α:Type}{xs:List α}{i:Int}{x:α}(h0:0≤i)(h:i.toNat<xs.length):setI xs i x=some (xs.set i.toNat x):=by simp[setI,h,h0]
theorem app_eq{α:Type}{xs ys:List α}(h:xs.length+ys.length≤4294967296):app xs ys=some (xs++ys):=by simp[app,h]
theorem mk_eq{α:Type}{z:α}{n:Nat}(h:n≤4294967296):mk z (n:Int)=some (List.replicate n z):=by
 simp[mk];omega
theorem loop_find{α τ:Type}{f:Int→Option (Int ⊕ (Unit ⊕ τ))}(xs:List α)(p:α→Bool)(g:Nat→τ){N:Nat}(hN:xs.length<N)
 (hb: ∀(i:Nat) (x:α),xs[i]? =some x→f (i:Int)=if p x then some (.inr (.inr (g i)))else some (.inl ((i+1:Nat):Int))) (he:f (xs.length:Int)=some (.inr (.inl ()))):
 iterO N f 0=some (match xs.findIdx? p with|some i=> .inr (g i)|none=> .inl ()):=by
 cases h:xs.findIdx? p with
 |none=>
   have h':=List.findIdx?_eq_none_iff.1 h;refine iterO_for0 (fun i=>(i:Int)) xs.length rfl hN (fun i hi=>?_) he;rw[hb i xs[i] (List.getElem?_eq_getElem hi),h' _ (List.getElem_mem hi)];simp
 |some k=>
   obtain⟨hk,hp,hlt⟩:=List.findIdx?_eq_some_iff_getElem.1 h;refine iterO_for0 (fun i=>(i:Int)) k rfl (by omega) (fun i hi=>?_) ?_
   ·rw[hb i _ (List.getElem?_eq_getElem (by omega))];have:=hlt i hi;simp[this]
   rw[hb k _ (List.getElem?_eq_getElem hk)];simp[hp]
theorem loop_any{α τ:Type}{f:Int→Option (Int ⊕ (Unit ⊕ τ))}(xs:List α)(p:α→Bool)(b:τ){N:Nat}(hN:xs.length<N)
 (hb: ∀(i:Nat) (x:α),xs[i]? =some x→f (i:Int)=if p x then some (.inr (.inr b))else some (.inl ((i+1:Nat):Int))) (he:f (xs.length:Int)=some (.inr (.inl ()))):
 iterO N f 0=some (if xs.any p then .inr b else .inl ()):=by
 rw[loop_find xs p (fun _=>b) hN hb he]
 cases h:xs.findIdx? p with
 |none=>
   have h':=List.findIdx?_eq_none_iff.1 h;have:xs.any p=false:=by rw[List.any_eq_false];intro x hx;rw[h' x hx];simp
   simp[this]
 |some k=>
   obtain⟨hk,hp,hlt⟩:=List.findIdx?_eq_some_iff_getElem.1 h;have:xs.any p=true:=List.any_eq_true.2 ⟨_,List.getElem_mem hk,hp⟩;simp[this]
theorem loop_fold{α σ τ:Type}{ι:Type}{f:ι→Option (ι ⊕ τ)}(st:Nat→σ→ι)(out:σ→τ)(xs:List α)(step:σ→α→σ)(I:Nat→σ→Prop){N:Nat}{s:σ}(hN:xs.length<N)
 (hI:I 0 s) (hb: ∀(i:Nat) (x:α) (s:σ),xs[i]? =some x→I i s→f (st i s)=some (.inl (st (i+1) (step s x)))∧I (i+1) (step s x)) (he: ∀s,I xs.length s→f (st xs.length s)=some (.inr (out s))):
 iterO N f (st 0 s)=some (out (xs.foldl step s)):=by
 have hI': ∀i,i≤xs.length→I i ((xs.take i).foldl step s):=by
  intro i
  induction i with
  |zero=>intro _;simpa using hI
  |succ i ih=>
    intro hi;have hx:xs[i]? =some xs[i]:=List.getElem?_eq_getElem (by omega);rw[List.take_add_one,hx,List.foldl_append];exact(hb i _ _ hx (ih (by omega))).2
 refine iterO_for0 (fun i=>st i ((xs.take i).foldl step s)) xs.length (by simp) hN (fun i hi=>?_) ?_
 ·have hx:xs[i]? =some xs[i]:=List.getElem?_eq_getElem hi;rw[(hb i _ _ hx (hI' i (by omega))).1,List.take_add_one,hx,List.foldl_append];rfl
 have:=he _ (hI' _ (Nat.le_refl _));rw[List.take_length]at this;simp only[List.take_length];exact this
theorem loop_inv{α σ τ ι:Type}{f:ι→Option (ι ⊕ τ)}(st:Nat→σ→ι)(out:σ→τ)(xs:List α)(I:Nat→σ→Prop){N:Nat}{s:σ}(hN:xs.length<N)
 (hI:I 0 s) (hb: ∀(i:Nat) (x:α) (s:σ),xs[i]? =some x→I i s→ ∃s',f (st i s)=some (.inl (st (i+1) s'))∧I (i+1) s') (he: ∀s,I xs.length s→f (st xs.length s)=some (.inr (out s))):
 ∃s',iterO N f (st 0 s)=some (out s')∧I xs.length s':=by
 have key: ∀(k i:Nat) (s:σ) (M:Nat),i+k=xs.length→k<M→I i s→ ∃s',iterO M f (st i s)=some (out s')∧I xs.length s':=by
  intro k
  induction k with
  |zero=>
    intro i s M hi hM h;obtain⟨M,rfl⟩: ∃m,M=m+1:=⟨M-1,by omega⟩;obtain rfl:i=xs.length:=by omega
    exact⟨s,by simp only[iterO];rw[he s h],h⟩
  |succ k ih=>
    intro i s M hi hM h;obtain⟨M,rfl⟩: ∃m,M=m+1:=⟨M-1,by omega⟩;obtain⟨s',h1,h2⟩:=hb i _ s (List.getElem?_eq_getElem (by omega)) h;obtain⟨s'',h3,h4⟩:=ih (i+1) s' M (by omega) (by omega) h2;exact⟨s'',by simp only[iterO];rw[h1];exact h3,h4⟩
 exact key xs.length 0 s N (by omega) hN hI
end Go.Eng
namespace Go.Proofs.YtchjfkdljnmmgaaGreatDoor
open Go Go.Eng Go.Cr
set_option maxRecDepth 100000
theorem xty3:Ty Tryz.prog 3 1 8 (.int .i64 0) false:=⟨by kernel_rfl,by kernel_rfl⟩
theorem fnx52:HasFn Tryz.prog 52:=⟨_,_,Tryz.func52,by kernel_rfl,rfl⟩
theorem fnx92:HasFn Tryz.prog 92:=⟨_,_,Tryz.func92,by kernel_rfl,rfl⟩
theorem c_ix52{N:Nat}{C:Cx}{w:World}{ρ:View}{hs:List Hl}{b2 oo:Nat}{x1:Int}{x3:Int}(H:Hp C w ρ (hs))(g:cellsAt ρ b2 oo [.int .i64 x3]){r:Bool}(hF:F_43 N x1 x3=some r):
 Calls Tryz.prog 52 [.int .i64 x1,.pointer (some ⟨b2,oo,none⟩)].toArray w (Rets (fun v w'=>(∃(x7:Bool),x7=r∧ .bool x7=v∧Hp C w' ρ (hs)))):=by
 unfold F_43 at hF;have h0:Tryz.f52.body=some _:=rfl;refine fn_calls' Tryz.func52 h0 (n:=11) rfl (by simp)<|C_seq<|R_nd<|nq (Q_assign rfl) rfl rfl<|WL_nil<|x_then ?_;obtain⟨o9,ho9,hF⟩:=bnd hF;refine C_cut (fun a w'=> ∃(x8:Bool),x8=o9∧Fr 11 a [(3,.bool x8)]∧Hp C w' ρ (hs)) ?_ ?_
 ·refine R_nd<|nq (Q_move rfl) rfl rfl<|nq (Q_lss rfl rfl) rfl rfl<|nq (Q_move rfl) rfl rfl ?_;rcases Bool.eq_false_or_eq_true (decide (x1<0))with hb|hb
  ·rw[hb];replace ho9:=itT hb ho9;refine gs rfl rfl rfl rfl<|gs rfl rfl rfl rfl<|gs rfl rfl rfl rfl<|nq (Q_pickT rfl rfl) rfl rfl<|nq (Q_assign rfl) rfl rfl<|WL_nil ?_;obtain rfl:=Option.some.inj ho9;refine x_A fun a hf=>⟨true,rfl,hf.sub ⟨rfl,trivial⟩,H⟩
  rw[hb];replace ho9:=itF hb ho9;refine gq (Q_move rfl) rfl rfl rfl<|gq (v:= .int .i64 x3) (Q_ld (g.up H.ok.view) xty3 rfl (fun _=>rfl) rfl rfl) rfl rfl rfl<|gq (Q_geq rfl rfl) rfl rfl rfl<|nq (Q_pickF rfl rfl) rfl rfl<|nq (Q_assign rfl) rfl rfl<|WL_nil ?_;obtain rfl:=Option.some.inj ho9;refine x_A fun a hf=>⟨decide (x1≥x3),rfl,hf.sub ⟨rfl,trivial⟩,H⟩
 rintro a wd10 ⟨x8,rfl,hf,H⟩;try dsimp only at hF
 refine CW.at hf<|C_ret ?_;obtain rfl:=Option.some.inj hF;exact fn_ret (l:=[.tmp 3]) (vs:=[.bool x8]) rfl rfl rfl ⟨x8,rfl,rfl,H⟩
theorem c_ix92{N:Nat}{C:Cx}{w:World}{ρ:View}{hs:List Hl}{v1:Value}{b4 oo:Nat}{x2:(List Int)}{x5:Int}(H:Hp C w ρ (hs))(g:cellsAt ρ b4 oo [.int .i64 x5])(r3:RdSl ρ (eI .i64) v1 x2){r:Int}(hF:F_2 N x2 x5=some r):
 Calls Tryz.prog 92 [v1,.func (.func 52) #[] [.pointer (some ⟨b4,oo,none⟩)].toArray].toArray w (Rets (fun v w'=>(∃(x88:Int),x88=r∧ .int .i64 x88=v∧Hp C w' ρ (hs)))):=by
 unfold F_2 at hF;have h0:Tryz.f92.body=some _:=rfl;refine fn_calls' Tryz.func92 h0 (n:=19) rfl (by simp)<|C_seq<|R_nd<|nq (Q_assign rfl) rfl rfl<|WL_nil<|x_then<|C_seq<|C_seq<|R_nd<|nq (Q_move rfl) rfl rfl<|nq (Q_len Tryz.underlying23 rfl r3) rfl rfl<|nq (Q_move rfl) rfl rfl<|WL_nil<|x_then ?_;obtain⟨o129,ho129,hF⟩:=bnd hF;refine C_cutQ (fun a w'=> .inl ()=o129∧Fr 19 a []∧Hp C w' ρ (hs)) ?_ ?_
 ·refine C_block ?_;refine C_iter (f:=fun s=>F_33 N x2 x5 s) ho129 (fun s a w'=> ∃(x142:Int),x142=s∧Fr 19 a [(0,v1),(1,.func (.func 52) #[] [.pointer (some ⟨b4,oo,none⟩)].toArray),(7,.int .i64 (x2.length:Int)),(8,.int .i64 x142)]∧Hp C w' ρ (hs)) ?_ ?_
  ·exact fun a hf=>⟨0,rfl,hf.sub ⟨rfl,rfl,rfl,rfl,trivial⟩,H⟩
  rintro s o155 a wd158 ⟨x142,rfl,hf,H⟩ hB156 hO157;replace hB156:F_33 N x2 x5 x142=some o155:=hB156;unfold F_33 at hB156;refine CW.at hf<|C_seq<|R_nd<|nq (Q_lss rfl rfl) rfl rfl<|WL_nil<|x_then<|C_seq ?_;refine C_cond rfl (fun hb=>?_) (fun hb=>?_)
  ·replace hB156:=itT hb hB156;refine C_skip<|x_then<|C_seq<|C_block<|C_seq<|R_nd<|nq (Q_move rfl) rfl rfl<|nq (Q_assign rfl) rfl rfl<|WL_nil<|x_then<|C_seq<|R_nd<|nq (Q_move rfl) rfl rfl<|nq (Q_move rfl) rfl rfl ?_;refine nq (Q_move rfl) rfl rfl ?_;obtain⟨x159,hx159,hB156⟩:=bnd hB156;obtain⟨b160,o161,c162,hc163,ha164,hi165⟩:=idxR r3 hx159;refine nq (Q_idx hi165 Tryz.underlying23 xty3 rfl rfl) rfl rfl<|nq (v:= .int .i64 x159) (Q_ld (show cellsAt _ _ _ [.int .i64 x159]from(show _= [_]from hc163)▸(ha164.up H.ok.view)) xty3 rfl (fun _=>rfl) rfl rfl) rfl rfl ?_;obtain⟨q166,hq166,hB156⟩:=bnd hB156;refine ne (E_callV fnx52 rfl rfl (c_ix52 H g hq166)) rfl rfl ?_;rintro _ wd169 ⟨x168,rfl,rfl,H⟩;try dsimp only at hB156
   refine WL_nil<|x_then ?_;refine C_cond rfl (fun hb=>?_) (fun hb=>?_)
   ·replace hB156:=itT hb hB156;refine C_seq<|R_nd<|nq (Q_move rfl) rfl rfl<|nq (Q_assign rfl) rfl rfl<|WL_nil<|x_then<|C_ret<|x_block_ret<|x_then_ret<|x_then_ret<|x_block_ret<|x_then_ret<|x_then_ret ?_;obtain rfl:=Option.some.inj hB156;obtain rfl:=hO157 _ rfl;obtain rfl:=Option.some.inj (show some _=some _ from hF);exact fn_ret (l:=[.tmp 4]) (vs:=[.int .i64 x142]) rfl rfl rfl ⟨x142,rfl,rfl,H⟩
   replace hB156:=itF hb hB156;refine C_skip<|x_block<|x_then<|R_nd<|nq (Q_add rfl rfl) rfl rfl<|nq (Q_move rfl) rfl rfl<|WL_nil ?_;obtain rfl:=Option.some.inj hB156;refine x_A fun a hf=>⟨_,rfl,w64 (x142+1),rfl,hf.sub ⟨rfl,rfl,rfl,rfl,trivial⟩,H⟩
  replace hB156:=itF hb hB156;refine C_exit<|x_then_exit<|x_then_exit<|x_block_exit ?_;obtain rfl:=Option.some.inj hB156;obtain rfl:=hO157 _ rfl;refine x_A fun a hf=>⟨rfl,hf.sub trivial,H⟩
 rintro a wd170 ⟨rfl,hf,H⟩;try dsimp only at hF
 refine XX.at hf<|x_then<|C_seq<|R_nd<|nq (Q_assign rfl) rfl rfl<|WL_nil<|x_then<|C_ret ?_;obtain rfl:=Option.some.inj hF;exact fn_ret (l:=[.tmp 4]) (vs:=[.int .i64 (-1)]) rfl rfl rfl ⟨(-1),rfl,rfl,H⟩
theorem ixPr(N:Nat)(x n:Int):F_43 N x n=some (ilt x 0||ile n x):=by
 rw[ilt_eq,ile_eq];unfold F_43;by_cases h:x<0<;>simp[h]
theorem firB_eq(n:Int): ∀(l:List Int) (i:Nat),firB n l i=match l.findIdx? (fun x=>ilt x 0||ile n x)with|some j=>((i+j:Nat):Int)|none=> -1
 | [],_=>rfl
 |x::l,i=>by
   have e:firB n (x::l) i=bif ilt x 0||ile n x then .ofNat i else firB n l (i+1):=rfl;rw[e,firB_eq n l (i+1),List.findIdx?_cons]
   cases ilt x 0||ile n x with
   |true=>rfl
   |false=>
     simp only[cond_false,Bool.false_eq_true,if_false]
     cases l.findIdx? (fun x=>ilt x 0||ile n x)with
     |none=>rfl
     |some j=>
       show((i+1+j:Nat):Int)=((i+(j+1):Nat):Int);rw[Nat.add_assoc,Nat.add_comm 1 j]
theorem ixPure{xs:List Int}{n:Int}(hl:xs.length≤1048576):F_2 1048577 xs n=some (firB n xs 0):=by
 unfold F_2;generalize hM:(1048577:Nat)=N
 rw[loop_find xs (fun x=>ilt x 0||ile n x) (fun i=>(i:Int)) (by omega) (fun i x hx=>by
  have hi:=(List.getElem?_eq_some_iff.1 hx).1;unfold F_33;simp only[show((i:Int)<(xs.length:Int)) by omega,decide_true,if_true,idx_of hx,ixPr,bind,Option.bind_some];rw[w64_succ (by omega)]) (by unfold F_33;simp),firB_eq]
 cases h:xs.findIdx? (fun x=>ilt x 0||ile n x)with
 |none=>rfl
 |some k=>simp
theorem ixC:IxC Tryz.prog ⟨256,277,92,52⟩:=by
 intro w v xs b o n hr hl hc;refine(c_ix92 (Hp.start w) hc hr (ixPure hl)).mono fun e w' he=>?_;obtain⟨u,rfl,x,rfl,rfl,H⟩:=he;exact⟨_,rfl,rfl,H.os,H.tape,H.out,H.size,fun b hb=>H.old b hb (by simp)⟩
open Go Go.Eng Go.Cr
set_option maxRecDepth 100000
theorem runXx:XOk Tryz.prog ⟨256,277,92,52⟩:=⟨⟨_,Tryz.func256,by kernel_rfl,by kernel_rfl,by kernel_rfl,by kernel_rfl⟩,⟨_,Tryz.func277,by kernel_rfl,by kernel_rfl,by kernel_rfl,by kernel_rfl⟩,.inr ⟨fnx92,ixC⟩⟩
theorem runMx:Tryz.prog.follows .mixedOrders=true:=by kernel_rfl
open Go Go.Eng Go.Cr
set_option maxRecDepth 100000
theorem run51_0:ok256 md0r md0l md0m (run Tryz.prog ⟨256,277,92,52⟩ 1000 (.f 51 []) [.s [111,110,32,109,97,105,110,32,47,97,47,32,115,107,105,112]] (h0T 18 .u8 tab_math_bits_deBruijn64tab))=true:=by kernel_rfl
theorem runD51_0:RunD Tryz.prog 51 [.string ⟨#[111,110,32,109,97,105,110,32,47,97,47,32,115,107,105,112]⟩] (fun ρ=>GTab ρ 18 .u8 tab_math_bits_deBruijn64tab) (R256 md0r md0l md0m):=runDT runXx runMx run51_0 ⟨_,_,Tryz.func51,by kernel_rfl,rfl⟩ (by decide) (by decide)
open Go Go.Eng Go.Cr
set_option maxRecDepth 100000
theorem run51_1:ok256 md1r md1l md1m (run Tryz.prog ⟨256,277,92,52⟩ 1000 (.f 51 []) [.s [111,110,32,109,97,105,110,32,47,98,47,32,115,107,105,112]] (h0T 18 .u8 tab_math_bits_deBruijn64tab))=true:=by kernel_rfl
theorem runD51_1:RunD Tryz.prog 51 [.string ⟨#[111,110,32,109,97,105,110,32,47,98,47,32,115,107,105,112]⟩] (fun ρ=>GTab ρ 18 .u8 tab_math_bits_deBruijn64tab) (R256 md1r md1l md1m):=runDT runXx runMx run51_1 ⟨_,_,Tryz.func51,by kernel_rfl,rfl⟩ (by decide) (by decide)
open Go Go.Eng
theorem lt_len{α:Type}{xs:List α}{i:Nat}{x:α}(h:xs[i]? =some x):i<xs.length:=(List.getElem?_eq_some_iff.1 h).1
theorem right1(N:Nat)(x n:Int):F_43 N x n=some (decide (x<0)||decide (x≥n)):=by
 unfold F_43;by_cases h:x<0<;>simp[h]
theorem right2(N:Nat)(x:Int):F_99 N x=some (decide (x< -1)||decide (x≥48)):=by
 unfold F_99;by_cases h:x< -1<;>simp[h]
theorem contains1{N:Nat}{xs:List Int}{n:Int}(hN:4294967296≤N)(hl:xs.length<4294967296):F_14 N xs n=some (xs.any fun x=>decide (x<0)||decide (x≥n)):=by
 unfold F_14 F_2
 rw[loop_find xs (fun x=>decide (x<0)||decide (x≥n)) (fun i=>(i:Int)) (by omega) (fun i x hx=>by
  have hi:=lt_len hx;unfold F_33;simp only[show((i:Int)<(xs.length:Int)) by omega,decide_true,if_true,idx_of hx,right1,bind,Option.bind_some];rw[w64_succ (by omega)]) (by unfold F_33;simp)]
 cases h:xs.findIdx? _ with
 |none=>
   have:xs.any (fun x=>decide (x<0)||decide (x≥n))=false:=List.any_eq_false.2 fun x hx=>by rw[List.findIdx?_eq_none_iff.1 h x hx];simp
   simp[this]
 |some k=>
   obtain⟨hk,hp,_⟩:=List.findIdx?_eq_some_iff_getElem.1 h;have:xs.any (fun x=>decide (x<0)||decide (x≥n))=true:=List.any_eq_true.2 ⟨_,List.getElem_mem hk,hp⟩;rw[this];simp
theorem contains2{N:Nat}{xs:List Int}(hN:4294967296≤N)(hl:xs.length<4294967296):F_96 N xs=some (xs.any fun x=>decide (x< -1)||decide (x≥48)):=by
 unfold F_96 F_31
 rw[loop_find xs (fun x=>decide (x< -1)||decide (x≥48)) (fun i=>(i:Int)) (by omega) (fun i x hx=>by
  have hi:=lt_len hx;unfold F_87;simp only[show((i:Int)<(xs.length:Int)) by omega,decide_true,if_true,idx_of hx,right2,bind,Option.bind_some];rw[w64_succ (by omega)]) (by unfold F_87;simp)]
 cases h:xs.findIdx? _ with
 |none=>
   have:xs.any (fun x=>decide (x< -1)||decide (x≥48))=false:=List.any_eq_false.2 fun x hx=>by rw[List.findIdx?_eq_none_iff.1 h x hx];simp
   simp[this]
 |some k=>
   obtain⟨hk,hp,_⟩:=List.findIdx?_eq_some_iff_getElem.1 h;have:xs.any (fun x=>decide (x< -1)||decide (x≥48))=true:=List.any_eq_true.2 ⟨_,List.getElem_mem hk,hp⟩;rw[this];simp
structure Rt(rows:List (List Int))(rule entry:List Int):Prop where
 n1:1≤rows.length
 n2:rows.length≤200
 ru:rule.length=rows.length
 e1:1≤entry.length
 e2:entry.length≤8
 row: ∀r∈rows,∀x∈r,0≤x∧x<rows.length
 rul: ∀x∈rule,-1≤x∧x<48
 ent: ∀x∈entry,0≤x∧x<rows.length
 r0:rows[0]? =some (List.replicate 256 0)
 u0:rule[0]? =some (-1)
structure Sz(rows:List (List Int))(rule entry:List Int):Prop where
 w: ∀r∈rows,r.length=256
 a:rows.length<4294967296
 b:rule.length<4294967296
 c:entry.length<4294967296
theorem right_spec{N:Nat}{rows:List (List Int)}{rule entry:List Int}(hN:4294967296≤N)(hs:Sz rows rule entry): ∃b,F_6 N rows rule entry=some b∧(b=true↔Rt rows rule entry):=by
 unfold F_6;generalize hz:List.replicate 256 (0:Int)=z;by_cases a1:(rows.length:Int)<1
 ·exact⟨false,by simp[a1],by simp;intro h;have:=h.n1;omega⟩
 by_cases a2:(rows.length:Int)>200
 ·exact⟨false,by simp[a1,a2],by simp;intro h;have:=h.n2;omega⟩
 by_cases a3:rule.length=rows.length
 case neg=>
  have e0:((rule.length:Int) != (rows.length:Int))=true:=by simp;omega
  exact⟨false,by simp[a1,a2,e0],by simp;intro h;exact a3 h.ru⟩
 by_cases a4:(entry.length:Int)<1
 ·exact⟨false,by simp[a1,a2,a3,a4],by simp;intro h;have:=h.e1;omega⟩
 by_cases a5:(entry.length:Int)>8
 ·exact⟨false,by simp[a1,a2,a3,a4,a5],by simp;intro h;have:=h.e2;omega⟩
 have e0:((rule.length:Int) != (rows.length:Int))=false:=by simp[a3]
 simp only[decide_eq_false a1,decide_eq_false a2,e0,decide_eq_false a4,decide_eq_false a5,bind,Option.bind_some,Bool.false_eq_true,if_false]
 rw[loop_any rows (fun r=>r.any fun x=>decide (x<0)||decide (x≥(rows.length:Int))) false (by have:=hs.a;omega) (fun i r hr=>by
  have hi:=lt_len hr;have hw:=hs.w r (List.mem_of_getElem? hr);unfold F_90;simp only[show((i:Int)<(rows.length:Int)) by omega,decide_true,if_true,idx_of hr,contains1 hN (show r.length<4294967296 by omega),bind,Option.bind_some];rw[w64_succ (by have:=hs.a;omega)]) (by unfold F_90;simp)]
 by_cases c1:(rows.any fun r=>r.any fun x=>decide (x<0)||decide (x≥(rows.length:Int)))=true
 ·refine⟨false,by simp[c1],?_⟩;simp;intro h;obtain⟨r,hr,hx⟩:=List.any_eq_true.1 c1;obtain⟨x,hx,hp⟩:=List.any_eq_true.1 hx;have:=h.row r hr x hx;simp at hp;omega
 rw[if_neg c1];simp only[contains2 hN hs.b,contains1 hN hs.c,Option.bind_some];by_cases c2:(rule.any fun x=>decide (x< -1)||decide (x≥48))=true
 ·refine⟨false,by simp[c2],?_⟩;simp;intro h;obtain⟨x,hx,hp⟩:=List.any_eq_true.1 c2;have:=h.rul x hx;simp at hp;omega
 by_cases c3:(entry.any fun x=>decide (x<0)||decide (x≥(rows.length:Int)))=true
 ·refine⟨false,by simp[c2,c3],?_⟩;simp;intro h;obtain⟨x,hx,hp⟩:=List.any_eq_true.1 c3;have:=h.ent x hx;simp at hp;omega
 have hr0:0<rows.length:=by omega
 have hu0:0<rule.length:=by omega
 simp only[if_neg c2,Option.bind_some,if_neg c3];have i0:idx rows 0=some rows[0]:=idx_nat (i:=0) hr0;have i1:idx rule 0=some rule[0]:=idx_nat (i:=0) hu0;rw[i0,i1]
 have c1': ∀r∈rows,∀x∈r,0≤x∧x<(rows.length:Int):=by
  intro r hr x hx;have h1:(rows.any fun r=>r.any fun x=>decide (x<0)||decide (x≥(rows.length:Int)))=false:=by simpa using c1
  have h2:=List.any_eq_false.1 h1 r hr;have h3:=List.any_eq_false.1 (by simpa using h2:(r.any fun x=>decide (x<0)||decide (x≥(rows.length:Int)))=false) x hx;simp at h3;omega
 have c2': ∀x∈rule,-1≤x∧x<48:=by
  intro x hx;have h3:=List.any_eq_false.1 (by simpa using c2:(rule.any fun x=>decide (x< -1)||decide (x≥48))=false) x hx;simp at h3;omega
 have c3': ∀x∈entry,0≤x∧x<(rows.length:Int):=by
  intro x hx;have h3:=List.any_eq_false.1 (by simpa using c3:(entry.any fun x=>decide (x<0)||decide (x≥(rows.length:Int)))=false) x hx;simp at h3;omega
 by_cases d1:rows[0]=z
 ·by_cases d2:rule[0]= -1
  ·refine⟨true,by simp[d1,d2],?_⟩;simp;exact⟨by omega,by omega,a3,by omega,by omega,c1',c2',c3',by rw[List.getElem?_eq_getElem hr0,d1,hz],by rw[List.getElem?_eq_getElem hu0,d2]⟩
  refine⟨false,by simp[d1,d2],?_⟩;simp;intro h;have:=h.u0;rw[List.getElem?_eq_getElem hu0]at this;exact d2 (Option.some.inj this)
 refine⟨false,by simp[d1],?_⟩;simp;intro h;have:=h.r0;rw[List.getElem?_eq_getElem hr0,hz]at this;exact d1 (Option.some.inj this)
open Go Go.Eng
theorem range_get{n i x:Nat}(h:(List.range n)[i]? =some x):i<n∧x=i:=by
 have hl:=lt_len h;simp at hl;rw[List.getElem?_range hl]at h;exact⟨hl,(Option.some.inj h).symm⟩
theorem sameInts_spec{N:Nat}{a b:List Int}(hN:4294967296≤N)(ha:a.length<4294967296):F_26 N a b=some (decide (a=b)):=by
 unfold F_26;by_cases h:a.length=b.length
 case neg=>
  have:((a.length:Int) != (b.length:Int))=true:=by simp;omega
  have hne:a≠b:=fun e=>h (by rw[e]);simp[this,hne]
 have e0:((a.length:Int) != (b.length:Int))=false:=by simp[h]
 simp only[e0,Bool.false_eq_true,if_false]
 rw[loop_any (List.range a.length) (fun i=>a.getD i 0 != b.getD i 0) false (by simp;omega) (fun i x hx=>by
  obtain⟨hi,rfl⟩:=range_get hx;have hib:x<b.length:=by omega
  unfold F_85;have g1:a.getD x 0=a[x]:=by simp[List.getD,List.getElem?_eq_getElem hi]
  have g2:b.getD x 0=b[x]:=by simp[List.getD,List.getElem?_eq_getElem hib]
  rw[g1,g2];simp only[show((x:Int)<(a.length:Int)) by omega,decide_true,if_true,idx_nat hi,idx_nat hib,bind,Option.bind_some];rw[w64_succ (by omega)]) (by simp[F_85])]
 by_cases c:((List.range a.length).any fun i=>a.getD i 0 != b.getD i 0)=true
 ·have:a≠b:=by
   obtain⟨i,_,hp⟩:=List.any_eq_true.1 c;intro e;simp[e]at hp
  rw[if_pos c];simp[this]
 have:a=b:=by
  apply List.ext_getElem h;intro i h1 h2;have h3:=List.any_eq_false.1 (by simpa using c:((List.range a.length).any fun i=>a.getD i 0 != b.getD i 0)=false) i (by simpa using h1);have g1:a.getD i 0=a[i]:=by simp[List.getD,List.getElem?_eq_getElem h1]
  have g2:b.getD i 0=b[i]:=by simp[List.getD,List.getElem?_eq_getElem h2]
  rw[g1,g2]at h3;simpa using h3
 rw[if_neg c];simp[this]
open Go Go.Eng
theorem iand_u64{a b:Nat}(ha:a<18446744073709551616)(hb:b<18446744073709551616):iand .u64 (a:Int) (b:Int)=((a&&&b:Nat):Int):=by
 have h:a&&&b<18446744073709551616:=Nat.and_lt_two_pow (n:=64) _ hb;show IntKind.wrap .u64 ((BitVec.ofInt 64 (a:Int)&&&BitVec.ofInt 64 (b:Int)).toNat:Int)=_;rw[BitVec.ofInt_natCast,BitVec.ofInt_natCast,BitVec.toNat_and,BitVec.toNat_ofNat,BitVec.toNat_ofNat,Nat.mod_eq_of_lt ha,Nat.mod_eq_of_lt hb,wrapU64]<;>omega
theorem ior_u64{a b:Nat}(ha:a<18446744073709551616)(hb:b<18446744073709551616):ior .u64 (a:Int) (b:Int)=((a|||b:Nat):Int):=by
 have h:a|||b<18446744073709551616:=Nat.or_lt_two_pow (n:=64) ha hb;show IntKind.wrap .u64 ((BitVec.ofInt 64 (a:Int)|||BitVec.ofInt 64 (b:Int)).toNat:Int)=_;rw[BitVec.ofInt_natCast,BitVec.ofInt_natCast,BitVec.toNat_or,BitVec.toNat_ofNat,BitVec.toNat_ofNat,Nat.mod_eq_of_lt ha,Nat.mod_eq_of_lt hb,wrapU64]<;>omega
theorem shl_one{k:Nat}(h:k<64):shlI .u64 1 (k:Int)=((2^k:Nat):Int):=by
 have h1:(2:Nat)^k≤2^63:=Nat.pow_le_pow_right (by omega) (by omega);have h2:(2:Nat)^63=9223372036854775808:=by decide
 simp only[shlI,IntKind.bits,Int.toNat_natCast,Nat.min_eq_left (show k≤64 by omega),Int.one_mul];have e:((2:Int)^k)=((2^k:Nat):Int):=by simp
 rw[e];generalize 2^k=p at*;rw[wrapU64]<;>omega
def has(m:List Int)(i:Nat):Bool:=(m.getD (i/64) 0).toNat.testBit (i %64)
structure MkR(n:Nat)(m:List Int):Prop where
 len:m.length=(n+63)/64
 rng: ∀w∈m,0≤w∧w<18446744073709551616
theorem new_spec{N n:Nat}(h:n≤65536): ∃m,F_75 N (n:Int)=some (.inr m)∧MkR n m∧ ∀j,has m j=false:=by
 refine⟨List.replicate ((n+63)/64) 0,?_,⟨by simp,fun w hw=>by rw[List.eq_of_mem_replicate hw];omega⟩,fun j=>?_⟩
 ·unfold F_75;have a1: ¬((n:Int)<0):=by omega
  have a2: ¬((n:Int)>65536):=by omega
  have e1:w64 ((n:Int)+64)=((n+64:Nat):Int):=by rw[w64,wrap64]<;>omega
  have e2:w64 (((n+64:Nat):Int)-1)=((n+63:Nat):Int):=by rw[w64,wrap64]<;>omega
  have e3:w64 (((n+63:Nat):Int).tdiv 64)=(((n+63)/64:Nat):Int):=by
   have:((n+63:Nat):Int).tdiv 64=(((n+63)/64:Nat):Int):=by rw[Int.tdiv_eq_ediv_of_nonneg (by omega)];omega
   rw[this,w64,wrap64]<;>omega
  simp only[decide_eq_false a1,decide_eq_false a2,bind,Option.bind_some,Bool.false_eq_true,if_false,e1,e2,e3];rw[mk_eq (by omega)];rfl
 simp[has,List.getD,List.getElem?_replicate];split<;>simp
theorem at_spec{N n i:Nat}{m:List Int}(hi:i<9223372036854775808):F_30 N m (n:Int) (i:Int)=some (((i/64:Nat):Int),((2^(i %64):Nat):Int),decide (i<n)):=by
 unfold F_30;have e0:IntKind.wrap .u64 (i:Int)=i:=by rw[wrapU64]<;>omega
 have e1:(i:Int).tmod 64=((i %64:Nat):Int):=by rw[Int.tmod_eq_emod_of_nonneg (by omega)];omega
 have e2:w64 ((i:Int).tdiv 64)=((i/64:Nat):Int):=by
  have:(i:Int).tdiv 64=((i/64:Nat):Int):=by rw[Int.tdiv_eq_ediv_of_nonneg (by omega)];omega
  rw[this,w64,wrap64]<;>omega
 have e3:nn ((i %64:Nat):Int)=some ():=by simp[nn];omega
 have e4:(i:Int)≥0:=by omega
 rw[e0,e1,e2,shl_one (by omega),e3];simp[e4,F_29]
theorem put_spec{N n i:Nat}{m:List Int}(hm:MkR n m)(hi:i<n)(hn:n≤65536):
 ∃m',F_18 N m (n:Int) (i:Int)=some (m', !has m i)∧MkR n m'∧(∀j,has m' j=(has m j||j==i))∧m'=if has m i then m else m.set (i/64) (((m.getD (i/64) 0).toNat|||2^(i %64):Nat):Int):=by
 have hl:i/64<m.length:=by rw[hm.len];omega
 have hw:=hm.rng _ (List.getElem_mem hl)
 have hp:(2:Nat)^(i %64)<18446744073709551616:=by
  have h1:(2:Nat)^(i %64)≤2^63:=Nat.pow_le_pow_right (by omega) (by omega);have h2:(2:Nat)^63=9223372036854775808:=by decide
  omega
 obtain⟨a,ha⟩: ∃a:Nat,m[i/64]=(a:Int):=⟨m[i/64].toNat,by omega⟩;have hx:m[i/64]? =some (a:Int):=by rw[List.getElem?_eq_getElem hl,ha]
 have ha':a<18446744073709551616:=by omega
 have hh:has m i=a.testBit (i %64):=by simp[has,List.getD,hx]
 unfold F_18;rw[at_spec (by omega)];simp only[bind,Option.bind_some,decide_eq_true hi,Bool.not_true,Bool.false_eq_true,if_false,idx_of hx,iand_u64 ha' hp,ior_u64 ha' hp]
 have hand:(a&&&2^(i %64)=0)↔a.testBit (i %64)=false:=by
  constructor
  ·intro h;have:=congrArg (·.testBit (i %64)) h;simpa[Nat.testBit_and,Nat.testBit_two_pow_self]using this
  intro h;apply Nat.eq_of_testBit_eq;intro j;rw[Nat.testBit_and,Nat.testBit_two_pow];by_cases hj:i %64=j
  ·subst hj;simp[h]
  simp[hj]
 by_cases hb:a.testBit (i %64)=true
 ·have h1: ¬(a&&&2^(i %64)=0):=fun h=>by rw[hand.1 h]at hb;cases hb
  have h2:(((a&&&2^(i %64):Nat):Int) != 0)=true:=by simp;omega
  refine⟨m,by rw[h2,hh,hb];rfl,hm,fun j=>?_,by rw[hh,hb];rfl⟩;by_cases hj:j=i
  ·subst hj;simp[hh,hb]
  simp[hj]
 have hb:a.testBit (i %64)=false:=by simpa using hb
 have h2:(((a&&&2^(i %64):Nat):Int) != 0)=false:=by rw[hand.2 hb];rfl
 refine⟨m.set (i/64) ((a|||2^(i %64):Nat):Int),by rw[h2,hh,hb];simp only[Bool.false_eq_true,if_false];rw[setI_nat hl];rfl,⟨by simp[hm.len],fun w hw'=>?_⟩,fun j=>?_,?_⟩
 rotate_right
 ·rw[hh,hb,List.getD,hx];rfl
 ·rcases List.mem_or_eq_of_mem_set hw' with h|rfl
  ·exact hm.rng w h
  have:=Nat.or_lt_two_pow (n:=64) ha' hp;omega
 by_cases hq:j/64=i/64
 ·have e1:has m j=a.testBit (j %64):=by simp[has,hq,List.getD,hx]
  have e2:has (m.set (i/64) ((a|||2^(i %64):Nat):Int)) j=(a|||2^(i %64)).testBit (j %64):=by
   simp[has,hq,List.getD,List.getElem?_set_self hl]
  rw[e1,e2,Nat.testBit_or,Nat.testBit_two_pow]
  congr 1
  by_cases hj:j=i
  ·simp[hj]
  have: ¬(i %64=j %64):=by omega
  simp[hj,this]
 have hj: ¬j=i:=fun h=>hq (by rw[h]);have hq': ¬(i/64=j/64):=fun h=>hq h.symm;simp[has,List.getD,hq',hj]
open Go Go.Eng
def ins(acc:List Int)(x:Int):List Int:=if x∈acc then acc else acc++ [x]
def insAll(acc xs:List Int):List Int:=xs.foldl ins acc
def bfs(rows:List (List Int)):Nat→Nat→List Int→List Int
 |0,_,acc=>acc
 |k+1,i,acc=>if h:i<acc.length then bfs rows k (i+1) (insAll acc (rows.getD acc[i].toNat []))else acc
theorem bfs_done{rows:List (List Int)}{k i:Nat}{acc:List Int}(h: ¬i<acc.length):bfs rows k i acc=acc:=by
 cases k with
 |zero=>rfl
 |succ k=>simp[bfs,h]
structure Acc(n:Nat)(acc:List Int):Prop where
 nd:acc.Nodup
 rng: ∀x∈acc,0≤x∧x<n
theorem nodup_len: ∀{l m:List Int},l.Nodup→(∀x∈l,x∈m)→l.length≤m.length
 | [],_,_,_=>by simp
 |x::l,m,hn,hs=>by
   obtain⟨h1,h2⟩:=List.nodup_cons.1 hn;have hx:=hs x (by simp);have:=nodup_len (l:=l) (m:=m.erase x) h2 (fun y hy=>(List.mem_erase_of_ne (show y≠x from fun e=>h1 (e▸hy))).2 (hs y (by simp[hy])));rw[List.length_erase_of_mem hx]at this;have:0<m.length:=List.length_pos_of_mem hx;simp;omega
theorem Acc.len{n:Nat}{acc:List Int}(h:Acc n acc):acc.length≤n:=by
 have:=nodup_len (m:=(List.range n).map fun(i:Nat)=>(i:Int)) h.nd (fun x hx=>by
  have:=h.rng x hx;exact List.mem_map.2 ⟨x.toNat,by simp;omega,by omega⟩)
 simpa using this
theorem Acc.ins{n:Nat}{acc:List Int}{x:Int}(h:Acc n acc)(h0:0≤x∧x<n):Acc n (ins acc x):=by
 unfold Go.Proofs.YtchjfkdljnmmgaaGreatDoor.ins;split
 ·exact h
 rename_i hx;refine⟨List.nodup_append.2 ⟨h.nd,by simp,fun a ha b hb=>?_⟩,fun y hy=>?_⟩
 ·simp at hb;subst hb;exact fun e=>hx (e▸ha)
 rcases List.mem_append.1 hy with hy|hy
 ·exact h.rng y hy
 simp at hy;subst hy;exact h0
theorem Acc.insAll{n:Nat}: ∀{xs acc:List Int},Acc n acc→(∀x∈xs,0≤x∧x<n)→Acc n (insAll acc xs)
 | [],_,h,_=>h
 |x::xs,acc,h,hx=>Acc.insAll (xs:=xs) (h.ins (hx x (by simp))) (fun y hy=>hx y (by simp[hy]))
theorem ins_prefix(acc:List Int)(x:Int):acc <+: ins acc x:=by
 unfold ins;split
 ·exact List.prefix_refl _
 exact List.prefix_append _ _
theorem insAll_prefix: ∀(xs acc:List Int),acc <+: insAll acc xs
 | [],_=>List.prefix_refl _
 |x::xs,acc=>(ins_prefix acc x).trans (insAll_prefix xs _)
theorem insAll_take{acc xs:List Int}{i:Nat}{x:Int}(h:xs[i]? =some x):insAll acc (xs.take (i+1))=ins (insAll acc (xs.take i)) x:=by
 unfold insAll;rw[List.take_add_one,h,List.foldl_append];rfl
structure Rel(n:Nat)(m acc:List Int):Prop where
 mkr:MkR n m
 at_: ∀j,j<n→(has m j=true↔(j:Int)∈acc)
theorem put_rel{N n:Nat}{m acc:List Int}{x:Int}(h:Rel n m acc)(h0:0≤x∧x<n)(hn:n≤65536): ∃m',F_18 N m (n:Int) x=some (m',decide (x∉acc))∧Rel n m' (ins acc x):=by
 obtain⟨i,rfl⟩: ∃i:Nat,x=(i:Int):=⟨x.toNat,by omega⟩;have hi:i<n:=by omega
 obtain⟨m',h1,h2,h3,_⟩:=put_spec (N:=N) h.mkr hi hn;refine⟨m',?_,h2,fun j hj=>?_⟩
 ·rw[h1];have:=h.at_ i hi;by_cases hm:(i:Int)∈acc
  ·simp[hm,this.2 hm]
  have:has m i=false:=by
   cases hh:has m i with
   |false=>rfl
   |true=>exact absurd (this.1 hh) hm
  simp[hm,this]
 rw[h3 j];unfold ins;have:=h.at_ j hj;by_cases hm:(i:Int)∈acc
 ·rw[if_pos hm,←this];constructor
  ·intro h4;rcases Bool.or_eq_true_iff.1 h4 with h4|h4
   ·exact h4
   simp at h4;subst h4;exact(h.at_ _ hi).2 hm
  intro h4;simp[h4]
 have hji:(j:Int)=i↔j=i:=by omega
 rw[if_neg hm,List.mem_append,←this,List.mem_singleton,hji,Bool.or_eq_true,beq_iff_eq]
theorem order1_spec{N n:Nat}{xs m acc:List Int}(hN:4294967296≤N)(hl:xs.length<4294967296)(hn:n≤65536)(hx: ∀x∈xs,0≤x∧x<n)(hA:Acc n acc)(hR:Rel n m acc):
 ∃m',F_21 N xs m (n:Int) acc=some (m',insAll acc xs)∧Rel n m' (insAll acc xs):=by
 unfold F_21
 obtain⟨s',h1,h2⟩:=loop_inv (f:=fun s=>F_51 N xs (n:Int) s.1 s.2.1 s.2.2) (fun i (s:List Int×List Int)=>(s.1,s.2,(i:Int))) id xs (fun i s=>s.2=insAll acc (xs.take i)∧Acc n s.2∧Rel n s.1 s.2) (N:=N) (s:=(m,acc)) (by omega) ⟨by simp[insAll],hA,hR⟩
  (fun i x s hxi hI=>by
   obtain⟨h1,h2,h3⟩:=hI;have hi:=lt_len hxi;have hxr:=hx x (List.mem_of_getElem? hxi);obtain⟨m',h4,h5⟩:=put_rel (N:=N) h3 hxr hn;refine⟨(m',ins s.2 x),?_,by rw[insAll_take hxi,h1],h2.ins hxr,h5⟩;unfold F_51;simp only[show((i:Int)<(xs.length:Int)) by omega,decide_true,if_true,idx_of hxi,h4,bind,Option.bind_some];rw[w64_succ (by omega)];have hlen:=h2.len;by_cases hm:x∈s.2
   ·simp[hm,ins]
   simp[hm,ins];rw[app_eq (by simp;omega)];rfl)
  (fun s _=>by unfold F_51;simp)
 refine⟨s'.1,?_,?_⟩
 ·rw[show iterO N (fun s=>F_51 N xs (n:Int) s.1 s.2.1 s.2.2) (m,acc,0)=_ from h1];have:=h2.1;rw[List.take_length]at this;rw[←this];rfl
 have:=h2.1;rw[List.take_length]at this;rw[←this];exact h2.2.2
open Go Go.Eng
def ord(rows:List (List Int))(entry:List Int):List Int:=bfs rows (rows.length+1-1) 1 (insAll [0] entry)
theorem acc0{rows:List (List Int)}{rule entry:List Int}(h:Rt rows rule entry):Acc rows.length (insAll [0] entry):=
 Acc.insAll (n:=rows.length) (acc:=[0]) ⟨by simp,fun x hx=>by simp at hx;subst hx;have:=h.n1;omega⟩ h.ent
theorem row_of{rows:List (List Int)}{rule entry:List Int}(h:Rt rows rule entry){x:Int}(hx:0≤x∧x<rows.length): ∃r,idx rows x=some r∧rows.getD x.toNat []=r∧r∈rows∧ ∀y∈r,0≤y∧y<rows.length:=by
 have hl:x.toNat<rows.length:=by omega
 refine⟨rows[x.toNat],idx_int hx.1 hl,by simp[List.getD,List.getElem?_eq_getElem hl],List.getElem_mem hl,h.row _ (List.getElem_mem hl)⟩
theorem order_spec{N:Nat}{rows:List (List Int)}{rule entry:List Int}(hN:4294967296≤N)(hs:Sz rows rule entry)(h:Rt rows rule entry):F_9 N rows rule entry=some (ord rows entry):=by
 unfold F_9;have hn2:=h.n2;obtain⟨m0,e0,hm0,hz0⟩:=new_spec (N:=N) (n:=rows.length) (by omega);have hR0:Rel rows.length m0 []:=⟨hm0,fun j _=>by simp[hz0]⟩;obtain⟨m1,e1,hR1⟩:=put_rel (N:=N) (x:=0) hR0 ⟨by omega,by have:=h.n1;omega⟩ (by omega);have hA1:Acc rows.length [0]:=⟨by simp,fun x hx=>by simp at hx;subst hx;have:=h.n1;omega⟩;obtain⟨m2,e2,hR2⟩:=order1_spec hN hs.c (show rows.length≤65536 by omega) h.ent hA1 hR1;simp only[e0,bind,Option.bind_some,e1,e2]
 obtain⟨r,h1,h2⟩:=iterO_while (f:=fun s=>F_52 N rows s.1 s.2.1 s.2.2) (fun s=> ∃i:Nat,s.2.2=(i:Int)∧i≤rows.length∧Acc rows.length s.1∧Rel rows.length s.2.1 s.1∧bfs rows (rows.length+1-i) i s.1=ord rows entry)
  (fun s=>rows.length-s.2.2.toNat) (fun r=>r=ord rows entry) (fun s hI=>by
   obtain⟨acc,m,iv⟩:=s;obtain⟨i,rfl,hi,hA,hR,hb⟩:=hI;simp only at hA hR hb ⊢;have hlen:=hA.len;by_cases hlt:i<acc.length
   ·left;have hx:=hA.rng _ (List.getElem_mem hlt);obtain⟨row,r1,r2,r3,r4⟩:=row_of h hx;have hw:=hs.w row r3;obtain⟨m',e3,hR3⟩:=order1_spec hN (show row.length<4294967296 by omega) (show rows.length≤65536 by omega) r4 hA hR;refine⟨(insAll acc row,m',((i+1:Nat):Int)),?_,⟨i+1,rfl,by omega,hA.insAll r4,hR3,?_⟩,by simp;omega⟩
    ·unfold F_52;simp only[show((i:Int)<(acc.length:Int)) by omega,decide_true,if_true,idx_nat hlt,r1,e3,bind,Option.bind_some];rw[w64_succ (by omega)]
    rw[show rows.length+1-i=(rows.length+1-(i+1))+1 by omega]at hb;simp only[bfs,dif_pos hlt,r2]at hb;exact hb
   right;refine⟨acc,?_,by rw[←hb,bfs_done hlt]⟩;unfold F_52;simp[show¬((i:Int)<(acc.length:Int)) by omega])
  (N:=N) (s:=(insAll [0] entry,m2,1)) ⟨1,rfl,by have:=h.n1;omega,acc0 h,hR2,rfl⟩ (by simp;omega)
 rw[show iterO N (fun s=>F_52 N rows s.1 s.2.1 s.2.2) (insAll [0] entry,m2,1)=_ from h1,h2];rfl
open Go Go.Eng
theorem mem_ins{acc:List Int}{x y:Int}:y∈ins acc x↔y∈acc∨y=x:=by
 unfold ins;split
 ·rename_i h;constructor
  ·exact .inl
  rintro(h'|rfl)
  ·exact h'
  exact h
 simp
theorem mem_insAll: ∀{xs acc:List Int} {y:Int},y∈insAll acc xs↔y∈acc∨y∈xs
 | [],acc,y=>by simp[insAll]
 |x::xs,acc,y=>by
   have:=mem_insAll (xs:=xs) (acc:=ins acc x) (y:=y);rw[mem_ins]at this;show y∈insAll (ins acc x) xs↔_;rw[this,List.mem_cons,or_assoc]
theorem bfs_props{rows:List (List Int)}{n:Nat}(hrow: ∀r∈rows,∀x∈r,0≤x∧x<n): ∀(k i:Nat) (acc:List Int),Acc n acc→n+1-i≤k+1→1≤i→(∀p,(h:p<acc.length)→1≤p→p<i→ ∀y∈rows.getD acc[p].toNat [],y∈acc)→
 Acc n (bfs rows k i acc)∧acc <+: bfs rows k i acc∧ ∀p,(h:p<(bfs rows k i acc).length)→1≤p→ ∀y∈rows.getD (bfs rows k i acc)[p].toNat [],y∈bfs rows k i acc
 |0,i,acc,hA,hk,hi,hc=>by
   simp only[bfs];have:=hA.len;exact⟨hA,List.prefix_refl _,fun p h h1=>hc p h h1 (by omega)⟩
 |k+1,i,acc,hA,hk,hi,hc=>by
   by_cases hlt:i<acc.length
   ·simp only[bfs,dif_pos hlt]
    have hr: ∀y∈rows.getD acc[i].toNat [],0≤y∧y<(n:Int):=by
     intro y hy;simp only[List.getD]at hy
     cases hg:rows[acc[i].toNat]? with
     |none=>rw[hg]at hy;simp at hy
     |some r=>rw[hg]at hy;exact hrow r (List.mem_of_getElem? hg) y hy
    obtain⟨t,ht⟩:=insAll_prefix (rows.getD acc[i].toNat []) acc
    have hget: ∀p,(h:p<acc.length)→ ∀h':p<(insAll acc (rows.getD acc[i].toNat [])).length,(insAll acc (rows.getD acc[i].toNat []))[p]=acc[p]:=by
     intro p h h';have:(insAll acc (rows.getD acc[i].toNat []))[p]? =acc[p]? :=by rw[←ht,List.getElem?_append_left h]
     rw[List.getElem?_eq_getElem h',List.getElem?_eq_getElem h]at this;exact Option.some.inj this
    have ih:=bfs_props hrow k (i+1) (insAll acc (rows.getD acc[i].toNat [])) (hA.insAll hr) (by omega) (by omega) (fun p h h1 h2 y hy=>by
     have hp:p<acc.length:=by omega
     rw[hget p hp h]at hy;rw[mem_insAll];by_cases hpi:p=i
     ·subst hpi;exact .inr hy
     exact .inl (hc p hp h1 (by omega) y hy))
    exact⟨ih.1,(insAll_prefix _ _).trans ih.2.1,ih.2.2⟩
   rw[bfs_done hlt];exact⟨hA,List.prefix_refl _,fun p h h1=>hc p h h1 (by omega)⟩
theorem ord_props{rows:List (List Int)}{rule entry:List Int}(h:Rt rows rule entry):
 Acc rows.length (ord rows entry)∧insAll [0] entry <+: ord rows entry∧ ∀s∈ord rows entry,∀y∈rows.getD s.toNat [],y∈ord rows entry:=by
 obtain⟨h1,h2,h3⟩:=bfs_props (rows:=rows) (n:=rows.length) h.row (rows.length+1-1) 1 _ (acc0 h) (by omega) (by omega) (fun p _ h1 h2=>by omega);refine⟨h1,h2,fun s hs y hy=>?_⟩;obtain⟨p,hp,rfl⟩:=List.mem_iff_getElem.1 hs;by_cases h0:1≤p
 ·exact h3 p hp h0 y hy
 obtain rfl:p=0:=by omega
 have hz:(0:Int)∈ord rows entry:=h2.subset (mem_insAll.2 (.inl (by simp)))
 have h00:(ord rows entry)[0]=0:=by
  obtain⟨t,ht⟩:=(insAll_prefix entry [0]).trans h2
  have:(ord rows entry)[0]? =some 0:=by
   show(bfs rows (rows.length+1-1) 1 (insAll [0] entry))[0]? =some 0;rw[←ht];rfl
  rw[List.getElem?_eq_getElem hp]at this;exact Option.some.inj this
 have h00':(bfs rows (rows.length+1-1) 1 (insAll [0] entry))[0]=0:=h00
 have e:rows.getD (0:Int).toNat []=List.replicate 256 0:=by
  show rows.getD 0 []=_;rw[List.getD,h.r0];rfl
 have hy':y∈rows.getD (0:Int).toNat []:=by
  have:=hy;rw[h00]at this;exact this
 rw[e]at hy';rw[List.eq_of_mem_replicate hy'];exact hz
def pl(o:List Int)(x:Int):Int:=if x∈o then(o.idxOf x:Int)else 0
def reRows(o:List Int)(rows:List (List Int)):List (List Int):=o.map fun s=>(rows.getD s.toNat []).map (pl o)
def reRule(o rule:List Int):List Int:=o.map fun s=>rule.getD s.toNat 0
def reEntry(o entry:List Int):List Int:=entry.map (pl o)
theorem pl_get{o:List Int}(hn:o.Nodup){i:Nat}(hi:i<o.length):pl o o[i]=i:=by
 unfold pl;rw[if_pos (List.getElem_mem hi)];rw[List.Nodup.idxOf_getElem hn]
theorem reRows_get{o:List Int}{rows:List (List Int)}{s:Int}(hs:s∈o):(reRows o rows).getD (pl o s).toNat []=(rows.getD s.toNat []).map (pl o):=by
 have hlt:=List.idxOf_lt_length_of_mem hs;unfold reRows;have:(pl o s).toNat=o.idxOf s:=by unfold pl;rw[if_pos hs];simp
 rw[this,List.getD,List.getElem?_map,List.getElem?_eq_getElem hlt,List.getElem_idxOf hlt];rfl
open Go Go.Eng
theorem place_loop{N:Nat}{o:List Int}{n:Nat}(hN:4294967296≤N)(hn:n<4294967296)(hA:Acc n o):
 ∃P,iterO N (fun s=>F_48 N o s.1 s.2) (0,List.replicate n 0)=some P∧P.length=n∧ ∀x:Nat,x<n→P[x]? =some (pl o x):=by
 have hle:=hA.len
 obtain⟨P,h1,h2,h3⟩:=loop_inv (f:=fun s=>F_48 N o s.1 s.2) (fun i (s:List Int)=>((i:Int),s)) id o (fun i P=>P.length=n∧ ∀x:Nat,x<n→P[x]? =some (if(x:Int)∈o.take i then(o.idxOf (x:Int):Int)else 0)) (N:=N) (s:=List.replicate n 0) (by omega)
  ⟨by simp,fun x hx=>by simp[hx]⟩
  (fun i x P hx hI=>by
   obtain⟨k1,k2⟩:=hI;have hi:=lt_len hx;have hxr:=hA.rng x (List.mem_of_getElem? hx);obtain⟨v,rfl⟩: ∃v:Nat,x=(v:Int):=⟨x.toNat,by omega⟩;have hv:v<P.length:=by omega
   refine⟨P.set v (i:Int),?_,by simp[k1],fun y hy=>?_⟩
   ·unfold F_48;simp only[show((i:Int)<(o.length:Int)) by omega,decide_true,if_true,idx_of hx,idx_nat hv,setI_nat hv,bind,Option.bind_some];rw[w64_succ (by omega)]
   have hmem:((y:Int)∈o.take (i+1))↔((y:Int)∈o.take i∨(y:Int)=v):=by
    rw[List.take_add_one,hx];simp
   by_cases hyv:y=v
   ·subst hyv;rw[List.getElem?_set_self hv,if_pos (hmem.2 (.inr rfl))]
    have hxi:o[i]=(y:Int):=by
     rw[List.getElem?_eq_getElem hi]at hx;exact Option.some.inj hx
    rw[←hxi,List.Nodup.idxOf_getElem hA.nd]
   rw[List.getElem?_set_ne (by omega),k2 y hy]
   have:((y:Int)∈o.take (i+1))↔((y:Int)∈o.take i):=by
    rw[hmem];constructor
    ·rintro(h|h)
     ·exact h
     omega
    exact .inl
   simp only[this])
  (fun s _=>by unfold F_48;simp)
 exact⟨P,h1,h2,fun x hx=>by rw[h3 x hx,List.take_length];rfl⟩
theorem row_loop{N:Nat}{o P row:List Int}{n:Nat}(hN:4294967296≤N)(hg: ∀x:Nat,x<n→P[x]? =some (pl o x))(hw:row.length=256)(hr: ∀y∈row,0≤y∧y<(n:Int)):
 iterO N (fun s=>F_36 N P row s.1 s.2) (row,0)=some (row.map (pl o)):=by
 obtain⟨r,h1,h2,h3⟩:=loop_inv (f:=fun s=>F_36 N P row s.1 s.2) (fun i (s:List Int)=>(s,(i:Int))) id row (fun i r=>r.length=256∧ ∀j:Nat,r[j]? =if j<i then(row[j]?).map (pl o)else row[j]?) (N:=N) (s:=row) (by omega)
  ⟨hw,fun j=>by simp⟩
  (fun i x r hx hI=>by
   obtain⟨k1,k2⟩:=hI;have hi:=lt_len hx;have hxr:=hr x (List.mem_of_getElem? hx);obtain⟨v,rfl⟩: ∃v:Nat,x=(v:Int):=⟨x.toNat,by omega⟩;have hv:v<n:=by omega
   have hir:i<r.length:=by omega
   refine⟨r.set i (pl o v),?_,by simp[k1],fun j=>?_⟩
   ·unfold F_36;simp only[show((i:Int)<256) by omega,decide_true,if_true,idx_of hx,idx_of (hg v hv),idx_nat hir,setI_nat hir,bind,Option.bind_some];rw[w64_succ (by omega)]
   by_cases hj:j=i
   ·subst hj;rw[List.getElem?_set_self hir,if_pos (by omega),hx];rfl
   rw[List.getElem?_set_ne (by omega),k2 j];by_cases h:j<i
   ·rw[if_pos h,if_pos (by omega)]
   rw[if_neg h,if_neg (by omega)])
  (fun s _=>by unfold F_36;simp[hw])
 rw[show iterO N (fun s=>F_36 N P row s.1 s.2) (row,0)=_ from h1]
 congr 1
 apply List.ext_getElem?;intro j;rw[id,h3 j,List.getElem?_map];by_cases h:j<row.length
 ·rw[if_pos h]
 rw[if_neg h,List.getElem?_eq_none (by omega)];rfl
theorem getD_of{α:Type}{l:List α}{i:Nat}{x d:α}(h:l[i]? =some x):l.getD i d=x:=by rw[List.getD,h];rfl
theorem canon_spec{N:Nat}{rows:List (List Int)}{rule entry:List Int}(hN:4294967296≤N)(hs:Sz rows rule entry)(h:Rt rows rule entry):
 F_3 N rows rule entry=some (reRows (ord rows entry) rows,reRule (ord rows entry) rule,reEntry (ord rows entry) entry):=by
 obtain⟨hA,hp,hc⟩:=ord_props h;have hle:=hA.len;have hn2:=h.n2;have he2:=h.e2;obtain⟨b,hb,hbt⟩:=right_spec hN hs;rw[hbt.2 h]at hb;have hz:(0:Int)∈ord rows entry:=hp.subset (mem_insAll.2 (.inl (by simp)));have hpos:0<(ord rows entry).length:=List.length_pos_of_mem hz;unfold F_3 F_101;obtain⟨P,p1,p2,p3⟩:=place_loop (N:=N) hN (show rows.length<4294967296 by omega) hA;simp only[hb,bind,Option.bind_some,Bool.not_true,Bool.false_eq_true,if_false,order_spec hN hs h];rw[mk_eq (by omega)];simp only[Option.bind_some];rw[p1];simp only[Option.bind_some]
 obtain⟨s1,q1,q2,q3⟩:=loop_inv (f:=fun s=>F_49 N rows rule (ord rows entry) P s.1 s.2.1 s.2.2) (fun i (s:List (List Int)×List Int)=>(s.1,s.2,(i:Int))) id (ord rows entry)
  (fun i s=>s.1=(reRows (ord rows entry) rows).take i∧s.2=(reRule (ord rows entry) rule).take i) (N:=N) (s:=([],[])) (by omega) ⟨by simp,by simp⟩
  (fun i x s hx hI=>by
   obtain⟨k1,k2⟩:=hI;obtain⟨R,U⟩:=s;simp only at k1 k2;have hi:=lt_len hx;have hxr:=hA.rng x (List.mem_of_getElem? hx);obtain⟨row,r1,r2,r3,r4⟩:=row_of h hxr;obtain⟨v,rfl⟩: ∃v:Nat,x=(v:Int):=⟨x.toNat,by omega⟩;have hvu:v<rule.length:=by have:=h.ru;omega
   have l1:R.length≤i:=by rw[k1];simp;omega
   have l2:U.length≤i:=by rw[k2];simp;omega
   have g1:(reRows (ord rows entry) rows)[i]? =some (row.map (pl (ord rows entry))):=by
    unfold reRows;rw[List.getElem?_map,hx,←r2];rfl
   have g2:(reRule (ord rows entry) rule)[i]? =some rule[v]:=by
    unfold reRule;rw[List.getElem?_map,hx];show some (rule.getD (v:Int).toNat 0)=_;rw[getD_of (List.getElem?_eq_getElem (show(v:Int).toNat<rule.length by simpa using hvu))];rfl
   refine⟨(R++ [row.map (pl (ord rows entry))],U++ [rule[v]]),?_,?_,?_⟩
   ·unfold F_49;simp only[show((i:Int)<((ord rows entry).length:Int)) by omega,decide_true,if_true,idx_of hx,r1,bind,Option.bind_some];rw[row_loop hN p3 (hs.w row r3) r4];simp only[Option.bind_some];rw[app_eq (by simp;omega)];simp only[Option.bind_some,idx_nat hvu];rw[app_eq (by simp;omega)];simp only[Option.bind_some];rw[w64_succ (by omega)]
   ·rw[List.take_add_one,g1,k1];rfl
   rw[List.take_add_one,g2,k2];rfl)
  (fun s _=>by unfold F_49;simp)
 rw[show iterO N (fun s=>F_49 N rows rule (ord rows entry) P s.1 s.2.1 s.2.2) ([],[],0)=_ from q1];rw[List.take_of_length_le (by simp[reRows])]at q2;rw[List.take_of_length_le (by simp[reRule])]at q3;obtain⟨s1a,s1b⟩:=s1;simp only at q2 q3;subst q2 q3;simp only[Option.bind_some,id]
 have hne:(((ord rows entry).length:Int)==0)=false:=by
  have: ¬(((ord rows entry).length:Int)=0):=by omega
  simpa using this
 simp only[hne,Bool.false_eq_true,if_false]
 obtain⟨s3,w1,w2⟩:=loop_inv (f:=fun s=>F_50 N entry P s.1 s.2) (fun i (s:List Int)=>(s,(i:Int))) id entry (fun i s=>s=(reEntry (ord rows entry) entry).take i) (N:=N) (s:=[]) (by omega) (by simp)
  (fun i x s hx k1=>by
   have hi:=lt_len hx;have hxr:=h.ent x (List.mem_of_getElem? hx);obtain⟨v,rfl⟩: ∃v:Nat,x=(v:Int):=⟨x.toNat,by omega⟩;have l1:s.length≤i:=by rw[k1];simp;omega
   refine⟨s++ [pl (ord rows entry) v],?_,?_⟩
   ·unfold F_50;simp only[show((i:Int)<(entry.length:Int)) by omega,decide_true,if_true,idx_of hx,idx_of (p3 v (by omega)),bind,Option.bind_some];rw[app_eq (by simp;omega)];simp only[Option.bind_some];rw[w64_succ (by omega)]
   have:(reEntry (ord rows entry) entry)[i]? =some (pl (ord rows entry) v):=by unfold reEntry;rw[List.getElem?_map,hx];rfl
   rw[List.take_add_one,this,k1];rfl)
  (fun s _=>by unfold F_50;simp)
 rw[show iterO N (fun s=>F_50 N entry P s.1 s.2) ([],0)=_ from w1];rw[List.take_of_length_le (by simp[reEntry])]at w2;subst w2;rfl
open Go Go.Eng
def upto(n:Nat):List Int:=(List.range n).map fun(i:Nat)=>(i:Int)
theorem upto_get{n i:Nat}(h:i<(upto n).length):(upto n)[i]=(i:Int):=by simp[upto]
theorem upto_len(n:Nat):(upto n).length=n:=by simp[upto]
theorem mem_reRows{o:List Int}{rows:List (List Int)}{r:List Int}(h:r∈reRows o rows): ∃s∈o,r=(rows.getD s.toNat []).map (pl o):=by
 obtain⟨s,hs,rfl⟩:=List.mem_map.1 h;exact⟨s,hs,rfl⟩
theorem pl_rng{o:List Int}{x:Int}(h0:0<o.length):0≤pl o x∧pl o x<o.length:=by
 unfold pl;split
 ·rename_i h;have:=List.idxOf_lt_length_of_mem h;omega
 omega
theorem re_sz{rows:List (List Int)}{rule entry:List Int}(hs:Sz rows rule entry)(h:Rt rows rule entry):Sz (reRows (ord rows entry) rows) (reRule (ord rows entry) rule) (reEntry (ord rows entry) entry):=by
 obtain⟨hA,hp,hc⟩:=ord_props h;have hle:=hA.len;have hn2:=h.n2;refine⟨fun r hr=>?_,by simp[reRows];omega,by simp[reRule];omega,by simpa[reEntry]using hs.c⟩;obtain⟨s,hsm,rfl⟩:=mem_reRows hr;have hsr:=hA.rng s hsm;rw[List.length_map,List.getD,List.getElem?_eq_getElem (show s.toNat<rows.length by omega)];exact hs.w _ (List.getElem_mem _)
open Go Go.Eng
def b1(d:Nat):Nat:=((d/2)&&&85)+(d&&&85)
def b2(d:Nat):Nat:=((d/4)&&&51)+(d&&&51)
def b3(d:Nat):Nat:=(d/16+d) %16
theorem f1: ∀d:Fin 256,∀e:Fin 2,((d.val/2+128*e.val)&&&85)=(d.val/2)&&&85:=by decide+kernel
theorem f2: ∀d:Fin 256,∀e:Fin 4,((d.val/4+64*e.val)&&&51)=(d.val/4)&&&51:=by decide+kernel
theorem f3: ∀d:Fin 256,b1 d.val<256∧b2 (b1 d.val)<256∧b2 (b1 d.val) %16≤4∧b2 (b1 d.val)/16≤4:=by decide+kernel
theorem f4: ∀d:Fin 256,b3 (b2 (b1 d.val))=(List.range 8).countP (d.val.testBit ·)∧b3 (b2 (b1 d.val))≤8:=by decide+kernel
def pop(x:Nat):Nat:=(List.range 64).countP (x.testBit ·)
theorem ad(a b c d:Nat):(a+256*b)+(c+256*d)=(a+c)+256*(b+d):=by omega
theorem shr_u64{a:Nat}{k:Nat}(hk:k<64):shrI .u64 (a:Int) (k:Int)=((a/2^k:Nat):Int):=by
 simp only[shrI,IntKind.bits,Int.toNat_natCast,Nat.min_eq_left (show k≤64 by omega)];rw[Int.fdiv_eq_ediv_of_nonneg _ (Int.le_of_lt (Int.pow_pos (by decide)))]
 push_cast
 rfl
theorem wrapN{a:Nat}(h:a<18446744073709551616):IntKind.wrap .u64 (a:Int)=(a:Int):=by rw[wrapU64]<;>omega
def t1(x:Int):Int:=IntKind.wrap .u64 ((iand .u64 (shrI .u64 x 1) 6148914691236517205)+(iand .u64 x 6148914691236517205))
def t2(x:Int):Int:=IntKind.wrap .u64 ((iand .u64 (shrI .u64 x 2) 3689348814741910323)+(iand .u64 x 3689348814741910323))
def t3(x:Int):Int:=iand .u64 (IntKind.wrap .u64 ((shrI .u64 x 4)+x)) 1085102592571150095
def t4(x:Int):Int:=IntKind.wrap .u64 (x+shrI .u64 x 8)
open Go Go.Eng
theorem countP_one{p:Nat→Bool}{k:Nat}(hk:p k=false): ∀{l:List Nat},l.Nodup→k∈l→l.countP (fun j=>p j||j==k)=l.countP p+1
 | [],_,h=>by simp at h
 |x::l,hn,h=>by
   obtain⟨h1,h2⟩:=List.nodup_cons.1 hn;by_cases hx:x=k
   ·subst hx
    have:l.countP (fun j=>p j||j==x)=l.countP p:=List.countP_congr fun j hj=>by
     have:j≠x:=fun e=>h1 (e▸hj);simp[this]
    rw[List.countP_cons,List.countP_cons,this];simp[hk]
   have hm:k∈l:=by
    rcases List.mem_cons.1 h with h|h
    ·exact absurd h.symm hx
    exact h
   have ih:=countP_one hk h2 hm;rw[List.countP_cons,List.countP_cons,ih];simp[hx];omega
theorem pop_or{a k:Nat}(hk:k<64)(h:a.testBit k=false):pop (a|||2^k)=pop a+1:=by
 unfold pop;rw[←countP_one (p:=(a.testBit ·)) h List.nodup_range (by simpa using hk)];refine List.countP_congr fun j _=>?_;rw[Nat.testBit_or,Nat.testBit_two_pow];by_cases hj:j=k
 ·subst hj;simp
 have: ¬k=j:=fun e=>hj e.symm;simp[hj,this]
def cnt(m:List Int):Nat:=(m.map fun w=>pop w.toNat).sum
theorem sum_set{f:Int→Nat}: ∀{l:List Int} {i:Nat} {x y:Int},l[i]? =some x→((l.set i y).map f).sum+f x=(l.map f).sum+f y
 | [],i,x,y,h=>by simp at h
 |z::l,0,x,y,h=>by simp at h;subst h;simp;omega
 |z::l,i+1,x,y,h=>by
   have:=sum_set (f:=f) (l:=l) (i:=i) (x:=x) (y:=y) (by simpa using h);simp only[List.set_cons_succ,List.map_cons,List.sum_cons];omega
theorem put_cnt{N n:Nat}{m acc:List Int}{x:Int}(h:Rel n m acc)(h0:0≤x∧x<n)(hn:n≤65536)(hc:cnt m=acc.length): ∃m',F_18 N m (n:Int) x=some (m',decide (x∉acc))∧Rel n m' (ins acc x)∧cnt m'=(ins acc x).length:=by
 obtain⟨m',h1,h2⟩:=put_rel (N:=N) h h0 hn;refine⟨m',h1,h2,?_⟩;obtain⟨i,rfl⟩: ∃i:Nat,x=(i:Int):=⟨x.toNat,by omega⟩;have hi:i<n:=by omega
 obtain⟨m'',e1,_,_,e2⟩:=put_spec (N:=N) h.mkr hi hn;rw[h1]at e1;have e3:=(Prod.mk.inj (Option.some.inj e1)).1;subst e3;have ha:=h.at_ i hi;unfold ins;by_cases hh:has m i=true
 ·rw[e2,if_pos hh,if_pos (ha.1 hh),hc]
 have hf:has m i=false:=by simpa using hh
 have hm: ¬(i:Int)∈acc:=fun hm=>hh (ha.2 hm);rw[if_neg hh]at e2;rw[if_neg hm,e2];have hl:i/64<m.length:=by rw[h.mkr.len];omega
 have hw:=h.mkr.rng _ (List.getElem_mem hl);have hx:m[i/64]? =some m[i/64]:=List.getElem?_eq_getElem hl;have hg:m.getD (i/64) 0=m[i/64]:=by rw[List.getD,hx];rfl
 have hs:=sum_set (f:=fun w=>pop w.toNat) (y:=((m[i/64].toNat|||2^(i %64):Nat):Int)) hx
 have hb:m[i/64].toNat.testBit (i %64)=false:=by
  unfold has at hf;rwa[hg]at hf
 rw[hg];simp only[Int.toNat_natCast]at hs;rw[pop_or (by omega) hb]at hs;unfold cnt at hc ⊢;simp only[List.length_append,List.length_cons,List.length_nil];omega
theorem acc_nil(n:Nat):Acc n []:=⟨by simp,fun x hx=>by simp at hx⟩
open Go Go.Eng
def nxt(rows:List (List Int))(s c:Int):Int:=(rows.getD s.toNat []).getD c.toNat 0
def beg(entry:List Int)(cond:Int):Int:=if 0≤cond∧cond<(entry.length:Int)then entry.getD cond.toNat 0 else 0
def stt(rows:List (List Int))(entry:List Int)(cond:Int)(text:List Int):Int:=text.foldl (nxt rows) (beg entry cond)
def Byt(text:List Int):Prop:= ∀c∈text,0≤c∧c<256
theorem Byt.take{text:List Int}(h:Byt text)(k:Nat):Byt (text.take k):=fun c hc=>h c (List.mem_of_mem_take hc)
section
variable {N:Nat}{rows:List (List Int)}{rule entry:List Int}
theorem nxt_get(hs:Sz rows rule entry){s c:Int}(hr:0≤s∧s<rows.length)(hc:0≤c∧c<256): ∃row,idx rows s=some row∧row∈rows∧idx row c=some (nxt rows s c)∧nxt rows s c∈row:=by
 have hl:s.toNat<rows.length:=by omega
 have hw:=hs.w _ (List.getElem_mem hl);have e1:rows.getD s.toNat []=rows[s.toNat]:=by rw[List.getD,List.getElem?_eq_getElem hl];rfl
 have hcl:c.toNat<rows[s.toNat].length:=by omega
 have e2:nxt rows s c=rows[s.toNat][c.toNat]:=by unfold nxt;rw[e1,List.getD,List.getElem?_eq_getElem hcl];rfl
 exact⟨rows[s.toNat],idx_int hr.1 hl,List.getElem_mem hl,by rw[e2];exact idx_int hc.1 hcl,e2▸List.getElem_mem hcl⟩
theorem nxt_rng(hs:Sz rows rule entry)(h:Rt rows rule entry){s c:Int}(hr:0≤s∧s<rows.length)(hc:0≤c∧c<256):0≤nxt rows s c∧nxt rows s c<rows.length:=by
 obtain⟨row,_,h2,_,h4⟩:=nxt_get hs hr hc;exact h.row row h2 _ h4
theorem next_spec(hs:Sz rows rule entry){s c:Int}(hr:0≤s∧s<rows.length)(hc:0≤c∧c<256):F_98 N rows rule entry s c=some (nxt rows s c):=by
 obtain⟨row,h1,_,h3,_⟩:=nxt_get hs hr hc;unfold F_98;simp only[show¬s<0 by omega,show¬s≥(rows.length:Int) by omega,decide_false,Bool.false_eq_true,if_false,bind,Option.bind_some,h1,h3]
theorem beg_rng(h:Rt rows rule entry)(cond:Int):0≤beg entry cond∧beg entry cond<rows.length:=by
 unfold beg;split
 ·rename_i hc;have hl:cond.toNat<entry.length:=by omega
  rw[List.getD,List.getElem?_eq_getElem hl];exact h.ent _ (List.getElem_mem hl)
 have:=h.n1;omega
theorem begin_spec(cond:Int):F_97 N rows rule entry cond=some (beg entry cond):=by
 unfold F_97 beg;by_cases h1:cond<0
 ·have: ¬(0≤cond∧cond<(entry.length:Int)):=by omega
  simp[h1,this]
 by_cases h2:cond≥(entry.length:Int)
 ·have: ¬(0≤cond∧cond<(entry.length:Int)):=by omega
  simp[h1,h2,this]
 have h3:0≤cond∧cond<(entry.length:Int):=by omega
 have hl:cond.toNat<entry.length:=by omega
 rw[if_pos h3,List.getD,List.getElem?_eq_getElem hl];simp only[h1,h2,decide_false,Bool.false_eq_true,if_false,bind,Option.bind_some,idx_int h3.1 hl];rfl
theorem stt_rng(hs:Sz rows rule entry)(h:Rt rows rule entry)(cond:Int){text:List Int}(ht:Byt text):0≤stt rows entry cond text∧stt rows entry cond text<rows.length:=by
 unfold stt
 have key: ∀(l:List Int) (s:Int),Byt l→(0≤s∧s<(rows.length:Int))→0≤l.foldl (nxt rows) s∧l.foldl (nxt rows) s<rows.length:=by
  intro l
  induction l with
  |nil=>intro s _ hs;exact hs
  |cons c l ih=>intro s hl hr;exact ih _ (fun x hx=>hl x (by simp[hx])) (nxt_rng hs h hr (hl c (by simp)))
 exact key text _ ht (beg_rng h cond)
theorem run_spec(hN:4294967296≤N)(hs:Sz rows rule entry)(h:Rt rows rule entry)(cond:Int){text:List Int}(ht:Byt text)(hl:text.length<4294967296):
 F_24 N rows rule entry cond text=some (rule.getD (stt rows entry cond text).toNat 0):=by
 obtain⟨b,hb,hbt⟩:=right_spec hN hs;rw[hbt.2 h]at hb;unfold F_24
 obtain⟨s,h1,h2,_⟩:=loop_inv (f:=fun s=>F_65 N rows rule entry text s.1 s.2) (fun i (s:Int)=>((i:Int),s)) id text (fun i s=>s=stt rows entry cond (text.take i)∧0≤s∧s<rows.length) (N:=N) (s:=beg entry cond) (by omega)
  ⟨by simp[stt],beg_rng h cond⟩
  (fun i c s hc hI=>by
   obtain⟨k1,k2⟩:=hI;have hi:=lt_len hc;have hcb:=ht c (List.mem_of_getElem? hc);refine⟨nxt rows s c,?_,?_,nxt_rng hs h k2 hcb⟩
   ·unfold F_65;simp only[show((i:Int)<(text.length:Int)) by omega,decide_true,if_true,idx_of hc,next_spec hs k2 hcb,bind,Option.bind_some];rw[w64_succ (by omega)]
   unfold stt at k1 ⊢;rw[List.take_add_one,hc,List.foldl_append,←k1];rfl)
  (fun s _=>by unfold F_65;simp)
 rw[List.take_length]at h2;subst h2;have hr:=stt_rng hs h cond ht;have hru:=h.ru;have hlt:(stt rows entry cond text).toNat<rule.length:=by omega
 simp only[hb,begin_spec,bind,Option.bind_some,Bool.not_true,Bool.false_eq_true,if_false];rw[show iterO N (fun s=>F_65 N rows rule entry text s.1 s.2) (0,beg entry cond)=_ from h1];simp only[Option.bind_some,id,idx_int hr.1 hlt];rw[List.getD,List.getElem?_eq_getElem hlt];rfl
theorem ord_zero(h:Rt rows rule entry):(0:Int)∈ord rows entry∧pl (ord rows entry) 0=0∧0<(ord rows entry).length:=by
 obtain⟨hA,hp,hc⟩:=ord_props h;have hz:(0:Int)∈ord rows entry:=hp.subset (mem_insAll.2 (.inl (by simp)));have hpos:0<(ord rows entry).length:=List.length_pos_of_mem hz
 have h00:(ord rows entry)[0]? =some 0:=by
  obtain⟨t,ht⟩:=(insAll_prefix entry [0]).trans hp;rw[←ht];rfl
 have:=pl_get hA.nd hpos;rw[List.getElem?_eq_getElem hpos]at h00;rw[Option.some.inj h00]at this;exact⟨hz,this,hpos⟩
theorem beg_mem(h:Rt rows rule entry)(cond:Int):beg entry cond∈ord rows entry:=by
 obtain⟨hA,hp,hc⟩:=ord_props h;unfold beg;split
 ·rename_i hcd;have hl:cond.toNat<entry.length:=by omega
  rw[List.getD,List.getElem?_eq_getElem hl];exact hp.subset (mem_insAll.2 (.inr (List.getElem_mem hl)))
 exact(ord_zero h).1
theorem beg_re(h:Rt rows rule entry)(cond:Int):beg (reEntry (ord rows entry) entry) cond=pl (ord rows entry) (beg entry cond):=by
 unfold beg;have hl:(reEntry (ord rows entry) entry).length=entry.length:=by simp[reEntry]
 rw[hl];split
 ·rename_i hcd;have hl:cond.toNat<entry.length:=by omega
  unfold reEntry;rw[List.getD,List.getElem?_map,List.getElem?_eq_getElem hl,List.getD,List.getElem?_eq_getElem hl];rfl
 exact(ord_zero h).2.1.symm
theorem nxt_re(hs:Sz rows rule entry)(h:Rt rows rule entry){s c:Int}(hm:s∈ord rows entry)(hc:0≤c∧c<256):
 nxt (reRows (ord rows entry) rows) (pl (ord rows entry) s) c=pl (ord rows entry) (nxt rows s c)∧nxt rows s c∈ord rows entry:=by
 obtain⟨hA,hp,hcl⟩:=ord_props h;obtain⟨row,g1,g2,g3,g4⟩:=nxt_get hs (hA.rng s hm) hc;have hsr:=hA.rng s hm
 have e1:rows.getD s.toNat []=row:=by
  obtain⟨_,hlt,hx⟩:=idx_some g1;rw[List.getD,hx];rfl
 refine⟨?_,hcl s hm _ (e1▸g4)⟩;obtain⟨_,hlt,hx⟩:=idx_some g3;show(List.getD (List.getD (reRows (ord rows entry) rows) (pl (ord rows entry) s).toNat []) c.toNat 0)=_;rw[reRows_get hm,e1,List.getD,List.getElem?_map,hx];rfl
theorem stt_re(hs:Sz rows rule entry)(h:Rt rows rule entry)(cond:Int){text:List Int}(ht:Byt text):
 stt (reRows (ord rows entry) rows) (reEntry (ord rows entry) entry) cond text=pl (ord rows entry) (stt rows entry cond text)∧stt rows entry cond text∈ord rows entry:=by
 unfold stt;rw[beg_re h]
 have key: ∀(l:List Int) (s:Int),Byt l→s∈ord rows entry→l.foldl (nxt (reRows (ord rows entry) rows)) (pl (ord rows entry) s)=pl (ord rows entry) (l.foldl (nxt rows) s)∧l.foldl (nxt rows) s∈ord rows entry:=by
  intro l
  induction l with
  |nil=>intro s _ hm;exact⟨rfl,hm⟩
  |cons c l ih=>
    intro s hl hm;obtain⟨k1,k2⟩:=nxt_re hs h hm (hl c (by simp));simp only[List.foldl_cons];rw[k1];exact ih _ (fun x hx=>hl x (by simp[hx])) k2
 exact key text _ ht (beg_mem h cond)
theorem rule_re{o:List Int}{s:Int}(hm:s∈o):(reRule o rule).getD (pl o s).toNat 0=rule.getD s.toNat 0:=by
 have hlt:=List.idxOf_lt_length_of_mem hm;have:(pl o s).toNat=o.idxOf s:=by unfold pl;rw[if_pos hm];simp
 unfold reRule;rw[this,List.getD,List.getElem?_map,List.getElem?_eq_getElem hlt,List.getElem_idxOf hlt];rfl
end
open Go Go.Eng
theorem has_spec{N n i:Nat}{m:List Int}(hm:MkR n m)(hi:i<n)(hn:n≤65536):F_41 N m (n:Int) (i:Int)=some (has m i):=by
 have hl:i/64<m.length:=by rw[hm.len];omega
 have hw:=hm.rng _ (List.getElem_mem hl)
 have hp:(2:Nat)^(i %64)<18446744073709551616:=by
  have h1:(2:Nat)^(i %64)≤2^63:=Nat.pow_le_pow_right (by omega) (by omega);have h2:(2:Nat)^63=9223372036854775808:=by decide
  omega
 obtain⟨a,ha⟩: ∃a:Nat,m[i/64]=(a:Int):=⟨m[i/64].toNat,by omega⟩;have hx:m[i/64]? =some (a:Int):=by rw[List.getElem?_eq_getElem hl,ha]
 have ha':a<18446744073709551616:=by omega
 have hh:has m i=a.testBit (i %64):=by simp[has,List.getD,hx]
 have hand:(a&&&2^(i %64)=0)↔a.testBit (i %64)=false:=by
  constructor
  ·intro h;have:=congrArg (·.testBit (i %64)) h;simpa[Nat.testBit_and,Nat.testBit_two_pow_self]using this
  intro h;apply Nat.eq_of_testBit_eq;intro j;rw[Nat.testBit_and,Nat.testBit_two_pow];by_cases hj:i %64=j
  ·subst hj;simp[h]
  simp[hj]
 unfold F_41;rw[at_spec (by omega)];simp only[bind,Option.bind_some,decide_eq_true hi,if_true,idx_of hx,iand_u64 ha' hp,hh];by_cases hb:a.testBit (i %64)=true
 ·have h1: ¬(a&&&2^(i %64)=0):=fun h=>by rw[hand.1 h]at hb;cases hb
  have h2:(((a&&&2^(i %64):Nat):Int) != 0)=true:=by simp;omega
  rw[h2,hb]
 have hb:a.testBit (i %64)=false:=by simpa using hb
 have h2:(((a&&&2^(i %64):Nat):Int) != 0)=false:=by rw[hand.2 hb];rfl
 rw[h2,hb]
theorem low_bit: ∀{x:Nat},x≠0→ ∃k,x.testBit k=true∧ ∀j,j<k→x.testBit j=false:=by
 intro x hx;obtain⟨i,hi⟩:=Nat.exists_testBit_of_ne_zero hx
 induction i using Nat.strongRecOn with
 |ind i ih=>
   by_cases h: ∃j,j<i∧x.testBit j=true
   ·obtain⟨j,hj,hb⟩:=h;exact ih j hj hb
   refine⟨i,hi,fun j hj=>?_⟩
   cases hb:x.testBit j with
   |false=>rfl
   |true=>exact absurd ⟨j,hj,hb⟩ h
theorem low_shape{x k:Nat}(h1:x.testBit k=true)(h2: ∀j,j<k→x.testBit j=false): ∃q,x=2^k*(2*q+1):=by
 have hm:x %2^k=0:=by
  apply Nat.eq_of_testBit_eq;intro j;rw[Nat.testBit_mod_two_pow,Nat.zero_testBit];by_cases hj:j<k
  ·simp[h2 j hj]
  simp[hj]
 have ho:x/2^k %2=1:=by
  rw[Nat.testBit_eq_decide_div_mod_eq]at h1;simpa using h1
 refine⟨x/2^k/2,?_⟩;have e1:2*(x/2^k/2)+1=x/2^k:=by omega
 rw[e1];have:=Nat.div_add_mod x (2^k);omega
theorem and_neg{x k:Nat}(hx:x<18446744073709551616)(h1:x.testBit k=true)(h2: ∀j,j<k→x.testBit j=false):x&&&(18446744073709551616-x)=2^k:=by
 obtain⟨q,hq⟩:=low_shape h1 h2;have hp:0<2^k:=Nat.pow_pos (by omega);have hpos:0<x:=by rw[hq];exact Nat.mul_pos hp (by omega)
 have hk:k<64:=by
  apply Nat.lt_of_not_le;intro h
  have:=Nat.testBit_lt_two_pow (x:=x) (i:=k) (Nat.lt_of_lt_of_le hx (by
   have:=Nat.pow_le_pow_right (n:=2) (by omega) h;have e:(2:Nat)^64=18446744073709551616:=by decide
   omega))
  rw[this]at h1;cases h1
 have hy:x-1=2^k*(2*q)+(2^k-1):=by
  rw[hq,Nat.mul_add,Nat.mul_one];omega
 have hx':x=2^k*(2*q+1)+0:=by rw[hq];rfl
 have e64:(18446744073709551616:Nat)-x=2^64-((x-1)+1):=by
  have e:(2:Nat)^64=18446744073709551616:=by decide
  omega
 rw[e64];apply Nat.eq_of_testBit_eq;intro i
 rw[Nat.testBit_and,Nat.testBit_two_pow_sub_succ (by
                                                       have e:(2:Nat)^64=18446744073709551616:=by decide
                                                       omega),Nat.testBit_two_pow]
 by_cases hi:i<k
 ·rw[h2 i hi];have: ¬k=i:=by omega
  simp[this]
 have ey:(x-1).testBit i=(2*q).testBit (i-k):=by
  rw[hy,Nat.testBit_two_pow_mul_add _ (by omega),if_neg hi]
 have ex:x.testBit i=(2*q+1).testBit (i-k):=by
  rw[hx',Nat.testBit_two_pow_mul_add _ hp,if_neg hi]
 rw[ex,ey];by_cases hik:i=k
 ·subst hik;have:i<64:=hk;simp[this,Nat.testBit_zero]
 obtain⟨j,hj⟩: ∃j,i-k=j+1:=⟨i-k-1,by omega⟩;have hne: ¬k=i:=by omega
 rw[hj,Nat.testBit_succ,Nat.testBit_succ];have e1:(2*q+1)/2=q:=by omega
 have e2:2*q/2=q:=by omega
 rw[e1,e2]
 have h64:q.testBit j=true→i<64:=fun h=>by
  apply Nat.lt_of_not_le;intro hge;have e:(2:Nat)^64=18446744073709551616:=by decide
  have hxi:=Nat.testBit_lt_two_pow (x:=x) (i:=i) (Nat.lt_of_lt_of_le hx (by
   have:=Nat.pow_le_pow_right (n:=2) (by omega) hge;omega))
  rw[ex,hj,Nat.testBit_succ,e1,h]at hxi;cases hxi
 cases hq:q.testBit j with
 |false=>simp[hne]
 |true=>simp[hne,h64 hq]
theorem tab_all: ∀k:Fin 64,tab_math_bits_deBruijn64tab[(2^k.val*285870213051353865 %18446744073709551616)/288230376151711744]? =some (k.val:Int):=by decide+kernel
theorem tz_spec{N x k:Nat}(hx:x<18446744073709551616)(h1:x.testBit k=true)(h2: ∀j,j<k→x.testBit j=false)(hk:k<64):F_93 N (x:Int)=some (k:Int):=by
 have h0:x≠0:=fun h=>by rw[h]at h1;simp at h1
 have hn:(((x:Int))==0)=false:=by simp;exact h0
 have e1:IntKind.wrap .u64 (0-(x:Int))=((18446744073709551616-x:Nat):Int):=by
  simp only[IntKind.wrap,IntKind.signed,IntKind.bits];simp;omega
 have hp:(2:Nat)^k≤2^63:=Nat.pow_le_pow_right (by omega) (by omega)
 have e2:IntKind.wrap .u64 (((2^k:Nat):Int)*285870213051353865)=((2^k*285870213051353865 %18446744073709551616:Nat):Int):=by
  simp only[IntKind.wrap,IntKind.signed,IntKind.bits];simp
 unfold F_93;rw[hn];simp only[Bool.false_eq_true,if_false,e1];rw[iand_u64 hx (by omega),and_neg hx h1 h2,e2];have e3:=shr_u64 (a:=2^k*285870213051353865 %18446744073709551616) (k:=58) (by omega);rw[show((58:Nat):Int)=58 from rfl]at e3;simp only[Nat.reducePow]at e3;rw[e3];have e4:=tab_all ⟨k,hk⟩;simp only at e4;simp only[idx_of e4,bind,Option.bind_some];rw[wrap64 (by omega) (by omega)]
theorem has_big{j:Nat}{m:List Int}(h:m.length≤j/64):has m j=false:=by
 unfold has;rw[List.getD,List.getElem?_eq_none h];simp
theorem after_spec{N n:Nat}{i:Int}{m:List Int}(hN:4294967296≤N)(hm:MkR n m)(hn:n≤65536)(h1: -1≤i)(h2:i<n):
 ∃r,F_27 N m (n:Int) i=some r∧((r= -1∧ ∀j:Nat,i<(j:Int)→has m j=false)∨ ∃j:Nat,r=(j:Int)∧i<(j:Int)∧has m j=true∧ ∀j':Nat,i<(j':Int)→j'<j→has m j'=false):=by
 obtain⟨p,hp⟩: ∃p:Nat,i+1=(p:Int):=⟨(i+1).toNat,by omega⟩
 have e1:w64 (imax i (-1)+1)=(p:Int):=by
  have:imax i (-1)=i:=by
   unfold imax;by_cases h: -1>i
   ·omega
   rw[if_neg h]
  rw[this,hp,w64,wrap64]<;>omega
 have e2:w64 ((p:Int).tdiv 64)=((p/64:Nat):Int):=by
  have:(p:Int).tdiv 64=((p/64:Nat):Int):=by rw[Int.tdiv_eq_ediv_of_nonneg (by omega)];omega
  rw[this,w64,wrap64]<;>omega
 have e3:w64 ((p:Int).tmod 64)=((p %64:Nat):Int)∧(p:Int).tmod 64=((p %64:Nat):Int):=by
  have:(p:Int).tmod 64=((p %64:Nat):Int):=by rw[Int.tmod_eq_emod_of_nonneg (by omega)];omega
  refine⟨?_,this⟩;rw[this,w64,wrap64]<;>omega
 have hml:m.length≤1024:=by rw[hm.len];omega
 unfold F_27;have hlt: ¬i≥(n:Int):=by omega
 simp only[F_29,bind,Option.bind_some,decide_eq_false hlt,Bool.false_eq_true,if_false,e1,e2]
 obtain⟨r,hr,hq⟩:=iterO_while (f:=fun s=>F_78 N m (n:Int) i s) (fun s=> ∃k:Nat,s=(k:Int)∧p/64≤k∧k≤m.length+p/64∧ ∀j':Nat,p≤j'→j'<64*k→has m j'=false)
  (fun s=>m.length+p/64-s.toNat) (fun(r:Unit ⊕ Int)=>match r with
   | .inl _=> ∀j:Nat,i<(j:Int)→has m j=false
   | .inr z=> ∃j:Nat,z=(j:Int)∧i<(j:Int)∧has m j=true∧ ∀j':Nat,i<(j':Int)→j'<j→has m j'=false) (fun s hI=>by
   obtain⟨k,rfl,hk1,hk2,hk3⟩:=hI;unfold F_78;simp only[F_108,bind,Option.bind_some,e1,e2];by_cases hkl:k<m.length
   ·have hw:=hm.rng _ (List.getElem_mem hkl);obtain⟨a,ha⟩: ∃a:Nat,m[k]=(a:Int):=⟨m[k].toNat,by omega⟩;have hx:m[k]? =some (a:Int):=by rw[List.getElem?_eq_getElem hkl,ha]
    have ha':a<18446744073709551616:=by omega
    have hhas: ∀c,c<64→has m (64*k+c)=a.testBit c:=fun c hc=>by
     have q1:(64*k+c)/64=k:=by omega
     have q2:(64*k+c) %64=c:=by omega
     simp[has,q1,q2,List.getD,hx]
    obtain⟨b,hb,hb2,hbt⟩: ∃b:Nat,(if((k:Int)==((p/64:Nat):Int))=true then(nn ((p:Int).tmod 64) >>= fun _=>nn ((p:Int).tmod 64) >>= fun _=>some (shlI .u64 (shrI .u64 (a:Int) ((p:Int).tmod 64)) ((p:Int).tmod 64)))else some (a:Int))=some (b:Int)∧b<18446744073709551616∧
     ∀c,c<64→b.testBit c=(decide (p≤64*k+c)&&a.testBit c):=by
     by_cases hk0:k=p/64
     ·have q:((k:Int)==((p/64:Nat):Int))=true:=by simp[hk0]
      have hnn:nn ((p %64:Nat):Int)=some ():=by unfold nn;rw[if_pos (by omega)]
      have hle:a/2^(p %64)*2^(p %64)≤a:=Nat.div_mul_le_self _ _;refine⟨a/2^(p %64)*2^(p %64),?_,by omega,fun c hc=>?_⟩
      ·rw[if_pos q,e3.2,hnn,shr_u64 (by omega)];simp only[bind,Option.bind_some,shlI,IntKind.bits,Int.toNat_natCast,Nat.min_eq_left (show p %64≤64 by omega)];have e4:(((a/2^(p %64):Nat):Int)*2^(p %64))=((a/2^(p %64)*2^(p %64):Nat):Int):=by push_cast;rfl
       rw[e4,wrapN (by omega)]
      rw[Nat.testBit_mul_two_pow,Nat.testBit_div_two_pow];by_cases hc2:p %64≤c
      ·have q3:p %64+(c-p %64)=c:=by omega
       have q4:p≤64*k+c:=by omega
       rw[show c-p %64+p %64=c by omega];simp[hc2,q4]
      have q4: ¬p≤64*k+c:=by omega
      simp[hc2,q4]
     have q:((k:Int)==((p/64:Nat):Int))=false:=by simp;omega
     refine⟨a,by rw[q];rfl,ha',fun c hc=>?_⟩;have q4:p≤64*k+c:=by omega
     simp[q4]
    simp only[show((k:Int)<(m.length:Int)) by omega,decide_true,if_true,idx_of hx,Option.bind_some];simp only[bind]at hb;rw[hb];simp only[Option.bind_some];by_cases hb0:b=0
    ·left;subst hb0;refine⟨((k+1:Nat):Int),?_,⟨k+1,rfl,by omega,by omega,fun j' h3 h4=>?_⟩,by simp;omega⟩
     ·simp only[show((((0:Nat):Int)) != 0)=false from rfl,Bool.false_eq_true,if_false,Option.bind_some];rw[w64_succ (by omega)]
     by_cases hj:j'<64*k
     ·exact hk3 j' h3 hj
     obtain⟨c,rfl⟩: ∃c,j'=64*k+c:=⟨j'-64*k,by omega⟩;have:=hbt c (by omega);rw[Nat.zero_testBit]at this;rw[hhas c (by omega)];have q4:decide (p≤64*k+c)=true:=by simp;omega
     rw[q4]at this;simpa using this.symm
    right;obtain⟨c,hc1,hc2⟩:=low_bit hb0
    have hc:c<64:=by
     apply Nat.lt_of_not_le;intro h
     have:=Nat.testBit_lt_two_pow (x:=b) (i:=c) (Nat.lt_of_lt_of_le hb2 (by
      have:=Nat.pow_le_pow_right (n:=2) (by omega) h;have e:(2:Nat)^64=18446744073709551616:=by decide
      omega))
     rw[this]at hc1;cases hc1
    have hbc:=hbt c hc;rw[hc1]at hbc;have hbc':=(Bool.and_eq_true _ _).mp hbc.symm;have hpc:p≤64*k+c:=by simpa using hbc'.1
    refine⟨.inr (((64*k+c:Nat)):Int),?_,64*k+c,rfl,by omega,by rw[hhas c hc];exact hbc'.2,fun j' h3 h4=>?_⟩
    ·have q5:(((b:Nat):Int) != 0)=true:=by simp;omega
     have e5:w64 (64*(k:Int))=((64*k:Nat):Int):=by rw[w64,wrap64]<;>omega
     have e6:w64 (((64*k:Nat):Int)+(c:Int))=((64*k+c:Nat):Int):=by rw[w64,wrap64]<;>omega
     simp only[q5,if_true,tz_spec (N:=N) hb2 hc1 hc2 hc,Option.bind_some,e5,e6]
    by_cases hj:j'<64*k
    ·exact hk3 j' (by omega) hj
    obtain⟨c',rfl⟩: ∃c',j'=64*k+c':=⟨j'-64*k,by omega⟩;have:=hbt c' (by omega);rw[hc2 c' (by omega)]at this;rw[hhas c' (by omega)];have q4:decide (p≤64*k+c')=true:=by simp;omega
    rw[q4]at this;simpa using this.symm
   right;refine⟨.inl (),by simp[show¬((k:Int)<(m.length:Int)) by omega],fun j hj=>?_⟩;by_cases hj2:j<64*k
   ·exact hk3 j (by omega) hj2
   exact has_big (by omega))
  (N:=N) (s:=((p/64:Nat):Int)) ⟨p/64,rfl,by omega,by omega,fun j' h3 h4=>by omega⟩ (by simp;omega)
 rw[hr]
 cases r with
 |inl u=>exact⟨-1,rfl,.inl ⟨rfl,hq⟩⟩
 |inr z=>exact⟨z,rfl,.inr hq⟩
def lst(f:Nat→Bool)(n:Nat):List Int:=((List.range n).filter f).map fun(j:Nat)=>(j:Int)
theorem lst_succ(f:Nat→Bool)(n:Nat):lst f (n+1)=if f n then lst f n++ [(n:Int)]else lst f n:=by
 unfold lst;rw[List.range_succ,List.filter_append,List.map_append];cases hf:f n<;>simp[hf]
theorem lst_len(f:Nat→Bool)(n:Nat):(lst f n).length≤n:=by
 unfold lst;rw[List.length_map];have:=List.length_filter_le f (List.range n);simpa using this
theorem lst_gap{f:Nat→Bool}{a:Nat}(ha:f a=true): ∀{b:Nat},a<b→(∀c,a<c→c<b→f c=false)→lst f b=lst f a++ [(a:Int)]
 |0,h,_=>by omega
 |b+1,h,hg=>by
   rw[lst_succ];by_cases hb:b=a
   ·subst hb;simp[ha]
   rw[hg b (by omega) (by omega)];simp only[Bool.false_eq_true,if_false];exact lst_gap ha (by omega) fun c h1 h2=>hg c h1 (by omega)
theorem lst_none{f:Nat→Bool}: ∀{n:Nat},(∀c,c<n→f c=false)→lst f n= []
 |0,_=>rfl
 |n+1,h=>by rw[lst_succ,h n (by omega)];simpa using lst_none fun c hc=>h c (by omega)
theorem lst_first{f:Nat→Bool}{a:Nat}(h: ∀c,c<a→f c=false):lst f a= []:=lst_none h
theorem lst_congr{f g:Nat→Bool}: ∀{n:Nat},(∀c,c<n→f c=g c)→lst f n=lst g n
 |0,_=>rfl
 |n+1,h=>by rw[lst_succ,lst_succ,h n (by omega),lst_congr fun c hc=>h c (by omega)]
theorem list_spec{N n:Nat}{m:List Int}(hN:4294967296≤N)(hm:MkR n m)(hn:n≤65536)(h0:0<n)(hb: ∀j,n≤j→has m j=false):F_23 N m (n:Int)=some (lst (has m) n):=by
 unfold F_23;obtain⟨r0,e0,q0⟩:=after_spec (i:= -1) hN hm hn (by omega) (by omega);simp only[e0,bind,Option.bind_some]
 obtain⟨r,hr,hq⟩:=iterO_while (f:=fun s=>F_74 N m (n:Int) s.1 s.2) (fun s=>(s.2= -1∧s.1=lst (has m) n)∨ ∃j:Nat,s.2=(j:Int)∧j<n∧has m j=true∧s.1=lst (has m) j)
  (fun s=>if s.2<0 then 0 else n-s.2.toNat) (fun r=>r=lst (has m) n) (fun s hI=>by
   obtain⟨out,cur⟩:=s;simp only at hI ⊢;unfold F_74;rcases hI with⟨rfl,rfl⟩|⟨j,rfl,hj,hhj,rfl⟩
   ·right;exact⟨_,by simp,rfl⟩
   left;have hlen:=lst_len (has m) j;obtain⟨r,e1,q1⟩:=after_spec (i:=(j:Int)) hN hm hn (by omega) (by omega);refine⟨(lst (has m) j++ [(j:Int)],r),?_,?_,?_⟩
   ·simp only[show((j:Int)≥0) by omega,decide_true,if_true,bind];rw[app_eq (by simp;omega)];simp only[Option.bind_some,e1]
   ·rcases q1 with⟨rfl,h2⟩|⟨j',rfl,h2,h3,h4⟩
    ·exact .inl ⟨rfl,(lst_gap hhj hj fun c h5 h6=>h2 c (by omega)).symm⟩
    have hjn:j'<n:=by
     apply Nat.lt_of_not_le;intro h;rw[hb j' h]at h3;cases h3
    exact .inr ⟨j',rfl,hjn,h3,(lst_gap hhj (by omega) fun c h5 h6=>h4 c (by omega) h6).symm⟩
   rcases q1 with⟨rfl,h2⟩|⟨j',rfl,h2,h3,h4⟩
   ·simp only[show((-1:Int)<0) by decide,if_true,show¬((j:Int)<0) by omega,if_false];omega
   simp only[show¬((j:Int)<0) by omega,show¬((j':Int)<0) by omega,if_false];omega)
  (N:=N) (s:=([],r0)) (by
   rcases q0 with⟨rfl,h2⟩|⟨j',rfl,h2,h3,h4⟩
   ·exact .inl ⟨rfl,(lst_none fun c hc=>h2 c (by omega)).symm⟩
   have hjn:j'<n:=by
    apply Nat.lt_of_not_le;intro h;rw[hb j' h]at h3;cases h3
   exact .inr ⟨j',rfl,hjn,h3,(lst_first fun c hc=>h4 c (by omega) hc).symm⟩) (by simp only;split<;>omega)
 rw[show iterO N (fun s=>F_74 N m (n:Int) s.1 s.2) ([],r0)=_ from hr,hq];rfl
open Go Go.Eng
structure Mk(n:Nat)(m acc:List Int):Prop where
 rel:Rel n m acc
 hb: ∀j,n≤j→has m j=false
 ac:Acc n acc
 c:cnt m=acc.length
theorem Mk.has{n:Nat}{m acc:List Int}(h:Mk n m acc){j:Nat}(hj:j<n):has m j=decide ((j:Int)∈acc):=by
 have:=h.rel.at_ j hj;by_cases hm:(j:Int)∈acc
 ·rw[this.2 hm];simp[hm]
 cases hh:Go.Proofs.YtchjfkdljnmmgaaGreatDoor.has m j with
 |false=>simp[hm]
 |true=>exact absurd (this.1 hh) hm
theorem put_mk{N n:Nat}{m acc:List Int}{x:Int}(h:Mk n m acc)(h0:0≤x∧x<n)(hn:n≤65536): ∃m',F_18 N m (n:Int) x=some (m',decide (x∉acc))∧Mk n m' (ins acc x):=by
 obtain⟨m',h1,h2,h3⟩:=put_cnt (N:=N) h.rel h0 hn h.c;refine⟨m',h1,h2,fun j hj=>?_,h.ac.ins h0,h3⟩;obtain⟨i,rfl⟩: ∃i:Nat,x=(i:Int):=⟨x.toNat,by omega⟩;obtain⟨m'',e1,_,e2,_⟩:=put_spec (N:=N) h.rel.mkr (show i<n by omega) hn;rw[h1]at e1;have e3:=(Prod.mk.inj (Option.some.inj e1)).1;subst e3;rw[e2 j,h.hb j hj];have: ¬j=i:=by omega
 simp[this]
theorem new_mk{N n:Nat}(hn:n≤65536): ∃m,F_75 N (n:Int)=some (.inr m)∧Mk n m []:=by
 obtain⟨m,h1,h2,h3⟩:=new_spec (N:=N) hn;refine⟨m,h1,⟨h2,fun j _=>by simp[h3]⟩,fun j _=>h3 j,acc_nil n,?_⟩
 have: ∀w∈m,pop w.toNat=0:=by
  intro w hw;obtain⟨i,hi⟩:=List.mem_iff_getElem?.1 hw;have hwr:=h2.rng w hw
  have hz: ∀c,c<64→w.toNat.testBit c=false:=fun c hc=>by
   have:=h3 (64*i+c);unfold has at this;rw[show(64*i+c)/64=i by omega,show(64*i+c) %64=c by omega,List.getD,hi]at this;exact this
  unfold pop;rw[List.countP_eq_zero];intro c hc;have:=hz c (by simpa using hc);simp[this]
 unfold cnt;clear h1 h2 h3
 induction m with
 |nil=>rfl
 |cons w m ih=>
   have h1:=this w (by simp);have h2:=ih (fun x hx=>this x (by simp[hx]));simp only[List.map_cons,List.sum_cons,h1,h2,List.length_nil]at h2 ⊢
section
variable {N:Nat}{rows:List (List Int)}{rule entry:List Int}
theorem marked_spec{list:List Int}(hN:4294967296≤N)(hn:rows.length≤65536)(hl:list.length<4294967296)(hx: ∀x∈list,0≤x∧x<(rows.length:Int)):
 ∃m,F_25 N rows rule entry list=some (.inr m)∧Mk rows.length m (insAll [] list):=by
 obtain⟨m0,e0,q0⟩:=new_mk (N:=N) hn;unfold F_25;simp only[e0,bind,Option.bind_some]
 obtain⟨m,h1,h2⟩:=loop_inv (f:=fun s=>F_72 N rows list s.1 s.2) (fun i (s:List Int)=>((i:Int),s)) id list (fun i m=>Mk rows.length m (insAll [] (list.take i))) (N:=N) (s:=m0) (by omega) (by simpa[insAll]using q0)
  (fun i x m hxi hI=>by
   have hi:=lt_len hxi;obtain⟨m',e1,q1⟩:=put_mk (N:=N) hI (hx x (List.mem_of_getElem? hxi)) hn;refine⟨m',?_,by rw[insAll_take hxi];exact q1⟩;unfold F_72;simp only[show((i:Int)<(list.length:Int)) by omega,decide_true,if_true,idx_of hxi,e1,bind,Option.bind_some];rw[w64_succ (by omega)])
  (fun s _=>by unfold F_72;simp)
 rw[List.take_length]at h2;refine⟨m,?_,h2⟩;rw[show iterO N (fun s=>F_72 N rows list s.1 s.2) (0,m0)=_ from h1];rfl
inductive Rch(rows:List (List Int))(entry:List Int):Int→Prop
 |zero:Rch rows entry 0
 |ent {x:Int}:x∈entry→Rch rows entry x
 |step {s y:Int}:Rch rows entry s→y∈rows.getD s.toNat []→Rch rows entry y
theorem Rch.rng(h:Rt rows rule entry){s:Int}(hr:Rch rows entry s):0≤s∧s<rows.length:=by
 induction hr with
 |zero=>have:=h.n1;omega
 |ent hx=>exact h.ent _ hx
 |step _ hy ih=>
   obtain⟨r,_,h2,h3,h4⟩:=row_of h ih;rw[h2]at hy;exact h4 _ hy
theorem row0(h:Rt rows rule entry){y:Int}(hy:y∈rows.getD (0:Int).toNat []):y=0:=by
 have:rows.getD (0:Int).toNat []=List.replicate 256 0:=by show rows.getD 0 []=_;rw[List.getD,h.r0];rfl
 rw[this]at hy;exact List.eq_of_mem_replicate hy
theorem meas{n a w:Nat}(h:a+1≤n):(n-(a+1))*257+(w+256)<(n-a)*257+(w+1):=by omega
theorem reached_spec(hN:4294967296≤N)(hs:Sz rows rule entry)(h:Rt rows rule entry):
 ∃m acc,F_17 N rows rule entry=some (.inr m)∧Mk rows.length m acc∧ ∀s,s∈acc↔Rch rows entry s:=by
 have hn2:=h.n2;have hn1:=h.n1;have he2:=h.e2;obtain⟨m0,e0,q0⟩:=marked_spec (rule:=rule) (entry:=entry) (list:=[0]) hN (show rows.length≤65536 by omega) (by simp) (fun x hx=>by simp at hx;subst hx;omega);have i0:insAll [] [(0:Int)]= [0]:=rfl;rw[i0]at q0;unfold F_17 F_91;simp only[e0,bind,Option.bind_some];rw[app_eq (by simp;omega)];simp only[Option.bind_some,List.nil_append]
 obtain⟨r,hr,acc,hq1,hq2⟩:=iterO_while (f:=fun s=>F_47 N rows s.1 s.2)
  (fun s=> ∃acc,Mk rows.length s.1 acc∧(0:Int)∈acc∧(∀x∈acc,Rch rows entry x)∧(∀x∈s.2,Rch rows entry x)∧(∀x∈entry,x∈acc∨x∈s.2)∧(∀x∈acc,∀y∈rows.getD x.toNat [],y∈acc∨y∈s.2)∧(rows.length-cnt s.1)*257+s.2.length≤rows.length*257+entry.length)
  (fun s=>(rows.length-cnt s.1)*257+s.2.length) (fun r=> ∃acc,Mk rows.length r acc∧ ∀s,s∈acc↔Rch rows entry s) (fun s hI=>by
   obtain⟨m,work⟩:=s;obtain⟨acc,k1,k2,k3,k4,k5,k6,k7⟩:=hI;simp only at k1 k4 k5 k6 k7 ⊢
   cases work with
   |nil=>
     right;refine⟨m,by unfold F_47;simp,acc,k1,fun s=>⟨k3 s,fun hr=>?_⟩⟩
     induction hr with
     |zero=>exact k2
     |ent hx=>exact(k5 _ hx).elim id fun h=>by simp at h
     |step _ hy ih=>exact(k6 _ ih _ hy).elim id fun h=>by simp at h
   |cons x work=>
     left;have hxr:=(k4 x (by simp)).rng h;obtain⟨m',e1,q1⟩:=put_mk (N:=N) k1 hxr (by omega);obtain⟨row,r1,r2,r3,r4⟩:=row_of h hxr;have hw:=hs.w row r3;have hlen:=k1.ac.len;have hc:=k1.c;have hc':=q1.c;have hlen':=q1.ac.len
     have hsl:slc (x::work) 1 ((x::work).length:Int)=some work:=by
      unfold slc;rw[if_pos (by simp;omega)];simp
     have hix:idx (x::work) 0=some x:=by simp[idx]
     by_cases hm:x∈acc
     ·refine⟨(m',work),?_,⟨acc,?_,k2,k3,fun y hy=>k4 y (by simp[hy]),fun y hy=>?_,fun y hy z hz=>?_,?_⟩,?_⟩
      ·unfold F_47;have hpos:decide (((x::work).length:Int)>0)=true:=decide_eq_true (by simp only[List.length_cons];omega);have hf:decide (x∉acc)=false:=by simp[hm]
       simp only[hpos,if_true,hix,hsl,e1,hf,bind,Option.bind_some,Bool.false_eq_true,if_false]
      ·have:ins acc x=acc:=by simp[ins,hm]
       rwa[this]at q1
      ·rcases k5 y hy with h1|h1
       ·exact .inl h1
       rcases List.mem_cons.1 h1 with rfl|h1
       ·exact .inl hm
       exact .inr h1
      ·rcases k6 y hy z hz with h1|h1
       ·exact .inl h1
       rcases List.mem_cons.1 h1 with rfl|h1
       ·exact .inl hm
       exact .inr h1
      ·have:ins acc x=acc:=by simp[ins,hm]
       rw[this]at hc';simp only[hc',List.length_cons,hc]at k7 ⊢;omega
      have:ins acc x=acc:=by simp[ins,hm]
      rw[this]at hc';simp only[hc',List.length_cons,hc];omega
     have hi:ins acc x=acc++ [x]:=by simp[ins,hm]
     have hl1:(ins acc x).length=acc.length+1:=by rw[hi];simp
     refine⟨(m',work++row),?_,⟨ins acc x,q1,by rw[hi];simp[k2],fun y hy=>?_,fun y hy=>?_,fun y hy=>?_,fun y hy z hz=>?_,?_⟩,?_⟩
     ·unfold F_47
      have hbnd:work.length+row.length≤4294967296:=by
       simp only[List.length_cons]at k7;omega
      have hpos:decide (((x::work).length:Int)>0)=true:=decide_eq_true (by simp only[List.length_cons];omega);simp only[hpos,if_true,hix,hsl,e1,decide_eq_true hm,r1,app_eq hbnd,bind,Option.bind_some]
     ·rcases mem_ins.1 hy with h1|rfl
      ·exact k3 y h1
      exact k4 y (by simp)
     ·rcases List.mem_append.1 hy with h1|h1
      ·exact k4 y (by simp[h1])
      exact(k4 x (by simp)).step (by rw[r2];exact h1)
     ·rcases k5 y hy with h1|h1
      ·exact .inl (mem_ins.2 (.inl h1))
      rcases List.mem_cons.1 h1 with rfl|h1
      ·exact .inl (mem_ins.2 (.inr rfl))
      exact .inr (by simp[h1])
     ·rcases mem_ins.1 hy with h2|rfl
      ·rcases k6 y h2 z hz with h1|h1
       ·exact .inl (mem_ins.2 (.inl h1))
       rcases List.mem_cons.1 h1 with rfl|h1
       ·exact .inl (mem_ins.2 (.inr rfl))
       exact .inr (by simp[h1])
      rw[r2]at hz;exact .inr (by simp[hz])
     ·simp only[hc',hl1,List.length_append,List.length_cons,hc,hw]at k7 hlen' ⊢;exact Nat.le_trans (Nat.le_of_lt (meas hlen')) k7
     simp only[hc',hl1,List.length_append,List.length_cons,hc,hw]at k7 hlen' ⊢;exact meas hlen')
  (N:=N) (s:=(m0,entry)) ⟨[0],q0,by simp,fun x hx=>by simp at hx;subst hx;exact .zero,fun x hx=> .ent hx,fun x hx=> .inr hx,fun x hx y hy=>by
   simp at hx;subst hx;exact .inl (by rw[row0 h hy];simp),by have:=q0.c;simp only[this,List.length_cons,List.length_nil];omega⟩ (by have:=q0.c;simp only[this,List.length_cons,List.length_nil];omega)
 refine⟨r,acc,?_,hq1,hq2⟩;rw[show iterO N (fun s=>F_47 N rows s.1 s.2) (m0,entry)=_ from hr];rfl
def bt(l:List Bool)(j:Nat):Bool:=l.getD j false
end
open Go Go.Eng
section
variable {N:Nat}{rows:List (List Int)}{rule entry:List Int}
def Mono(a b:List Bool):Prop:= ∀j,bt a j=true→bt b j=true
theorem Mono.refl(a:List Bool):Mono a a:=fun _ h=>h
theorem Mono.trans{a b c:List Bool}(h:Mono a b)(h':Mono b c):Mono a c:=fun j hj=>h' j (h j hj)
theorem row_nat(h:Rt rows rule entry){i:Nat}(hi:i<rows.length): ∃r,idx rows (i:Int)=some r∧rows.getD i []=r∧r∈rows∧ ∀y∈r,0≤y∧y<rows.length:=by
 obtain⟨r,h1,h2,h3,h4⟩:=row_of h (x:=(i:Int)) (by omega);exact⟨r,h1,by simpa using h2,h3,h4⟩
end
open Go Go.Eng
section
variable {N:Nat}{rows:List (List Int)}{rule entry:List Int}
inductive Lv(rows:List (List Int))(rule:List Int):Int→Prop
 |here {s:Int}:0≤s→s<rows.length→rule.getD s.toNat 0≠ -1→Lv rows rule s
 |step {s y:Int}:0≤s→s<rows.length→y∈rows.getD s.toNat []→Lv rows rule y→Lv rows rule s
theorem Lv.rng{s:Int}(h:Lv rows rule s):0≤s∧s<rows.length:=by cases h<;>exact⟨by assumption,by assumption⟩
theorem contains3{m row:List Int}{n:Nat}(hN:4294967296≤N)(hm:MkR n m)(hn:n≤65536)(hl:row.length<4294967296)(hr: ∀y∈row,0≤y∧y<(n:Int)):
 F_83 N row m (n:Int)=some (row.any fun y=>has m y.toNat):=by
 unfold F_83 F_32
 rw[loop_find row (fun y=>has m y.toNat) (fun i=>(i:Int)) (by omega) (fun i x hx=>by
  have hi:=lt_len hx;have hxr:=hr x (List.mem_of_getElem? hx);obtain⟨v,rfl⟩: ∃v:Nat,x=(v:Int):=⟨x.toNat,by omega⟩;unfold F_88 F_114;simp only[show((i:Int)<(row.length:Int)) by omega,decide_true,if_true,idx_of hx,has_spec (N:=N) hm (show v<n by omega) hn,bind,Option.bind_some,Int.toNat_natCast];rw[w64_succ (by omega)]) (by unfold F_88;simp)]
 cases h:row.findIdx? _ with
 |none=>
   have:row.any (fun y=>has m y.toNat)=false:=List.any_eq_false.2 fun x hx=>by rw[List.findIdx?_eq_none_iff.1 h x hx];simp
   simp[this]
 |some k=>
   obtain⟨hk,hp,_⟩:=List.findIdx?_eq_some_iff_getElem.1 h;have:row.any (fun y=>has m y.toNat)=true:=List.any_eq_true.2 ⟨_,List.getElem_mem hk,hp⟩;rw[this];simp
theorem live_pass{m acc:List Int}(hN:4294967296≤N)(hs:Sz rows rule entry)(h:Rt rows rule entry)(hM:Mk rows.length m acc)(hsd: ∀x∈acc,Lv rows rule x):
 ∃m' more acc',iterO N (fun s=>F_46 N rows s.1 s.2.1 s.2.2) (m,0,false)=some (m',more)∧Mk rows.length m' acc'∧(∀x∈acc',Lv rows rule x)∧(∀x∈acc,x∈acc')∧
   (more=false→m'=m∧acc'=acc∧ ∀i,i<rows.length→(∃y∈rows.getD i [],y∈acc)→(i:Int)∈acc)∧(more=true→acc.length<acc'.length):=by
 have hn2:=h.n2
 obtain⟨s,h1,acc',g1,g2,g3,g4,g5⟩:=loop_inv (f:=fun s=>F_46 N rows s.1 s.2.1 s.2.2) (fun i (s:List Int×Bool)=>(s.1,(i:Int),s.2)) id rows
  (fun i s=> ∃acc',Mk rows.length s.1 acc'∧(∀x∈acc',Lv rows rule x)∧(∀x∈acc,x∈acc')∧(s.2=false→s.1=m∧acc'=acc∧ ∀i',i'<i→(∃y∈rows.getD i' [],y∈acc)→(i':Int)∈acc)∧(s.2=true→acc.length<acc'.length)) (N:=N) (s:=(m,false)) (by omega)
  ⟨acc,hM,hsd,fun _ h=>h,fun _=>⟨rfl,rfl,fun i' hi'=>absurd hi' (by omega)⟩,fun h=>by cases h⟩
  (fun i r s hr hI=>by
   obtain⟨m1,more⟩:=s;obtain⟨acc1,k1,k2,k3,k4,k5⟩:=hI;simp only at k1 k4 k5 ⊢;have hi:=lt_len hr;obtain⟨row,r1,r2,r3,r4⟩:=row_nat h hi
   have hrr:r=row:=by
    have:=idx_of hr;rw[r1]at this;exact(Option.some.inj this).symm
   subst hrr;have hw:=hs.w r r3;have hlen:=k1.ac.len
   have hbody: ∀(res:List Int×Bool),((F_41 N m1 (rows.length:Int) (i:Int) >>= fun x=>if(!x)=true then F_83 N r m1 (rows.length:Int) >>= fun x=>some x else some false) >>= fun x=>if x=true then F_18 N m1 (rows.length:Int) (i:Int) >>= fun x=>some (x.1,x.2)else some (m1,more))=some res→
    F_46 N rows m1 (i:Int) more=some (.inl (res.1,((i+1:Nat):Int),res.2)):=by
    intro res hres;obtain⟨x,hA,hB⟩:=bnd hres;unfold F_46;simp only[bind]at hA hB ⊢;simp only[show((i:Int)<(rows.length:Int)) by omega,decide_true,if_true,idx_of hr,Option.bind_some,hA];rw[w64_succ (by omega)]
    cases x with
    |true=>
      simp only[if_true]at hB ⊢;obtain⟨p,hp,hp2⟩:=Option.bind_eq_some_iff.1 hB;obtain⟨a,b⟩:=p;rw[hp];obtain rfl:=Option.some.inj hp2;rfl
    |false=>
      simp only[Bool.false_eq_true,if_false]at hB ⊢;obtain rfl:=Option.some.inj hB;rfl
   by_cases hmem:(i:Int)∈acc1
   ·refine⟨(m1,more),hbody _ ?_,acc1,k1,k2,k3,fun hf=>⟨(k4 hf).1,(k4 hf).2.1,fun i' hi' hy=>?_⟩,k5⟩
    ·rw[has_spec k1.rel.mkr hi (by omega),k1.has hi];simp[hmem]
    by_cases hii:i'=i
    ·subst hii;rw[←(k4 hf).2.1];exact hmem
    exact(k4 hf).2.2 i' (by omega) hy
   have hany:r.any (fun y=>has m1 y.toNat)=true↔ ∃y∈r,y∈acc1:=by
    rw[List.any_eq_true];constructor
    ·rintro⟨y,hy,hb⟩;have hyr:=r4 y hy;rw[k1.has (show y.toNat<rows.length by omega),show((y.toNat:Nat):Int)=y by omega]at hb;exact⟨y,hy,by simpa using hb⟩
    rintro⟨y,hy,hb⟩;have hyr:=r4 y hy;refine⟨y,hy,?_⟩;rw[k1.has (show y.toNat<rows.length by omega),show((y.toNat:Nat):Int)=y by omega];simpa using hb
   by_cases ha:r.any (fun y=>has m1 y.toNat)=true
   ·obtain⟨y,hy,hya⟩:=hany.1 ha;obtain⟨m2,e1,q1⟩:=put_mk (N:=N) k1 (x:=(i:Int)) (by omega) (by omega);have hins:ins acc1 (i:Int)=acc1++ [(i:Int)]:=by simp[ins,hmem]
    rw[hins]at q1;refine⟨(m2,true),hbody _ ?_,acc1++ [(i:Int)],q1,fun x hx=>?_,fun x hx=>by simp[k3 x hx],fun hf=>(by cases hf),fun _=>?_⟩
    ·rw[has_spec k1.rel.mkr hi (by omega),k1.has hi,contains3 hN k1.rel.mkr (by omega) (by omega) r4,ha,e1];simp[hmem]
    ·rcases List.mem_append.1 hx with hx|hx
     ·exact k2 x hx
     have:x=(i:Int):=by simpa using hx
     subst this;exact .step (by omega) (by omega) (by rw[Int.toNat_natCast,r2];exact hy) (k2 y hya)
    have:acc.length≤acc1.length:=nodup_len hM.ac.nd k3;simp;omega
   have ha':r.any (fun y=>has m1 y.toNat)=false:=by simpa using ha
   refine⟨(m1,more),hbody _ ?_,acc1,k1,k2,k3,fun hf=>⟨(k4 hf).1,(k4 hf).2.1,fun i' hi' hy=>?_⟩,k5⟩
   ·rw[has_spec k1.rel.mkr hi (by omega),k1.has hi,contains3 hN k1.rel.mkr (by omega) (by omega) r4,ha'];simp[hmem]
   by_cases hii:i'=i
   ·subst hii;rw[r2]at hy;rw[←(k4 hf).2.1]at hy;exact absurd (hany.2 hy) ha
   exact(k4 hf).2.2 i' (by omega) hy)
  (fun s _=>by unfold F_46;simp)
 exact⟨s.1,s.2,acc',h1,g1,g2,g3,g4,g5⟩
theorem live_spec(hN:4294967296≤N)(hs:Sz rows rule entry)(h:Rt rows rule entry):
 ∃m acc,F_1 N rows rule entry=some (.inr m)∧Mk rows.length m acc∧ ∀s,s∈acc↔Lv rows rule s:=by
 have hn2:=h.n2;have hru:=h.ru;obtain⟨m0,e0,q0⟩:=marked_spec (rule:=rule) (entry:=entry) (list:=[]) hN (show rows.length≤65536 by omega) (by simp) (fun x hx=>by simp at hx);have i0:insAll [] ([]:List Int)= []:=rfl;rw[i0]at q0;unfold F_1;simp only[e0,bind,Option.bind_some]
 obtain⟨m1,h1,acc1,g1,g2,g3⟩:=loop_inv (f:=fun s=>F_45 N rows rule s.1 s.2) (fun i (s:List Int)=>((i:Int),s)) id rule
  (fun i s=> ∃acc,Mk rows.length s acc∧(∀x∈acc,Lv rows rule x)∧ ∀i',i'<i→rule.getD i' 0≠ -1→(i':Int)∈acc) (N:=N) (s:=m0) (by omega) ⟨[],q0,by simp,fun i' hi'=>absurd hi' (by omega)⟩
  (fun i u s hu hI=>by
   obtain⟨acc,k1,k2,k3⟩:=hI;have hi:=lt_len hu;have hg:rule.getD i 0=u:=getD_of hu;by_cases hne:u= -1
   ·refine⟨s,?_,acc,k1,k2,fun i' hi' hy=>?_⟩
    ·unfold F_45;subst hne;simp only[show((i:Int)<(rule.length:Int)) by omega,decide_true,if_true,idx_of hu,bind,Option.bind_some,show((-1:Int) != -1)=false from rfl,Bool.false_eq_true,if_false];rw[w64_succ (by omega)]
    by_cases hii:i'=i
    ·subst hii;exact absurd (hg.trans hne) hy
    exact k3 i' (by omega) hy
   obtain⟨m',e1,q1⟩:=put_mk (N:=N) k1 (x:=(i:Int)) (by omega) (by omega);refine⟨m',?_,ins acc (i:Int),q1,fun x hx=>?_,fun i' hi' hy=>?_⟩
   ·unfold F_45;have hb:(u != -1)=true:=by simp[hne]
    simp only[show((i:Int)<(rule.length:Int)) by omega,decide_true,if_true,idx_of hu,bind,Option.bind_some,hb,e1];rw[w64_succ (by omega)]
   ·rcases mem_ins.1 hx with hx|rfl
    ·exact k2 x hx
    exact .here (by omega) (by omega) (by rw[Int.toNat_natCast,hg];exact hne)
   by_cases hii:i'=i
   ·subst hii;exact mem_ins.2 (.inr rfl)
   exact mem_ins.2 (.inl (k3 i' (by omega) hy)))
  (fun s _=>by unfold F_45;simp)
 rw[show iterO N (fun s=>F_45 N rows rule s.1 s.2) (0,m0)=_ from h1];simp only[Option.bind_some,id]
 obtain⟨r,hr,acc,hq1,hq2⟩:=iterO_while (f:=fun s=>F_71 N rows s.1 s.2)
  (fun s=> ∃acc,Mk rows.length s.1 acc∧(∀x∈acc,Lv rows rule x)∧(∀i',i'<rule.length→rule.getD i' 0≠ -1→(i':Int)∈acc)∧(s.2=false→ ∀i,i<rows.length→(∃y∈rows.getD i [],y∈acc)→(i:Int)∈acc))
  (fun s=>if s.2=true then 1+(rows.length-cnt s.1)else 0) (fun r=> ∃acc,Mk rows.length r acc∧ ∀s,s∈acc↔Lv rows rule s) (fun s hI=>by
   obtain⟨m,more⟩:=s;obtain⟨acc,k1,k2,k3,k4⟩:=hI;simp only at k1 k4 ⊢
   cases more with
   |false=>
     right;refine⟨m,by unfold F_71;simp,acc,k1,fun s=>⟨k2 s,fun hl=>?_⟩⟩
     induction hl with
     |here a0 a1 a2=>
       have:=k3 _ (by omega) a2;rwa[show(((_:Int).toNat:Nat):Int)=_ from Int.toNat_of_nonneg a0]at this
     |step a0 a1 a2 _ ih=>
       have:=k4 rfl _ (by omega) ⟨_,a2,ih⟩;rwa[show(((_:Int).toNat:Nat):Int)=_ from Int.toNat_of_nonneg a0]at this
   |true=>
     left;obtain⟨m',more',acc',e1,q1,q2,q3,q4,q5⟩:=live_pass (N:=N) hN hs h k1 k2;refine⟨(m',more'),?_,⟨acc',q1,q2,fun i' hi' hy=>q3 _ (k3 i' hi' hy),fun hf=>?_⟩,?_⟩
     ·unfold F_71;simp only[if_true,bind];rw[e1];rfl
     ·obtain⟨_,rfl,hcl⟩:=q4 hf;exact hcl
     have hl:=q1.ac.len;have hc:=q1.c;have hc0:=k1.c
     cases more' with
     |false=>simp only[Bool.false_eq_true,if_false,if_true];omega
     |true=>
       have:=q5 rfl;simp only[if_true];omega)
  (N:=N) (s:=(m1,true)) ⟨acc1,g1,g2,g3,fun h=>by cases h⟩ (by simp only[if_true];omega)
 refine⟨r,acc,?_,hq1,hq2⟩;rw[show iterO N (fun s=>F_71 N rows s.1 s.2) (m1,true)=_ from hr];rfl
end
open Go Go.Eng
noncomputable def rch(rows:List (List Int))(entry:List Int)(j:Nat):Bool:= @decide (Rch rows entry (j:Int)) (Classical.propDecidable _)
noncomputable def lv(rows:List (List Int))(rule:List Int)(j:Nat):Bool:= @decide (Lv rows rule (j:Int)) (Classical.propDecidable _)
theorem rch_iff{rows:List (List Int)}{entry:List Int}{j:Nat}:rch rows entry j=true↔Rch rows entry (j:Int):=by
 unfold rch;exact @decide_eq_true_iff _ (Classical.propDecidable _)
theorem lv_iff{rows:List (List Int)}{rule:List Int}{j:Nat}:lv rows rule j=true↔Lv rows rule (j:Int):=by
 unfold lv;exact @decide_eq_true_iff _ (Classical.propDecidable _)
noncomputable def kpf(rows:List (List Int))(rule entry:List Int)(j:Nat):Bool:=j==0||(rch rows entry j&&lv rows rule j)
noncomputable def kp(rows:List (List Int))(rule entry:List Int):List Int:=lst (kpf rows rule entry) rows.length
theorem mem_lst{f:Nat→Bool}{n:Nat}{x:Int}:x∈lst f n↔(0≤x∧x<n)∧f x.toNat=true:=by
 unfold lst;constructor
 ·intro h;obtain⟨j,hj,rfl⟩:=List.mem_map.1 h;obtain⟨h1,h2⟩:=List.mem_filter.1 hj;have:=List.mem_range.1 h1;exact⟨by omega,by simpa using h2⟩
 rintro⟨h1,h2⟩;refine List.mem_map.2 ⟨x.toNat,List.mem_filter.2 ⟨List.mem_range.2 (by omega),h2⟩,by omega⟩
theorem lst_acc(f:Nat→Bool)(n:Nat):Acc n (lst f n):=by
 refine⟨?_,fun x hx=>(mem_lst.1 hx).1⟩;unfold lst;have h1:((List.range n).filter f).Nodup:=List.nodup_range.filter _;unfold List.Nodup at*;rw[List.pairwise_map];exact h1.imp fun hab=>by omega
theorem lst_zero{f:Nat→Bool}{n:Nat}(h:f 0=true)(hn:1≤n):(lst f n)[0]? =some 0:=by
 obtain⟨m,rfl⟩: ∃m,n=m+1:=⟨n-1,by omega⟩;unfold lst;rw[List.range_succ_eq_map,List.filter_cons,if_pos h];rfl
theorem lst_cons{f g:Nat→Bool}{n:Nat}(h:f 0=true)(h0:g 0=false)(he: ∀j,0<j→f j=g j)(hn:1≤n):lst f n=0::lst g n:=by
 obtain⟨m,rfl⟩: ∃m,n=m+1:=⟨n-1,by omega⟩;unfold lst;rw[List.range_succ_eq_map,List.filter_cons,if_pos h,List.filter_cons,if_neg (by simp[h0])]
 have: ∀l:List Nat,(l.map Nat.succ).filter f=(l.map Nat.succ).filter g:=fun l=>List.filter_congr fun j hj=>by
  obtain⟨k,_,rfl⟩:=List.mem_map.1 hj;exact he _ (by omega)
 rw[this];rfl
theorem lst_filter(f:Nat→Bool)(p:Int→Bool)(n:Nat):(lst f n).filter p=lst (fun j=>f j&&p (j:Int)) n:=by
 unfold lst;rw[List.filter_map,List.filter_filter]
 congr 1
 exact List.filter_congr fun j _=>by simp[Bool.and_comm]
section
variable {N:Nat}{rows:List (List Int)}{rule entry:List Int}
theorem mark_list{n:Nat}{m acc:List Int}{P:Int→Prop}{f:Nat→Bool}(hN:4294967296≤N)(hM:Mk n m acc)(hn:n≤65536)(h0:0<n)(hP: ∀s,s∈acc↔P s)(hf: ∀j,f j=true↔P (j:Int)):
 F_23 N m (n:Int)=some (lst f n):=by
 rw[list_spec hN hM.rel.mkr hn h0 hM.hb]
 congr 1
 refine lst_congr fun j hj=>?_;rw[hM.has hj,Bool.eq_iff_iff,decide_eq_true_iff,hP,hf]
theorem right_yes(hN:4294967296≤N)(hs:Sz rows rule entry)(h:Rt rows rule entry):F_6 N rows rule entry=some true:=by
 obtain⟨b,hb,hbt⟩:=right_spec hN hs;rwa[hbt.2 h]at hb
theorem kept_spec(hN:4294967296≤N)(hs:Sz rows rule entry)(h:Rt rows rule entry):F_10 N rows rule entry=some (kp rows rule entry):=by
 obtain⟨m,acc,h1,h2,h3⟩:=reached_spec hN hs h;obtain⟨m',acc',h1',h2',h3'⟩:=live_spec hN hs h;have hn2:=h.n2;have hn1:=h.n1;have h4:=mark_list (N:=N) (f:=lv rows rule) hN h2' (by omega) (by omega) h3' (fun j=>lv_iff);have hll:=lst_len (lv rows rule) rows.length;unfold F_10;simp only[h1,h1',h4,bind,Option.bind_some]
 have key:=loop_fold (f:=fun s=>F_69 N rows m (lst (lv rows rule) rows.length) s.1 s.2) (fun i (s:List Int)=>((i:Int),s)) id (lst (lv rows rule) rows.length)
  (fun s x=>if rch rows entry x.toNat&&decide (x>0)then s++ [x]else s) (fun i s=>s.length≤i+1) (N:=N) (s:=[0]) (by omega) (by simp)
  (fun i x s hx hI=>by
   have hm:=List.mem_of_getElem? hx;obtain⟨hr,_⟩:=mem_lst.1 hm;have hi:=(List.getElem?_eq_some_iff.1 hx).1;have hh:=has_spec (N:=N) h2.rel.mkr (show x.toNat<rows.length by omega) (by omega)
   have hc:has m x.toNat=rch rows entry x.toNat:=by
    rw[h2.has (show x.toNat<rows.length by omega),Bool.eq_iff_iff,decide_eq_true_iff,h3,rch_iff]
   rw[show((x.toNat:Nat):Int)=x by omega,hc]at hh;refine⟨?_,?_⟩
   ·unfold F_69;simp only[show((i:Int)<((lst (lv rows rule) rows.length).length:Int)) by omega,decide_true,if_true,idx_of hx,bind,Option.bind_some,hh];rw[w64_succ (by omega)]
    cases rch rows entry x.toNat with
    |false=>simp
    |true=>
      by_cases h0:x>0
      ·simp only[h0,decide_true,if_true,Option.bind_some,Bool.and_self];rw[app_eq (by simp;omega)];rfl
      simp only[h0,decide_false,if_true,Option.bind_some,Bool.and_false,Bool.false_eq_true,if_false]
   show(if _ then _ else _:List Int).length≤_;split
   ·simp only[List.length_append,List.length_cons,List.length_nil];omega
   omega)
  (fun s _=>by unfold F_69;simp)
 rw[show iterO N (fun s=>F_69 N rows m (lst (lv rows rule) rows.length) s.1 s.2) (0,[0])=_ from key];rw[Option.bind_some,id_eq]
 have fl: ∀(l s:List Int),l.foldl (fun s x=>if rch rows entry x.toNat&&decide (x>0)then s++ [x]else s) s=s++l.filter (fun x=>rch rows entry x.toNat&&decide (x>0)):=by
  intro l
  induction l with
  |nil=>intro s;simp
  |cons x l ih=>
    intro s;rw[List.foldl_cons,ih,List.filter_cons];split<;>simp
 rw[fl,lst_filter];unfold kp
 rw[lst_cons (f:=kpf rows rule entry) (g:=fun j=>lv rows rule j&&(rch rows entry (j:Int).toNat&&decide ((j:Int)>0))) (by simp[kpf]) (by simp) (fun j hj=>by
  have hj':decide ((j:Int)>0)=true:=decide_eq_true (by omega);have h0:(j==0)=false:=by simp;omega
  rw[kpf,hj',h0,Int.toNat_natCast,Bool.false_or,Bool.and_true,Bool.and_comm]) hn1]
 rfl
theorem kp_acc:Acc rows.length (kp rows rule entry):=lst_acc _ _
theorem kp_zero(h:Rt rows rule entry):(kp rows rule entry)[0]? =some 0:=lst_zero (by simp[kpf]) h.n1
theorem mem_kp(h:Rt rows rule entry){x:Int}:x∈kp rows rule entry↔x=0∨(Rch rows entry x∧Lv rows rule x):=by
 unfold kp;rw[mem_lst];have hn1:=h.n1;constructor
 ·rintro⟨h1,h2⟩;simp only[kpf,rch_iff,lv_iff,Bool.or_eq_true,Bool.and_eq_true,beq_iff_eq,show((x.toNat:Nat):Int)=x by omega]at h2;rcases h2 with h2|h2
  ·left;omega
  exact .inr h2
 rintro(rfl|⟨h1,h2⟩)
 ·exact⟨by omega,by simp[kpf]⟩
 have:=h2.rng;refine⟨this,?_⟩;simp only[kpf,rch_iff,lv_iff,Bool.or_eq_true,Bool.and_eq_true,beq_iff_eq,show((x.toNat:Nat):Int)=x by omega];exact .inr ⟨h1,h2⟩
end
open Go Go.Eng
theorem placeT{N:Nat}{o:List Int}{n:Nat}(hN:4294967296≤N)(hn:n<4294967296)(hA:Acc n o):
 ∃P,iterO N (fun s=>F_66 N o s.1 s.2) (0,List.replicate n 0)=some P∧P.length=n∧ ∀x:Nat,x<n→P[x]? =some (pl o x):=by
 have hle:=hA.len
 obtain⟨P,h1,h2,h3⟩:=loop_inv (f:=fun s=>F_66 N o s.1 s.2) (fun i (s:List Int)=>((i:Int),s)) id o (fun i P=>P.length=n∧ ∀x:Nat,x<n→P[x]? =some (if(x:Int)∈o.take i then(o.idxOf (x:Int):Int)else 0)) (N:=N) (s:=List.replicate n 0) (by omega)
  ⟨by simp,fun x hx=>by simp[hx]⟩
  (fun i x P hx hI=>by
   obtain⟨k1,k2⟩:=hI;have hi:=lt_len hx;have hxr:=hA.rng x (List.mem_of_getElem? hx);obtain⟨v,rfl⟩: ∃v:Nat,x=(v:Int):=⟨x.toNat,by omega⟩;have hv:v<P.length:=by omega
   refine⟨P.set v (i:Int),?_,by simp[k1],fun y hy=>?_⟩
   ·unfold F_66;simp only[show((i:Int)<(o.length:Int)) by omega,decide_true,if_true,idx_of hx,idx_nat hv,setI_nat hv,bind,Option.bind_some];rw[w64_succ (by omega)]
   have hmem:((y:Int)∈o.take (i+1))↔((y:Int)∈o.take i∨(y:Int)=v):=by
    rw[List.take_add_one,hx];simp
   by_cases hyv:y=v
   ·subst hyv;rw[List.getElem?_set_self hv,if_pos (hmem.2 (.inr rfl))]
    have hxi:o[i]=(y:Int):=by
     rw[List.getElem?_eq_getElem hi]at hx;exact Option.some.inj hx
    rw[←hxi,List.Nodup.idxOf_getElem hA.nd]
   rw[List.getElem?_set_ne (by omega),k2 y hy]
   have:((y:Int)∈o.take (i+1))↔((y:Int)∈o.take i):=by
    rw[hmem];constructor
    ·rintro(h|h)
     ·exact h
     omega
    exact .inl
   simp only[this])
  (fun s _=>by unfold F_66;simp)
 exact⟨P,h1,h2,fun x hx=>by rw[h3 x hx,List.take_length];rfl⟩
theorem rowT{N:Nat}{o P row:List Int}{n:Nat}(hN:4294967296≤N)(hg: ∀x:Nat,x<n→P[x]? =some (pl o x))(hw:row.length=256)(hr: ∀y∈row,0≤y∧y<(n:Int)):
 iterO N (fun s=>F_44 N P row s.1 s.2) (row,0)=some (row.map (pl o)):=by
 obtain⟨r,h1,h2,h3⟩:=loop_inv (f:=fun s=>F_44 N P row s.1 s.2) (fun i (s:List Int)=>(s,(i:Int))) id row (fun i r=>r.length=256∧ ∀j:Nat,r[j]? =if j<i then(row[j]?).map (pl o)else row[j]?) (N:=N) (s:=row) (by omega)
  ⟨hw,fun j=>by simp⟩
  (fun i x r hx hI=>by
   obtain⟨k1,k2⟩:=hI;have hi:=lt_len hx;have hxr:=hr x (List.mem_of_getElem? hx);obtain⟨v,rfl⟩: ∃v:Nat,x=(v:Int):=⟨x.toNat,by omega⟩;have hv:v<n:=by omega
   have hir:i<r.length:=by omega
   refine⟨r.set i (pl o v),?_,by simp[k1],fun j=>?_⟩
   ·unfold F_44;simp only[show((i:Int)<256) by omega,decide_true,if_true,idx_of hx,idx_of (hg v hv),idx_nat hir,setI_nat hir,bind,Option.bind_some];rw[w64_succ (by omega)]
   by_cases hj:j=i
   ·subst hj;rw[List.getElem?_set_self hir,if_pos (by omega),hx];rfl
   rw[List.getElem?_set_ne (by omega),k2 j];by_cases h:j<i
   ·rw[if_pos h,if_pos (by omega)]
   rw[if_neg h,if_neg (by omega)])
  (fun s _=>by unfold F_44;simp[hw])
 rw[show iterO N (fun s=>F_44 N P row s.1 s.2) (row,0)=_ from h1]
 congr 1
 apply List.ext_getElem?;intro j;rw[id,h3 j,List.getElem?_map];by_cases h:j<row.length
 ·rw[if_pos h]
 rw[if_neg h,List.getElem?_eq_none (by omega)];rfl
theorem trim_spec{N:Nat}{rows:List (List Int)}{rule entry:List Int}(hN:4294967296≤N)(hs:Sz rows rule entry)(h:Rt rows rule entry):
 F_4 N rows rule entry=some (reRows (kp rows rule entry) rows,reRule (kp rows rule entry) rule,reEntry (kp rows rule entry) entry):=by
 have hA:=kp_acc (rows:=rows) (rule:=rule) (entry:=entry);have hle:=hA.len;have hn2:=h.n2;have he2:=h.e2;unfold F_4;obtain⟨P,p1,p2,p3⟩:=placeT (N:=N) hN (show rows.length<4294967296 by omega) hA;simp only[right_yes hN hs h,bind,Option.bind_some,Bool.not_true,Bool.false_eq_true,if_false,kept_spec hN hs h];rw[mk_eq (by omega)];simp only[Option.bind_some];rw[p1];simp only[Option.bind_some]
 obtain⟨s1,q1,q2,q3⟩:=loop_inv (f:=fun s=>F_67 N rows rule (kp rows rule entry) P s.1 s.2.1 s.2.2) (fun i (s:List (List Int)×List Int)=>((i:Int),s.1,s.2)) id (kp rows rule entry)
  (fun i s=>s.1=(reRows (kp rows rule entry) rows).take i∧s.2=(reRule (kp rows rule entry) rule).take i) (N:=N) (s:=([],[])) (by omega) ⟨by simp,by simp⟩
  (fun i x s hx hI=>by
   obtain⟨k1,k2⟩:=hI;obtain⟨R,U⟩:=s;simp only at k1 k2;have hi:=lt_len hx;have hxr:=hA.rng x (List.mem_of_getElem? hx);obtain⟨row,r1,r2,r3,r4⟩:=row_of h hxr;obtain⟨v,rfl⟩: ∃v:Nat,x=(v:Int):=⟨x.toNat,by omega⟩;have hvu:v<rule.length:=by have:=h.ru;omega
   have l1:R.length≤i:=by rw[k1];simp;omega
   have l2:U.length≤i:=by rw[k2];simp;omega
   have g1:(reRows (kp rows rule entry) rows)[i]? =some (row.map (pl (kp rows rule entry))):=by
    unfold reRows;rw[List.getElem?_map,hx,←r2];rfl
   have g2:(reRule (kp rows rule entry) rule)[i]? =some rule[v]:=by
    unfold reRule;rw[List.getElem?_map,hx];show some (rule.getD (v:Int).toNat 0)=_;rw[getD_of (List.getElem?_eq_getElem (show(v:Int).toNat<rule.length by simpa using hvu))];rfl
   refine⟨(R++ [row.map (pl (kp rows rule entry))],U++ [rule[v]]),?_,?_,?_⟩
   ·unfold F_67;simp only[show((i:Int)<((kp rows rule entry).length:Int)) by omega,decide_true,if_true,idx_of hx,r1,bind,Option.bind_some];rw[rowT hN p3 (hs.w row r3) r4];simp only[Option.bind_some];rw[app_eq (by simp;omega)];simp only[Option.bind_some,idx_nat hvu];rw[app_eq (by simp;omega)];simp only[Option.bind_some];rw[w64_succ (by omega)]
   ·rw[List.take_add_one,g1,k1];rfl
   rw[List.take_add_one,g2,k2];rfl)
  (fun s _=>by unfold F_67;simp)
 rw[show iterO N (fun s=>F_67 N rows rule (kp rows rule entry) P s.1 s.2.1 s.2.2) (0,[],[])=_ from q1];rw[List.take_of_length_le (by simp[reRows])]at q2;rw[List.take_of_length_le (by simp[reRule])]at q3;obtain⟨s1a,s1b⟩:=s1;simp only at q2 q3;subst q2 q3;simp only[Option.bind_some,id]
 obtain⟨s3,w1,w2⟩:=loop_inv (f:=fun s=>F_68 N entry P s.1 s.2) (fun i (s:List Int)=>(s,(i:Int))) id entry (fun i s=>s=(reEntry (kp rows rule entry) entry).take i) (N:=N) (s:=[]) (by omega) (by simp)
  (fun i x s hx k1=>by
   have hi:=lt_len hx;have hxr:=h.ent x (List.mem_of_getElem? hx);obtain⟨v,rfl⟩: ∃v:Nat,x=(v:Int):=⟨x.toNat,by omega⟩;have l1:s.length≤i:=by rw[k1];simp;omega
   refine⟨s++ [pl (kp rows rule entry) v],?_,?_⟩
   ·unfold F_68;simp only[show((i:Int)<(entry.length:Int)) by omega,decide_true,if_true,idx_of hx,idx_of (p3 v (by omega)),bind,Option.bind_some];rw[app_eq (by simp;omega)];simp only[Option.bind_some];rw[w64_succ (by omega)]
   have:(reEntry (kp rows rule entry) entry)[i]? =some (pl (kp rows rule entry) v):=by unfold reEntry;rw[List.getElem?_map,hx];rfl
   rw[List.take_add_one,this,k1];rfl)
  (fun s _=>by unfold F_68;simp)
 rw[show iterO N (fun s=>F_68 N entry P s.1 s.2) ([],0)=_ from w1];rw[List.take_of_length_le (by simp[reEntry])]at w2;subst w2;rfl
theorem reO_right{rows:List (List Int)}{rule entry o:List Int}(h:Rt rows rule entry)(hA:Acc rows.length o)(h00:o[0]? =some 0):Rt (reRows o rows) (reRule o rule) (reEntry o entry):=by
 have hle:=hA.len;have hpos:0<o.length:=(List.getElem?_eq_some_iff.1 h00).1
 have hpl0:pl o 0=0:=by
  have:=pl_get hA.nd hpos;rw[List.getElem?_eq_getElem hpos]at h00;rw[Option.some.inj h00]at this;exact this
 have hlen:(reRows o rows).length=o.length:=by simp[reRows]
 refine⟨by omega,by have:=h.n2;omega,by simp[reRule,reRows],by simpa[reEntry]using h.e1,by simpa[reEntry]using h.e2,?_,?_,?_,?_,?_⟩
 ·intro r hr x hx;obtain⟨s,hs,rfl⟩:=mem_reRows hr;obtain⟨y,hy,rfl⟩:=List.mem_map.1 hx;rw[hlen];exact pl_rng hpos
 ·intro x hx;obtain⟨s,hs,rfl⟩:=List.mem_map.1 hx;have hsr:=hA.rng s hs;have hru:=h.ru;rw[List.getD,List.getElem?_eq_getElem (show s.toNat<rule.length by omega)];exact h.rul _ (List.getElem_mem _)
 ·intro x hx;obtain⟨s,hs,rfl⟩:=List.mem_map.1 hx;rw[hlen];exact pl_rng hpos
 ·unfold reRows;rw[List.getElem?_map,h00];show some ((rows.getD 0 []).map _)=_;rw[List.getD,h.r0];show some ((List.replicate 256 0).map (pl o))=_;rw[List.map_replicate,hpl0]
 unfold reRule;rw[List.getElem?_map,h00];show some (rule.getD 0 0)=_;rw[List.getD,h.u0];rfl
theorem reO_sz{rows:List (List Int)}{rule entry o:List Int}(hs:Sz rows rule entry)(h:Rt rows rule entry)(hA:Acc rows.length o):Sz (reRows o rows) (reRule o rule) (reEntry o entry):=by
 have hle:=hA.len;have hn:=h.n2;have he:=h.e2;refine⟨fun r hr=>?_,by simp only[reRows,List.length_map];omega,by simp only[reRule,List.length_map];omega,by simp only[reEntry,List.length_map];omega⟩;obtain⟨s,hs',rfl⟩:=mem_reRows hr;have hsr:=hA.rng s hs';rw[List.length_map,getD_of (List.getElem?_eq_getElem (show s.toNat<rows.length by omega))];exact hs.w _ (List.getElem_mem _)
open Go Go.Eng
section
variable {N:Nat}{rows:List (List Int)}{rule entry:List Int}
theorem pl_zero{o:List Int}{n:Nat}(hA:Acc n o)(h0:o[0]? =some 0):pl o 0=0:=by
 obtain⟨hl,he⟩:=List.getElem?_eq_some_iff.1 h0;have:=pl_get hA.nd hl;rwa[he]at this
theorem kp_mem(h:Rt rows rule entry){s:Int}(hr:Rch rows entry s)(hl:Lv rows rule s):s∈kp rows rule entry:=(mem_kp h).2 (.inr ⟨hr,hl⟩)
theorem kp_rch(h:Rt rows rule entry){s:Int}(hr:Rch rows entry s)(hl:Lv rows rule s):Rch (reRows (kp rows rule entry) rows) (reEntry (kp rows rule entry) entry) (pl (kp rows rule entry) s):=by
 induction hr with
 |zero=>rw[pl_zero kp_acc (kp_zero h)];exact .zero
 |ent hx=>exact .ent (List.mem_map_of_mem hx)
 | @step s y hr hy ih=>
   have hsr:=hr.rng h;have hl':Lv rows rule s:= .step hsr.1 hsr.2 hy hl;refine .step (ih hl') ?_;rw[reRows_get (kp_mem h hr hl')];exact List.mem_map_of_mem hy
theorem kp_lv(h:Rt rows rule entry){s:Int}(hr:Rch rows entry s)(hl:Lv rows rule s):Lv (reRows (kp rows rule entry) rows) (reRule (kp rows rule entry) rule) (pl (kp rows rule entry) s):=by
 have hpos:0<(kp rows rule entry).length:=(List.getElem?_eq_some_iff.1 (kp_zero h)).1
 have hrg: ∀x,0≤pl (kp rows rule entry) x∧pl (kp rows rule entry) x<((reRows (kp rows rule entry) rows).length:Int):=fun x=>by
  have:=pl_rng (x:=x) hpos;simpa[reRows]using this
 induction hl with
 |here a0 a1 a2=>
   refine .here (hrg _).1 (hrg _).2 ?_;rw[rule_re (kp_mem h hr (.here a0 a1 a2))];exact a2
 |step a0 a1 a2 a3 ih=>
   refine .step (hrg _).1 (hrg _).2 ?_ (ih (.step hr a2));rw[reRows_get (kp_mem h hr (.step a0 a1 a2 a3))];exact List.mem_map_of_mem a2
theorem lst_all{f:Nat→Bool}{n:Nat}(h: ∀j,j<n→f j=true):lst f n=upto n:=by
 unfold lst upto;rw[List.filter_eq_self.2 fun j hj=>h j (List.mem_range.1 hj)]
theorem kp_re(h:Rt rows rule entry):kp (reRows (kp rows rule entry) rows) (reRule (kp rows rule entry) rule) (reEntry (kp rows rule entry) entry)=upto (reRows (kp rows rule entry) rows).length:=by
 refine lst_all fun j hj=>?_;have hj':j<(kp rows rule entry).length:=by simpa[reRows]using hj
 unfold kpf;rw[Bool.or_eq_true,Bool.and_eq_true,rch_iff,lv_iff,beq_iff_eq];have hA:Acc rows.length (kp rows rule entry):=kp_acc;have hp:=pl_get hA.nd hj';rcases(mem_kp h).1 (List.getElem_mem hj')with h0|⟨h1,h2⟩
 ·left;rw[h0,pl_zero hA (kp_zero h)]at hp;omega
 right;have a1:=kp_rch h h1 h2;have a2:=kp_lv h h1 h2;rw[hp]at a1 a2;exact⟨a1,a2⟩
end
open Go Go.Eng
set_option maxRecDepth 100000
theorem right_any{N:Nat}{rows:List (List Int)}{rule entry:List Int}(hN:4294967296≤N)(hw: ∀r∈rows,r.length=256)(ha:rows.length<4294967296):
 ∃b,F_6 N rows rule entry=some b∧(b=true↔Rt rows rule entry):=by
 by_cases h:rule.length=rows.length∧entry.length≤8
 ·exact right_spec hN ⟨hw,ha,by omega,by omega⟩
 refine⟨false,?_,by simp only[Bool.false_eq_true,false_iff];exact fun hr=>h ⟨hr.ru,hr.e2⟩⟩;unfold F_6;by_cases a1:(rows.length:Int)<1
 ·simp[a1]
 by_cases a2:(rows.length:Int)>200
 ·simp[a1,a2]
 by_cases a3:rule.length=rows.length
 case neg=>
  have e0:((rule.length:Int) != (rows.length:Int))=true:=by simp;omega
  simp[a1,a2,e0]
 have e0:((rule.length:Int) != (rows.length:Int))=false:=by simp[a3]
 by_cases a4:(entry.length:Int)<1
 ·simp[a1,a2,e0,a4]
 have a5:(entry.length:Int)>8:=by omega
 simp only[decide_eq_false a1,decide_eq_false a2,e0,decide_eq_false a4,decide_eq_true a5,bind,Option.bind_some,Bool.false_eq_true,if_false,if_true]
theorem Rt.sz{rows:List (List Int)}{rule entry:List Int}(h:Rt rows rule entry)(hw: ∀r∈rows,r.length=256):Sz rows rule entry:=
 ⟨hw,by have:=h.n2;omega,by have:=h.n2;have:=h.ru;omega,by have:=h.e2;omega⟩
open Go Go.Eng
set_option maxRecDepth 100000
theorem mget_mset{v:Bool}{k k':Int}: ∀{m:List (Int×Bool)},mget (mset m k v) k'=if k=k' then some v else mget m k'
 | []=>by
   by_cases h:k=k'<;>simp[mget,mset,h]
 |e::m=>by
   have ih:=mget_mset (v:=v) (k:=k) (k':=k') (m:=m);by_cases h1:e.1=k
   ·have:mset (e::m) k v=(k,v)::m:=by simp[mset,List.findIdx?_cons,h1]
    rw[this];by_cases h:k=k'
    ·simp[mget,h]
    simp[mget,h,h1]
   have:mset (e::m) k v=e::mset m k v:=by
    unfold mset;rw[List.findIdx?_cons];have:(e.1==k)=false:=by simp[h1]
    rw[this]
    cases List.findIdx? (fun e=>e.1==k) m with
    |none=>simp
    |some i=>simp
   rw[this];by_cases h2:e.1=k'
   ·have: ¬k=k':=fun hh=>h1 (h2.trans hh.symm);simp[mget,h2,this]
   have e1: ∀m':List (Int×Bool),mget (e::m') k'=mget m' k':=fun m'=>by simp[mget,h2]
   rw[e1,ih,e1]
section
variable {N:Nat}{rows:List (List Int)}{rule entry:List Int}
theorem nxt_mem(hs:Sz rows rule entry){s c:Int}(hr:0≤s∧s<rows.length)(hc:0≤c∧c<256):nxt rows s c∈rows.getD s.toNat []:=by
 have hl:s.toNat<rows.length:=by omega
 have hw:=hs.w _ (List.getElem_mem hl);have hcl:c.toNat<rows[s.toNat].length:=by omega
 unfold nxt;rw[getD_of (List.getElem?_eq_getElem hl),getD_of (List.getElem?_eq_getElem hcl)];exact List.getElem_mem hcl
end
open Go Go.Eng
set_option maxRecDepth 100000
section
variable {N:Nat}{rows:List (List Int)}{rule entry:List Int}
theorem pl_out{o:List Int}{s:Int}(h:s∉o):pl o s=0:=by unfold pl;rw[if_neg h]
theorem beg_rch(_h:Rt rows rule entry)(cond:Int):Rch rows entry (beg entry cond):=by
 unfold beg;split
 ·rename_i hc;have hl:cond.toNat<entry.length:=by omega
  rw[getD_of (List.getElem?_eq_getElem hl)];exact .ent (List.getElem_mem hl)
 exact .zero
theorem begT(h:Rt rows rule entry)(cond:Int):beg (reEntry (kp rows rule entry) entry) cond=pl (kp rows rule entry) (beg entry cond):=by
 unfold beg;have hl:(reEntry (kp rows rule entry) entry).length=entry.length:=by simp[reEntry]
 rw[hl];split
 ·rename_i hcd;have hl:cond.toNat<entry.length:=by omega
  unfold reEntry;rw[List.getD,List.getElem?_map,List.getElem?_eq_getElem hl,List.getD,List.getElem?_eq_getElem hl];rfl
 exact(pl_zero kp_acc (kp_zero h)).symm
theorem nxtT(hs:Sz rows rule entry)(h:Rt rows rule entry){s c:Int}(hr:Rch rows entry s)(hc:0≤c∧c<256):
 nxt (reRows (kp rows rule entry) rows) (pl (kp rows rule entry) s) c=pl (kp rows rule entry) (nxt rows s c):=by
 have hsr:=hr.rng h;have hz:=pl_zero (n:=rows.length) (kp_acc (rows:=rows) (rule:=rule) (entry:=entry)) (kp_zero h);have hm:=nxt_mem hs hsr hc;by_cases ho:s∈kp rows rule entry
 ·obtain⟨row,g1,g2,g3,g4⟩:=nxt_get hs hsr hc
  have e1:rows.getD s.toNat []=row:=by
   obtain⟨_,hlt,hx⟩:=idx_some g1;rw[List.getD,hx];rfl
  obtain⟨_,hlt,hx⟩:=idx_some g3;show(List.getD (List.getD (reRows (kp rows rule entry) rows) (pl (kp rows rule entry) s).toNat []) c.toNat 0)=_;rw[reRows_get ho,e1,List.getD,List.getElem?_map,hx];rfl
 have hl: ¬Lv rows rule s:=fun hl=>ho ((mem_kp h).2 (.inr ⟨hr,hl⟩))
 have hn:pl (kp rows rule entry) (nxt rows s c)=0:=by
  by_cases hy:nxt rows s c∈kp rows rule entry
  ·rcases(mem_kp h).1 hy with h0|⟨_,h2⟩
   ·rw[h0,hz]
   exact absurd (.step hsr.1 hsr.2 hm h2) hl
  exact pl_out hy
 rw[pl_out ho,hn];have hr0:=(reO_right h (o:=kp rows rule entry) kp_acc (kp_zero h)).r0;unfold nxt;rw[show(0:Int).toNat=0 from rfl,getD_of hr0,getD_of (x:=0)];rw[List.getElem?_replicate,if_pos (by omega)]
theorem sttT(hs:Sz rows rule entry)(h:Rt rows rule entry)(cond:Int){text:List Int}(ht:Byt text):
 stt (reRows (kp rows rule entry) rows) (reEntry (kp rows rule entry) entry) cond text=pl (kp rows rule entry) (stt rows entry cond text)∧Rch rows entry (stt rows entry cond text):=by
 unfold stt;rw[begT h]
 have key: ∀(l:List Int) (s:Int),Byt l→Rch rows entry s→l.foldl (nxt (reRows (kp rows rule entry) rows)) (pl (kp rows rule entry) s)=pl (kp rows rule entry) (l.foldl (nxt rows) s)∧Rch rows entry (l.foldl (nxt rows) s):=by
  intro l
  induction l with
  |nil=>intro s _ hm;exact⟨rfl,hm⟩
  |cons c l ih=>
    intro s hl hm;have hc:=hl c (by simp);simp only[List.foldl_cons];rw[nxtT hs h hm hc];exact ih _ (fun x hx=>hl x (by simp[hx])) (.step hm (nxt_mem hs (hm.rng h) hc))
 exact key text _ ht (beg_rch h cond)
theorem ruleT(h:Rt rows rule entry){s:Int}(hr:Rch rows entry s):(reRule (kp rows rule entry) rule).getD (pl (kp rows rule entry) s).toNat 0=rule.getD s.toNat 0:=by
 by_cases ho:s∈kp rows rule entry
 ·exact rule_re ho
 have hl: ¬Lv rows rule s:=fun hl=>ho ((mem_kp h).2 (.inr ⟨hr,hl⟩));have hsr:=hr.rng h
 have h1:rule.getD s.toNat 0= -1:=by
  refine Classical.byContradiction fun hne=>hl (.here hsr.1 hsr.2 hne)
 rw[pl_out ho,h1];have hu:=(reO_right h (o:=kp rows rule entry) kp_acc (kp_zero h)).u0;exact getD_of hu
end
open Go Go.Eng
set_option maxRecDepth 100000
def key(t:List Int):Nat:=t.foldl (fun a c=>a*257+(c.toNat+1)) 0
theorem key_snoc(t:List Int)(c:Int):key (t++ [c])=key t*257+(c.toNat+1):=by simp[key]
theorem snoc_of{t:List Int}(h:t≠ []): ∃u c,t=u++ [c]:=⟨t.dropLast,t.getLast h,(List.dropLast_concat_getLast h).symm⟩
theorem key_nil:key []=0:=rfl
theorem Byt.app{t:List Int}{c:Int}:Byt (t++ [c])↔Byt t∧0≤c∧c<256:=by
 constructor
 ·exact fun h=>⟨fun x hx=>h x (by simp[hx]),h c (by simp)⟩
 rintro⟨h1,h2⟩ x hx;rcases List.mem_append.1 hx with hx|hx
 ·exact h1 x hx
 simp at hx;subst hx;exact h2
theorem snoc_ind{P:List Int→Prop}(h0:P [])(h1: ∀t c,P t→P (t++ [c])): ∀(n:Nat) (t:List Int),t.length=n→P t
 |0,t,h=>by
   obtain rfl:=List.length_eq_zero_iff.1 h;exact h0
 |n+1,t,h=>by
   obtain⟨u,c,rfl⟩:=snoc_of (t:=t) (fun e=>by subst e;simp at h);exact h1 u c (snoc_ind h0 h1 n u (by simpa using h))
theorem key_bound{t:List Int}:Byt t→key t<257^t.length∧(1≤t.length→257^(t.length-1)≤key t):=by
 refine snoc_ind (P:=fun t=>Byt t→key t<257^t.length∧(1≤t.length→257^(t.length-1)≤key t)) (fun _=>⟨by simp[key],by simp⟩) (fun t c ih hb=>?_) _ t rfl;obtain⟨hb1,hc⟩:=Byt.app.1 hb;obtain⟨i1,i2⟩:=ih hb1;have e1:(257:Nat)^(t.length+1)=257^t.length*257:=Nat.pow_succ ..;rw[key_snoc,List.length_append,List.length_singleton];refine⟨by omega,fun _=>?_⟩;rw[Nat.add_sub_cancel];by_cases hl:1≤t.length
 ·have:=i2 hl
  have e2:(257:Nat)^t.length=257^(t.length-1)*257:=by
   rw[←Nat.pow_succ];congr 1;omega
  omega
 have:t.length=0:=by omega
 rw[this,Nat.pow_zero];omega
theorem key_inj: ∀{t u:List Int},Byt t→Byt u→key t=key u→t=u:=by
 intro t;refine snoc_ind (P:=fun t=> ∀{u:List Int},Byt t→Byt u→key t=key u→t=u) (fun{u} _ hu hk=>?_) (fun t c ih {u} ht hu hk=>?_) _ t rfl
 ·by_cases hn:u= []
  ·exact hn.symm
  obtain⟨v,d,rfl⟩:=snoc_of hn;rw[key_snoc,key_nil]at hk;omega
 by_cases hn:u= []
 ·subst hn;rw[key_snoc,key_nil]at hk;omega
 obtain⟨v,d,rfl⟩:=snoc_of hn;obtain⟨ht1,hc⟩:=Byt.app.1 ht;obtain⟨hu1,hd⟩:=Byt.app.1 hu;rw[key_snoc,key_snoc]at hk;have e1:key t=key v:=by omega
 have e2:c=d:=by omega
 rw[ih ht1 hu1 e1,e2]
section
variable {N:Nat}{rows:List (List Int)}{rule entry:List Int}
def Leads(rows:List (List Int))(rule:List Int)(x s:Int)(t:List Int):Prop:=Byt t∧rule.getD (t.foldl (nxt rows) s).toNat 0=x
def LeadsIn(rows:List (List Int))(rule:List Int)(x:Int)(k:Nat)(s:Int):Prop:= ∃t,Leads rows rule x s t∧t.length=k
def Dist(rows:List (List Int))(rule:List Int)(x s:Int)(k:Nat):Prop:=LeadsIn rows rule x k s∧ ∀j,j<k→ ¬LeadsIn rows rule x j s
theorem Dist.uniq{x s:Int}{a b:Nat}(h:Dist rows rule x s a)(h':Dist rows rule x s b):a=b:=by
 rcases Nat.lt_trichotomy a b with hl|he|hl
 ·exact absurd h.1 (h'.2 a hl)
 ·exact he
 exact absurd h'.1 (h.2 b hl)
end
open Go Go.Eng
set_option maxRecDepth 100000
theorem least{P:Nat→Prop}: ∀{n:Nat},P n→ ∃k,k≤n∧P k∧ ∀j,j<k→ ¬P j:=by
 intro n
 induction n using Nat.strongRecOn with
 |ind n ih=>
   intro h;by_cases hc: ∃j,j<n∧P j
   ·obtain⟨j,h1,h2⟩:=hc;obtain⟨k,k1,k2,k3⟩:=ih j h1 h2;exact⟨k,by omega,k2,k3⟩
   exact⟨n,Nat.le_refl _,h,fun j hj hp=>hc ⟨j,hj,hp⟩⟩
section
variable {N:Nat}{rows:List (List Int)}{rule entry:List Int}
def Best(rows:List (List Int))(rule:List Int)(x s:Int)(g:List Int):Prop:=Leads rows rule x s g∧ ∀u,Leads rows rule x s u→key g≤key u
theorem Best.uniq{x s:Int}{a b:List Int}(h:Best rows rule x s a)(h':Best rows rule x s b):a=b:=key_inj h.1.1 h'.1.1 (Nat.le_antisymm (h.2 _ h'.1) (h'.2 _ h.1))
end
open Go Go.Eng
set_option maxRecDepth 100000
section
variable {σ:Type}{nx:σ→Int→σ}{G Triv:σ→Prop}{s0:σ}
def LG(nx:σ→Int→σ)(G:σ→Prop)(s:σ)(t:List Int):Prop:=Byt t∧G (t.foldl nx s)
def BestG(nx:σ→Int→σ)(G:σ→Prop)(s:σ)(g:List Int):Prop:=LG nx G s g∧ ∀u,LG nx G s u→key g≤key u
theorem BestG.uniq{s:σ}{a b:List Int}(h:BestG nx G s a)(h':BestG nx G s b):a=b:=key_inj h.1.1 h'.1.1 (Nat.le_antisymm (h.2 _ h'.1) (h'.2 _ h.1))
structure TrivOk(nx:σ→Int→σ)(G Triv:σ→Prop):Prop where
 step: ∀s c,Triv s→Triv (nx s c)
 none: ∀s,Triv s→ ¬G s
def Closed(nx:σ→Int→σ)(G Triv:σ→Prop)(S:List σ)(s:σ):Prop:= ¬G s∧ ∀c:Int,0≤c→c<256→nx s c∈S∨Triv (nx s c)
structure BInv(nx:σ→Int→σ)(G Triv:σ→Prop)(Dm:σ→Prop)(s0:σ)(S:List σ)(Q:List (σ×List Int)):Prop where
 a:s0∈S
 nd:S.Nodup
 rng: ∀s∈S,Dm s
 qs: ∀p∈Q,p.1∈S
 byt: ∀p∈Q,Byt p.2∧p.2.foldl nx s0=p.1∧ ∀u,Byt u→u.foldl nx s0=p.1→key p.2≤key u
 len: ∀p∈Q,p.2.length<S.length
 ql:Q.length≤S.length
 cl: ∀s∈S,(∃t,(s,t)∈Q)∨Closed nx G Triv S s
 srt:(Q.map (fun p=>key p.2)).Pairwise (· < ·)
 bnd: ∀p,Q.head?=some p→ ∀q∈Q,key q.2≤key p.2*257
structure BMid(nx:σ→Int→σ)(G Triv:σ→Prop)(Dm:σ→Prop)(s0 s:σ)(t:List Int)(c:Nat)(S:List σ)(Q:List (σ×List Int)):Prop where
 a:s0∈S
 nd:S.Nodup
 rng: ∀s∈S,Dm s
 qs: ∀p∈Q,p.1∈S
 byt: ∀p∈Q,Byt p.2∧p.2.foldl nx s0=p.1∧ ∀u,Byt u→u.foldl nx s0=p.1→key p.2≤key u
 len: ∀p∈Q,p.2.length<S.length
 ql:Q.length+1≤S.length
 cl: ∀z∈S,z=s∨(∃t,(z,t)∈Q)∨Closed nx G Triv S z
 srt:(Q.map (fun p=>key p.2)).Pairwise (· < ·)
 bnd: ∀q∈Q,key t<key q.2∧key q.2≤key t*257+c
 tb:Byt t∧t.foldl nx s0=s∧t.length<S.length∧s∈S
 ch: ∀d:Nat,d<c→nx s d∈S∨Triv (nx s d)
 sm: ∀v,Byt v→key v<key t→Closed nx G Triv S (v.foldl nx s0)∨Triv (v.foldl nx s0)
theorem Closed.mono{S S':List σ}{s:σ}(h:Closed nx G Triv S s)(hS: ∀x∈S,x∈S'):Closed nx G Triv S' s:=⟨h.1,fun c h0 h1=>(h.2 c h0 h1).imp (hS _) id⟩
theorem BInv.sm{Dm:σ→Prop}{S:List σ}{Q:List (σ×List Int)}(hT:TrivOk nx G Triv)(h:BInv nx G Triv Dm s0 S Q):
 ∀v,Byt v→(∀p∈Q,key v<key p.2)→Closed nx G Triv S (v.foldl nx s0)∨Triv (v.foldl nx s0):=by
 intro v;refine snoc_ind (P:=fun v=>Byt v→(∀p∈Q,key v<key p.2)→Closed nx G Triv S (v.foldl nx s0)∨Triv (v.foldl nx s0)) (fun _ hk=>?_) (fun w d ih hb hk=>?_) _ v rfl
 ·rcases h.cl s0 h.a with⟨t,ht⟩|hc
  ·have:=hk _ ht;have h2:=(h.byt _ ht).2.2 [] (fun x hx=>by simp at hx) rfl;omega
  exact .inl hc
 obtain⟨hb1,hd⟩:=Byt.app.1 hb;rw[key_snoc]at hk;have e:(w++ [d]).foldl nx s0=nx (w.foldl nx s0) d:=by rw[List.foldl_append];rfl
 rcases ih hb1 (fun p hp=>by have:=hk p hp;omega)with hc|ht
 ·rw[e];rcases hc.2 d hd.1 hd.2 with hm|ht
  ·rcases h.cl _ hm with⟨t,ht⟩|hc'
   ·have h1:=hk _ ht;have h2:=(h.byt _ ht).2.2 (w++ [d]) hb e;rw[key_snoc]at h2;omega
   exact .inl hc'
  exact .inr ht
 rw[e];exact .inr (hT.step _ _ ht)
theorem BInv.least{Dm:σ→Prop}{S:List σ}{p:σ×List Int}{Q:List (σ×List Int)}(h:BInv nx G Triv Dm s0 S (p::Q)): ∀q∈p::Q,key p.2≤key q.2:=by
 intro q hq;rcases List.mem_cons.1 hq with rfl|hq
 ·exact Nat.le_refl _
 have:=List.rel_of_pairwise_cons h.srt (List.mem_map_of_mem (f:=fun p:σ×List Int=>key p.2) hq);exact Nat.le_of_lt this
theorem BInv.best{Dm:σ→Prop}{S:List σ}{s:σ}{t:List Int}{Q:List (σ×List Int)}(hT:TrivOk nx G Triv)(h:BInv nx G Triv Dm s0 S ((s,t)::Q))(hG:G s):BestG nx G s0 t:=by
 obtain⟨b1,b2,b3⟩:=h.byt (s,t) (by simp);simp only at b1 b2 b3;refine⟨⟨b1,b2▸hG⟩,fun u hu=>?_⟩;refine Classical.byContradiction fun hlt=>?_;rcases h.sm hT u hu.1 (fun p hp=>by have:=h.least p hp;simp only at this;omega)with hc|ht
 ·exact hc.1 hu.2
 exact hT.none _ ht hu.2
theorem BInv.none{Dm:σ→Prop}{S:List σ}(hT:TrivOk nx G Triv)(h:BInv nx G Triv Dm s0 S []): ∀u,¬LG nx G s0 u:=by
 intro u hu;rcases h.sm hT u hu.1 (fun p hp=>by simp at hp)with hc|ht
 ·exact hc.1 hu.2
 exact hT.none _ ht hu.2
theorem BInv.start{Dm:σ→Prop}(hd:Dm s0):BInv nx G Triv Dm s0 [s0] [(s0,[])] where
 a:=by simp
 nd:=by simp
 rng:=fun s hs=>by simp at hs;subst hs;exact hd
 qs:=fun p hp=>by simp at hp;subst hp;simp
 byt:=fun p hp=>by simp at hp;subst hp;exact⟨fun x hx=>by simp at hx,rfl,fun u _ _=>by simp[key]⟩
 len:=fun p hp=>by simp at hp;subst hp;simp
 ql:=by simp
 cl:=fun s hs=>by simp at hs;subst hs;exact .inl ⟨[],by simp⟩
 srt:=by simp
 bnd:=fun p hp q hq=>by simp at hp hq;subst hp;subst hq;simp[key]
theorem BInv.mid{Dm:σ→Prop}{S:List σ}{s:σ}{t:List Int}{Q:List (σ×List Int)}(hT:TrivOk nx G Triv)(h:BInv nx G Triv Dm s0 S ((s,t)::Q))(_hG: ¬G s):BMid nx G Triv Dm s0 s t 0 S Q where
 a:=h.a
 nd:=h.nd
 rng:=h.rng
 qs:=fun p hp=>h.qs p (by simp[hp])
 byt:=fun p hp=>h.byt p (by simp[hp])
 len:=fun p hp=>h.len p (by simp[hp])
 ql:=by have:=h.ql;simp at this;exact this
 cl:=fun z hz=>by
  rcases h.cl z hz with⟨u,hu⟩|hc
  ·rcases List.mem_cons.1 hu with he|hu
   ·exact .inl (Prod.mk.inj he).1
   exact .inr (.inl ⟨u,hu⟩)
  exact .inr (.inr hc)
 srt:=(List.pairwise_cons.1 h.srt).2
 bnd:=fun q hq=>by
  have h1:=List.rel_of_pairwise_cons h.srt (List.mem_map_of_mem (f:=fun p:σ×List Int=>key p.2) hq);have h2:=h.bnd (s,t) rfl q (by simp[hq]);exact⟨h1,by simpa using h2⟩
 tb:=by
  obtain⟨b1,b2,_⟩:=h.byt (s,t) (by simp);exact⟨b1,b2,h.len (s,t) (by simp),h.qs (s,t) (by simp)⟩
 ch:=fun d hd=>by omega
 sm:=fun v hv hk=>h.sm hT v hv fun p hp=>by have:=h.least p hp;simp only at this;omega
theorem BMid.skip{Dm:σ→Prop}{S:List σ}{s:σ}{t:List Int}{c:Nat}{Q:List (σ×List Int)}(h:BMid nx G Triv Dm s0 s t c S Q)(hk:nx s (c:Int)∈S∨Triv (nx s (c:Int))):BMid nx G Triv Dm s0 s t (c+1) S Q:=
 {h with
  bnd:=fun q hq=>by have:=h.bnd q hq;omega
  ch:=fun d hd=>by
   by_cases hdc:d=c
   ·subst hdc;exact hk
   exact h.ch d (by omega)}
theorem BMid.push{Dm:σ→Prop}{S:List σ}{s:σ}{t:List Int}{c:Nat}{Q:List (σ×List Int)}(hT:TrivOk nx G Triv)(h:BMid nx G Triv Dm s0 s t c S Q)(hc:c<256)(hn:nx s (c:Int)∉S)(ht: ¬Triv (nx s (c:Int)))(hd:Dm (nx s (c:Int))):
 BMid nx G Triv Dm s0 s t (c+1) (S++ [nx s (c:Int)]) (Q++ [(nx s (c:Int),t++ [(c:Int)])]):=by
 obtain⟨t1,t2,t3,t4⟩:=h.tb;have hkey:key (t++ [(c:Int)])=key t*257+(c+1):=by rw[key_snoc];simp
 have hsub: ∀x∈S,x∈S++ [nx s (c:Int)]:=fun x hx=>by simp[hx]
 refine⟨by simp[h.a],?_,?_,?_,?_,?_,?_,?_,?_,?_,?_,?_,?_⟩
 ·rw[List.nodup_append];exact⟨h.nd,by simp,fun x hx y hy=>by simp at hy;subst hy;intro he;subst he;exact hn hx⟩
 ·intro x hx;rcases List.mem_append.1 hx with hx|hx
  ·exact h.rng x hx
  simp at hx;subst hx;exact hd
 ·intro p hp;rcases List.mem_append.1 hp with hp|hp
  ·exact hsub _ (h.qs p hp)
  simp at hp;subst hp;simp
 ·intro p hp;rcases List.mem_append.1 hp with hp|hp
  ·exact h.byt p hp
  simp at hp;subst hp;refine⟨Byt.app.2 ⟨t1,by omega,by omega⟩,by rw[List.foldl_append,t2];rfl,fun u hu he=>?_⟩;refine Classical.byContradiction fun hlt=>?_;simp only at he hlt;rw[hkey]at hlt;by_cases hu0:u= []
  ·subst hu0;exact hn (he▸h.a)
  obtain⟨v,d,rfl⟩:=snoc_of hu0;obtain⟨hv,hdr⟩:=Byt.app.1 hu;rw[key_snoc]at hlt;have he':nx (v.foldl nx s0) d=nx s (c:Int):=by rw[←he,List.foldl_append];rfl
  have hkv:key v≤key t:=by omega
  by_cases hkt:key v=key t
  ·have hvt:=key_inj hv t1 hkt;rw[hvt,t2]at he';rw[hkt]at hlt;have hdc:d.toNat<c:=by omega
   rcases h.ch d.toNat hdc with hm|hm
   ·rw[show((d.toNat:Nat):Int)=d by omega,he']at hm;exact hn hm
   rw[show((d.toNat:Nat):Int)=d by omega,he']at hm;exact ht hm
  rcases h.sm v hv (by omega)with hcl|htr
  ·rcases hcl.2 d hdr.1 hdr.2 with hm|hm
   ·rw[he']at hm;exact hn hm
   rw[he']at hm;exact ht hm
  have:=hT.step _ d htr;rw[he']at this;exact ht this
 ·intro p hp;rw[List.length_append,List.length_singleton];rcases List.mem_append.1 hp with hp|hp
  ·have:=h.len p hp;omega
  simp at hp;subst hp;simp;omega
 ·have:=h.ql;simp only[List.length_append,List.length_singleton];omega
 ·intro z hz;rcases List.mem_append.1 hz with hz|hz
  ·rcases h.cl z hz with h1|⟨u,h1⟩|h1
   ·exact .inl h1
   ·exact .inr (.inl ⟨u,by simp[h1]⟩)
   exact .inr (.inr (h1.mono hsub))
  simp at hz;subst hz;exact .inr (.inl ⟨t++ [(c:Int)],by simp⟩)
 ·rw[List.map_append,List.pairwise_append];refine⟨h.srt,by simp,fun x hx y hy=>?_⟩;obtain⟨p,hp,rfl⟩:=List.mem_map.1 hx;simp at hy;subst hy;have:=(h.bnd p hp).2;rw[hkey];omega
 ·intro q hq;rcases List.mem_append.1 hq with hq|hq
  ·have:=h.bnd q hq;omega
  simp at hq;subst hq;simp only[hkey];omega
 ·exact⟨t1,t2,by simp;omega,hsub _ t4⟩
 ·intro d hd;by_cases hdc:d=c
  ·subst hdc;exact .inl (by simp)
  exact(h.ch d (by omega)).imp (hsub _) id
 exact fun v hv hk=>(h.sm v hv hk).imp (fun hc=>hc.mono hsub) id
theorem BMid.done{Dm:σ→Prop}{S:List σ}{s:σ}{t:List Int}{Q:List (σ×List Int)}(h:BMid nx G Triv Dm s0 s t 256 S Q)(hG: ¬G s):BInv nx G Triv Dm s0 S Q where
 a:=h.a
 nd:=h.nd
 rng:=h.rng
 qs:=h.qs
 byt:=h.byt
 len:=h.len
 ql:=by have:=h.ql;omega
 cl:=fun z hz=>by
  rcases h.cl z hz with rfl|h1
  ·refine .inr ⟨hG,fun c h0 h1=>?_⟩;have:=h.ch c.toNat (by omega);rwa[show((c.toNat:Nat):Int)=c by omega]at this
  exact h1
 srt:=h.srt
 bnd:=fun p hp q hq=>by
  have h1:=(h.bnd p (List.mem_of_mem_head? (by simp[hp]))).1;have h2:=(h.bnd q hq).2;omega
end
open Go Go.Eng
set_option maxRecDepth 100000
theorem wrap8{c:Nat}(h:c<256):IntKind.wrap .u8 (c:Int)=(c:Int):=by
 simp[IntKind.wrap,IntKind.signed,IntKind.bits];omega
open Go Go.Eng
set_option maxRecDepth 100000
section
variable {σ:Type}{nx:σ→Int→σ}{G:σ→Prop}
def LIn(nx:σ→Int→σ)(G:σ→Prop)(k:Nat)(s:σ):Prop:= ∃t,LG nx G s t∧t.length=k
def Dst(nx:σ→Int→σ)(G:σ→Prop)(s:σ)(k:Nat):Prop:=LIn nx G k s∧ ∀j,j<k→ ¬LIn nx G j s
theorem lg_cons{s:σ}{c:Int}{t:List Int}:LG nx G s (c::t)↔(0≤c∧c<256)∧LG nx G (nx s c) t:=by
 unfold LG;constructor
 ·rintro⟨h1,h2⟩;exact⟨h1 c (by simp),fun y hy=>h1 y (by simp[hy]),h2⟩
 rintro⟨h1,h2,h3⟩;refine⟨fun y hy=>?_,h3⟩;rcases List.mem_cons.1 hy with rfl|hy
 ·exact h1
 exact h2 y hy
theorem Dst.uniq{s:σ}{a b:Nat}(h:Dst nx G s a)(h':Dst nx G s b):a=b:=by
 rcases Nat.lt_trichotomy a b with hl|he|hl
 ·exact absurd h.1 (h'.2 a hl)
 ·exact he
 exact absurd h'.1 (h.2 b hl)
end
def nx2(rows:List (List Int))(p:Int×Int)(c:Int):Int×Int:=(nxt rows p.1 c,nxt rows p.2 c)
def Apt(rule:List Int)(p:Int×Int):Prop:=rule.getD p.1.toNat 0≠rule.getD p.2.toNat 0
def Alk(rows:List (List Int))(rule:List Int)(i k:Int):Prop:= ∀t,Byt t→rule.getD (t.foldl (nxt rows) i).toNat 0=rule.getD (t.foldl (nxt rows) k).toNat 0
section
variable {N:Nat}{rows:List (List Int)}{rule entry:List Int}
theorem Alk.refl(i:Int):Alk rows rule i i:=fun _ _=>rfl
theorem Alk.symm{i k:Int}(h:Alk rows rule i k):Alk rows rule k i:=fun t ht=>(h t ht).symm
theorem Alk.trans{i k l:Int}(h:Alk rows rule i k)(h':Alk rows rule k l):Alk rows rule i l:=fun t ht=>(h t ht).trans (h' t ht)
theorem Alk.step{i k c:Int}(h:Alk rows rule i k)(hc:0≤c∧c<256):Alk rows rule (nxt rows i c) (nxt rows k c):=fun t ht=>h (c::t) fun x hx=>by
 rcases List.mem_cons.1 hx with rfl|hx
 ·exact hc
 exact ht x hx
theorem Alk.rul{i k:Int}(h:Alk rows rule i k):rule.getD i.toNat 0=rule.getD k.toNat 0:=h [] fun x hx=>by simp at hx
theorem alk_of{R:Int→Int→Prop}{n:Nat}(hr: ∀i k,(0≤i∧i<(n:Int))→(0≤k∧k<(n:Int))→R i k→rule.getD i.toNat 0=rule.getD k.toNat 0)
 (hn: ∀i c,(0≤i∧i<(n:Int))→(0≤c∧c<256)→0≤nxt rows i c∧nxt rows i c<(n:Int))
 (hs: ∀i k c,(0≤i∧i<(n:Int))→(0≤k∧k<(n:Int))→R i k→0≤c∧c<256→R (nxt rows i c) (nxt rows k c)): ∀{i k:Int},(0≤i∧i<(n:Int))→(0≤k∧k<(n:Int))→R i k→Alk rows rule i k:=by
 intro i k hi hk h t
 induction t generalizing i k with
 |nil=>intro _;exact hr i k hi hk h
 |cons c t ih=>
   intro hb;have hc:=hb c (by simp);exact ih (hn i c hi hc) (hn k c hk hc) (hs i k c hi hk h hc) fun x hx=>hb x (by simp[hx])
end
inductive RG:List Int→Nat→Prop
 |nil:RG [] 0
 |old {P:List Int} {m:Nat} {x:Int}:RG P m→x∈P→RG (P++ [x]) m
 |new {P:List Int} {m:Nat}:RG P m→RG (P++ [(m:Int)]) (m+1)
theorem RG.mem{P:List Int}{m:Nat}(h:RG P m): ∀{x:Int},x∈P↔0≤x∧x<m:=by
 induction h with
 |nil=>intro x;simp
 |old _ hx ih=>
   intro y;rw[List.mem_append,ih];constructor
   ·rintro(h|h)
    ·exact h
    simp at h;subst h;exact ih.1 hx
   exact .inl
 | @new P m _ ih=>
   intro y;rw[List.mem_append,ih];simp;omega
theorem RG.le{P:List Int}{m:Nat}(h:RG P m):m≤P.length:=by
 induction h with
 |nil=>simp
 |old _ _ ih=>simp;omega
 |new _ ih=>simp;omega
theorem RG.first{P:List Int}{m:Nat}(h:RG P m)(hl:0<P.length):P[0]? =some 0∧1≤m:=by
 induction h with
 |nil=>simp at hl
 | @old P m x _ hx ih=>
   have hp:0<P.length:=List.length_pos_of_mem hx;rw[List.getElem?_append_left hp];exact ih hp
 | @new P m h ih=>
   by_cases hp:0<P.length
   ·rw[List.getElem?_append_left hp];exact⟨(ih hp).1,by omega⟩
   have:P= []:=List.length_eq_zero_iff.1 (by omega);subst this;have:=h.le;simp at this;subst this;exact⟨rfl,by omega⟩
theorem RG.uniq{P:List Int}{m:Nat}(h:RG P m): ∀{P':List Int} {m':Nat},RG P' m'→P.length=P'.length→(∀i k,i<P.length→k<P.length→(P[i]? =P[k]? ↔P'[i]? =P'[k]?))→P=P'∧m=m':=by
 have key: ∀{P P':List Int} {x y:Int},P.length=P'.length→(∀i k,i<(P++ [x]).length→k<(P++ [x]).length→((P++ [x])[i]? =(P++ [x])[k]? ↔(P'++ [y])[i]? =(P'++ [y])[k]?))→
  (∀i k,i<P.length→k<P.length→(P[i]? =P[k]? ↔P'[i]? =P'[k]?))∧ ∀k,k<P.length→(some x=P[k]? ↔some y=P'[k]?):=by
  intro P P' x y hl hh;refine⟨fun i k hi hk=>?_,fun k hk=>?_⟩
  ·have:=hh i k (by simp;omega) (by simp;omega);rwa[List.getElem?_append_left hi,List.getElem?_append_left hk,List.getElem?_append_left (hl▸hi),List.getElem?_append_left (hl▸hk)]at this
  have h1:=hh P.length k (by simp) (by simp;omega);have e1:(P++ [x])[P.length]? =some x:=List.getElem?_concat_length;have e2:(P'++ [y])[P.length]? =some y:=by rw[hl];exact List.getElem?_concat_length
  have e3:(P++ [x])[k]? =P[k]? :=List.getElem?_append_left hk;have e4:(P'++ [y])[k]? =P'[k]? :=List.getElem?_append_left (by omega);rwa[e1,e2,e3,e4]at h1
 induction h with
 |nil=>
   intro P' m' h' hl _
   cases h' with
   |nil=>exact⟨rfl,rfl⟩
   |old _ _=>simp at hl
   |new _=>simp at hl
 | @old P m x h hx ih=>
   intro P' m' h' hl hh;obtain⟨k,hk,hxk⟩:=List.getElem_of_mem hx
   cases h' with
   |nil=>simp at hl
   | @old P1 _ x1 h1 hx1=>
     have hl':P.length=P1.length:=by simpa using hl
     obtain⟨k1,k2⟩:=key hl' hh;obtain⟨rfl,rfl⟩:=ih h1 hl' k1;have:=(k2 k hk).1 (by rw[List.getElem?_eq_getElem hk,hxk]);rw[List.getElem?_eq_getElem hk,hxk]at this;obtain rfl:=Option.some.inj this;exact⟨rfl,rfl⟩
   | @new P1 m1 h1=>
     have hl':P.length=P1.length:=by simpa using hl
     obtain⟨k1,k2⟩:=key hl' hh;obtain⟨rfl,rfl⟩:=ih h1 hl' k1;have:=(k2 k hk).1 (by rw[List.getElem?_eq_getElem hk,hxk]);have hm:=List.mem_of_getElem? this.symm;have:=(h1.mem.1 hm);omega
 | @new P m h ih=>
   intro P' m' h' hl hh
   cases h' with
   |nil=>simp at hl
   | @old P1 _ x1 h1 hx1=>
     have hl':P.length=P1.length:=by simpa using hl
     obtain⟨k1,k2⟩:=key hl' hh;obtain⟨rfl,rfl⟩:=ih h1 hl' k1;obtain⟨k,hk,hxk⟩:=List.getElem_of_mem hx1;have:=(k2 k hk).2 (by rw[List.getElem?_eq_getElem hk,hxk]);have hm:=List.mem_of_getElem? this.symm;have:=(h.mem.1 hm);omega
   | @new P1 m1 h1=>
     have hl':P.length=P1.length:=by simpa using hl
     obtain⟨k1,k2⟩:=key hl' hh;obtain⟨rfl,rfl⟩:=ih h1 hl' k1;exact⟨rfl,rfl⟩
structure Cls(rows:List (List Int))(rule:List Int)(P:List Int)(m:Nat):Prop where
 rg:RG P m
 len:P.length=rows.length
 iff_: ∀i k:Nat,i<rows.length→k<rows.length→(P[i]? =P[k]? ↔Alk rows rule (i:Int) (k:Int))
theorem Cls.uniq{rows:List (List Int)}{rule P P':List Int}{m m':Nat}(h:Cls rows rule P m)(h':Cls rows rule P' m'):P=P'∧m=m':=
 h.rg.uniq h'.rg (h.len.trans h'.len.symm) fun i k hi hk=>(h.iff_ i k (h.len▸hi) (h.len▸hk)).trans (h'.iff_ i k (h.len▸hi) (h.len▸hk)).symm
open Go Go.Eng
set_option maxRecDepth 100000
structure FarSh(n:Nat)(out:List (List Int)):Prop where
 l:out.length=n
 r: ∀r∈out,r.length=n
def fv(out:List (List Int))(i k:Nat):Int:=(out.getD i []).getD k 0
theorem FarSh.get{n:Nat}{out:List (List Int)}{i k:Nat}(h:FarSh n out)(hi:i<n)(hk:k<n): ∃r,out[i]? =some r∧r.length=n∧r[k]? =some (fv out i k):=by
 have hl:i<out.length:=by rw[h.l];exact hi
 refine⟨out[i],List.getElem?_eq_getElem hl,h.r _ (List.getElem_mem hl),?_⟩;have hr:=h.r _ (List.getElem_mem hl);have hkl:k<out[i].length:=by omega
 unfold fv;rw[getD_of (List.getElem?_eq_getElem hl),getD_of (List.getElem?_eq_getElem hkl)];exact List.getElem?_eq_getElem hkl
theorem FarSh.set{n:Nat}{out:List (List Int)}{i k:Nat}{r:List Int}(h:FarSh n out)(hi:i<n)(hk:k<n)(hr:out[i]? =some r)(v:Int):
 FarSh n (out.set i (r.set k v))∧ ∀i' k',i'<n→k'<n→fv (out.set i (r.set k v)) i' k'=if i'=i∧k'=k then v else fv out i' k':=by
 have hrl:=h.r _ (List.mem_of_getElem? hr);have hil:i<out.length:=by rw[h.l];exact hi
 refine⟨⟨by rw[List.length_set];exact h.l,fun x hx=>?_⟩,fun i' k' hi' hk'=>?_⟩
 ·rcases List.mem_or_eq_of_mem_set hx with hx|rfl
  ·exact h.r x hx
  rw[List.length_set];exact hrl
 unfold fv;by_cases he:i'=i
 ·subst he;rw[getD_of (List.getElem?_set_self hil),getD_of hr];by_cases hk2:k'=k
  ·subst hk2;rw[if_pos ⟨rfl,rfl⟩];exact getD_of (List.getElem?_set_self (by omega))
  rw[if_neg (by omega),List.getD,List.getElem?_set_ne (by omega)];rfl
 have e:(out.set i (r.set k v)).getD i' []=out.getD i' []:=by
  rw[List.getD,List.getElem?_set_ne (by omega)];rfl
 rw[if_neg (by omega),e]
section
variable {N:Nat}{rows:List (List Int)}{rule entry:List Int}
structure FarR(rows:List (List Int))(rule:List Int)(L:Nat)(P:Nat→Nat→Prop)(out:List (List Int))(fresh:Bool):Prop where
 sh:FarSh rows.length out
 v: ∀i k:Nat,i<rows.length→k<rows.length→(∃d:Nat,d≤L∧fv out i k=(d:Int)∧Dst (nx2 rows) (Apt rule) ((i:Int),(k:Int)) d)∨
   (fv out i k=((L+1:Nat):Int)∧Dst (nx2 rows) (Apt rule) ((i:Int),(k:Int)) (L+1)∧fresh=true)∨
   (fv out i k= -1∧(∀d,d≤L→ ¬LIn (nx2 rows) (Apt rule) d ((i:Int),(k:Int)))∧(P i k→ ¬LIn (nx2 rows) (Apt rule) (L+1) ((i:Int),(k:Int))))
 f:fresh=true→ ∃i k:Nat,i<rows.length∧k<rows.length∧Dst (nx2 rows) (Apt rule) ((i:Int),(k:Int)) (L+1)
theorem FarR.congr{L:Nat}{P P':Nat→Nat→Prop}{out:List (List Int)}{fr:Bool}(h:FarR rows rule L P out fr)(hp: ∀i k,i<rows.length→k<rows.length→P' i k→P i k):FarR rows rule L P' out fr:=
 ⟨h.sh,fun i k hi hk=>(h.v i k hi hk).imp id fun q=>q.imp id fun⟨a,b,c⟩=>⟨a,b,fun x=>c (hp i k hi hk x)⟩,h.f⟩
end
open Go Go.Eng
set_option maxRecDepth 100000
theorem mget_mset_g{α β:Type}[BEq α][LawfulBEq α]{v:β}{k k':α}: ∀{m:List (α×β)},mget (mset m k v) k'=if(k==k')=true then some v else mget m k'
 | []=>by
   cases h:k==k'<;>simp[mget,mset,h]
 |e::m=>by
   have ih:=mget_mset_g (v:=v) (k:=k) (k':=k') (m:=m);by_cases h1:e.1=k
   ·have:mset (e::m) k v=(k,v)::m:=by simp[mset,List.findIdx?_cons,h1]
    rw[this];cases h:k==k'
    ·simp[mget,h,h1]
    simp[mget,h]
   have:mset (e::m) k v=e::mset m k v:=by
    unfold mset;rw[List.findIdx?_cons];have:(e.1==k)=false:=by simp[h1]
    rw[this];cases h:List.findIdx? (fun e=>e.1==k) m<;>simp
   rw[this];by_cases h2:e.1=k'
   ·subst h2;have:(k==e.1)=false:=by simp[Ne.symm h1]
    simp[mget,this]
   have e1:mget (e::mset m k v) k'=mget (mset m k v) k':=by
    have:(e.1==k')=false:=by simp[h2]
    simp[mget,this]
   have e2:mget (e::m) k'=mget m k':=by
    have:(e.1==k')=false:=by simp[h2]
    simp[mget,this]
   rw[e1,e2];exact ih
theorem mset_len{α β:Type}[BEq α]{v:β}{k:α}{m:List (α×β)}(h:mget m k=none):(mset m k v).length=m.length+1:=by
 have h1:m.find? (fun e=>e.1==k)=none:=by simpa[mget]using h
 have h2:m.findIdx? (fun e=>e.1==k)=none:=by
  rw[List.findIdx?_eq_none_iff];rw[List.find?_eq_none]at h1;intro x hx;simpa using h1 x hx
 simp[mset,h2]
structure PC(R:Nat→Nat→Prop)(i:Nat)(P:List Int)(m:Nat):Prop where
 rg:RG P m
 len:P.length=i
 iff_: ∀a b:Nat,a<i→b<i→(P[a]? =P[b]? ↔R a b)
structure Eqv(R:Nat→Nat→Prop):Prop where
 r: ∀a,R a a
 s: ∀a b,R a b→R b a
 t: ∀a b c,R a b→R b c→R a c
theorem PC.nil{R:Nat→Nat→Prop}:PC R 0 [] 0:=⟨.nil,rfl,fun a b ha=>by omega⟩
theorem PC.old{R:Nat→Nat→Prop}{i m k:Nat}{P:List Int}{p:Int}(hE:Eqv R)(h:PC R i P m)(hk:k<i)(hR:R i k)(hp:P[k]? =some p):PC R (i+1) (P++ [p]) m:=by
 refine⟨h.rg.old (List.mem_of_getElem? hp),by simp[h.len],fun a b ha hb=>?_⟩;have hl:=h.len;have top:(P++ [p])[i]? =some p:=by rw[←hl];exact List.getElem?_concat_length
 have low: ∀c,c<i→(P++ [p])[c]? =P[c]? :=fun c hc=>List.getElem?_append_left (by omega);by_cases h1:a=i
 ·subst h1;by_cases h2:b=a
  ·subst h2;exact⟨fun _=>hE.r _,fun _=>rfl⟩
  rw[top,low b (by omega),←hp,h.iff_ k b hk (by omega)];exact⟨fun q=>hE.t _ _ _ hR q,fun q=>hE.t _ _ _ (hE.s _ _ hR) q⟩
 by_cases h2:b=i
 ·subst h2;rw[top,low a (by omega),←hp,h.iff_ a k (by omega) hk];exact⟨fun q=>hE.t _ _ _ q (hE.s _ _ hR),fun q=>hE.t _ _ _ q hR⟩
 rw[low a (by omega),low b (by omega)];exact h.iff_ a b (by omega) (by omega)
theorem PC.new{R:Nat→Nat→Prop}{i m:Nat}{P:List Int}(hE:Eqv R)(h:PC R i P m)(hR: ∀k,k<i→ ¬R i k):PC R (i+1) (P++ [(m:Int)]) (m+1):=by
 refine⟨h.rg.new,by simp[h.len],fun a b ha hb=>?_⟩;have hl:=h.len;have top:(P++ [(m:Int)])[i]? =some (m:Int):=by rw[←hl];exact List.getElem?_concat_length
 have low: ∀c,c<i→(P++ [(m:Int)])[c]? =P[c]? :=fun c hc=>List.getElem?_append_left (by omega)
 have no: ∀c,c<i→P[c]? ≠some (m:Int):=fun c hc hq=>by
  have:=h.rg.mem.1 (List.mem_of_getElem? hq);omega
 by_cases h1:a=i
 ·subst h1;by_cases h2:b=a
  ·subst h2;exact⟨fun _=>hE.r _,fun _=>rfl⟩
  rw[top,low b (by omega)];exact⟨fun q=>absurd q.symm (no b (by omega)),fun q=>absurd q (hR b (by omega))⟩
 by_cases h2:b=i
 ·subst h2;rw[top,low a (by omega)];exact⟨fun q=>absurd q (no a (by omega)),fun q=>absurd (hE.s _ _ q) (hR a (by omega))⟩
 rw[low a (by omega),low b (by omega)];exact h.iff_ a b (by omega) (by omega)
theorem alk_eqv{rows:List (List Int)}{rule:List Int}:Eqv (fun a b=>Alk rows rule (a:Int) (b:Int)):=⟨fun _=> .refl _,fun _ _ h=>h.symm,fun _ _ _ h h'=>h.trans h'⟩
theorem PC.cls{rows:List (List Int)}{rule P:List Int}{m:Nat}(h:PC (fun a b=>Alk rows rule (a:Int) (b:Int)) rows.length P m):Cls rows rule P m:=⟨h.rg,h.len,h.iff_⟩
open Go Go.Eng
set_option maxRecDepth 100000
theorem contains_spec{N:Nat}{xs:List Int}{x:Int}(hN:4294967296≤N)(hl:xs.length<4294967296):F_84 N xs x=some (decide (x∈xs)):=by
 unfold F_84 F_34
 rw[loop_find xs (fun y=>x==y) (fun i=>(i:Int)) (by omega) (fun i y hy=>by
  have hi:=lt_len hy;unfold F_89;simp only[show((i:Int)<(xs.length:Int)) by omega,decide_true,if_true,idx_of hy,bind,Option.bind_some];rw[w64_succ (by omega)]) (by unfold F_89;simp)]
 cases h:xs.findIdx? _ with
 |none=>
   have:x∉xs:=fun hm=>by
    have:=List.findIdx?_eq_none_iff.1 h x hm;simp at this
   simp[this]
 |some k=>
   obtain⟨hk,hp,_⟩:=List.findIdx?_eq_some_iff_getElem.1 h;have hx:x=xs[k]:=by simpa using hp
   have:x∈xs:=hx▸List.getElem_mem hk;simp[this]
def lat(p:Nat):List (Int×Int):=(List.range 256).map fun(c:Nat)=>((p:Int),(c:Int))
theorem lat_len(p:Nat):(lat p).length=256:=by simp[lat]
theorem mem_lat{p c:Nat}(h:c<256):((p:Int),(c:Int))∈lat p:=List.mem_map.2 ⟨c,List.mem_range.2 h,rfl⟩
theorem lat_mem{p:Nat}{t:Int×Int}(h:t∈lat p): ∃c:Nat,c<256∧t=((p:Int),(c:Int)):=by
 obtain⟨c,h1,h2⟩:=List.mem_map.1 h;exact⟨c,List.mem_range.1 h1,h2.symm⟩
theorem later_spec{N p:Nat}{rows:List (List Int)}{rule entry part:List Int}{B:List (List (List Int))}{list:List (List Int)}{work:List (Int×Int)}(hN:4294967296≤N)(hw:work.length+256≤4294967296):
 F_19 N rows rule entry B part list work (p:Int)=some (work++lat p):=by
 unfold F_19
 obtain⟨s,h1,h2⟩:=loop_inv (f:=fun s=>F_58 N (p:Int) s.1 s.2) (fun c (s:List (Int×Int))=>(s,(c:Int))) id (List.range 256)
  (fun c s=>s=work++(List.range c).map fun(c:Nat)=>((p:Int),(c:Int))) (N:=N) (s:=work) (by simp;omega) (by simp)
  (fun c y s hx hI=>by
   obtain⟨hc,rfl⟩:=range_get hx;refine⟨s++ [((p:Int),(y:Int))],?_,by rw[hI,List.range_succ,List.map_append,List.append_assoc];rfl⟩;unfold F_58;simp only[show((y:Int)<256) by omega,decide_true,if_true,wrap8 hc,bind];rw[app_eq (by rw[hI];simp;omega)];simp only[Option.bind_some];rw[w64_succ (by omega)])
  (fun s _=>by unfold F_58;simp)
 rw[show iterO N (fun s=>F_58 N (p:Int) s.1 s.2) (work,0)=_ from h1];rw[List.length_range]at h2;simp only[bind,Option.bind_some,id,h2];rfl
def pt(part:List Int)(s:Int):Int:=part.getD s.toNat 0
theorem pt_idx{part:List Int}{n:Nat}{s:Int}(hl:part.length=n)(h:0≤s∧s<n):idx part s=some (pt part s):=by
 have hsl:s.toNat<part.length:=by omega
 unfold pt;rw[getD_of (List.getElem?_eq_getElem hsl)];exact idx_int h.1 hsl
theorem pt_set{part:List Int}{n:Nat}{s v:Int}(hl:part.length=n)(h:0≤s∧s<n): ∃part',setI part s v=some part'∧part'.length=n∧ ∀x:Int,0≤x∧x<(n:Int)→pt part' x=if x=s then v else pt part x:=by
 have hsl:s.toNat<part.length:=by omega
 refine⟨part.set s.toNat v,setI_int h.1 hsl,by rw[List.length_set];exact hl,fun x hx=>?_⟩;unfold pt;by_cases he:x=s
 ·subst he;rw[if_pos rfl];exact getD_of (List.getElem?_set_self hsl)
 rw[if_neg he,List.getD,List.getElem?_set_ne (by omega)];rfl
structure PSt(n K:Nat)(part:List Int)(list:List (List Int)):Prop where
 pl:part.length=n
 pr: ∀s:Int,0≤s∧s<K→0≤pt part s∧pt part s<list.length
 ls: ∀p:Nat,p<list.length→Acc n (list.getD p [])∧list.getD p []≠ []∧ ∀s:Int,s∈list.getD p []↔(0≤s∧s<K)∧pt part s=(p:Int)
theorem PSt.many{n K:Nat}{part:List Int}{list:List (List Int)}(h:PSt n K part list):list.length≤n:=by
 have hA:Acc n ((List.range list.length).map fun p=>(list.getD p []).headD 0):=by
  have hd: ∀p,p<list.length→(list.getD p []).headD 0∈list.getD p []:=fun p hp=>by
   have:=(h.ls p hp).2.1
   cases hh:list.getD p []with
   |nil=>exact absurd hh this
   |cons x xs=>simp
  refine⟨?_,fun x hx=>?_⟩
  ·unfold List.Nodup;rw[List.pairwise_map];refine List.Pairwise.imp_of_mem (fun{p q} hp hq hne he=>hne ?_) (List.nodup_range (n:=list.length));have h1:=((h.ls p (List.mem_range.1 hp)).2.2 _).1 (hd p (List.mem_range.1 hp));have h2:=((h.ls q (List.mem_range.1 hq)).2.2 _).1 (hd q (List.mem_range.1 hq));rw[he]at h1;have:=h1.2.symm.trans h2.2;omega
  obtain⟨p,hp,rfl⟩:=List.mem_map.1 hx;exact(h.ls p (List.mem_range.1 hp)).1.rng _ (hd p (List.mem_range.1 hp))
 have:=hA.len;simpa using this
theorem Acc.filter{n:Nat}{l:List Int}(h:Acc n l)(p:Int→Bool):Acc n (l.filter p):=⟨h.nd.filter p,fun x hx=>h.rng x ((List.mem_filter.1 hx).1)⟩
section
variable {N:Nat}{rows:List (List Int)}{rule entry:List Int}
theorem split_loop{frm l:List Int}(hN:4294967296≤N)(hf:frm.length<4294967296)(hl:l.length<4294967296):
 iterO N (fun s=>F_35 N frm l s.1 s.2.1 s.2.2) (0,[],[])=some (l.filter (fun x=>decide (x∈frm)),l.filter (fun x=> !decide (x∈frm))):=by
 obtain⟨s,h1,h2,h3⟩:=loop_inv (f:=fun s=>F_35 N frm l s.1 s.2.1 s.2.2) (fun i (s:List Int×List Int)=>((i:Int),s.1,s.2)) (fun s=>(s.1,s.2)) l
  (fun i s=>s.1=(l.take i).filter (fun x=>decide (x∈frm))∧s.2=(l.take i).filter (fun x=> !decide (x∈frm))) (N:=N) (s:=([],[])) (by omega) (by simp)
  (fun i x s hx hI=>by
   obtain⟨a,b⟩:=s;obtain⟨k1,k2⟩:=hI;simp only at k1 k2;have hi:=lt_len hx;have la:a.length≤i:=by rw[k1];exact Nat.le_trans (List.length_filter_le ..) (by rw[List.length_take];omega)
   have lb:b.length≤i:=by rw[k2];exact Nat.le_trans (List.length_filter_le ..) (by rw[List.length_take];omega)
   have ht:l.take (i+1)=l.take i++ [x]:=by rw[List.take_add_one,hx];rfl
   by_cases hm:x∈frm
   ·refine⟨(a++ [x],b),?_,?_,?_⟩
    ·unfold F_35;simp only[show((i:Int)<(l.length:Int)) by omega,decide_true,if_true,idx_of hx,contains_spec hN hf,hm,bind,Option.bind_some];rw[app_eq (by simp;omega)];simp only[Option.bind_some];rw[w64_succ (by omega)]
    ·rw[ht,List.filter_append,←k1];simp[hm]
    rw[ht,List.filter_append,←k2];simp[hm]
   refine⟨(a,b++ [x]),?_,?_,?_⟩
   ·unfold F_35;simp only[show((i:Int)<(l.length:Int)) by omega,decide_true,if_true,idx_of hx,contains_spec hN hf,hm,decide_false,Bool.false_eq_true,if_false,bind,Option.bind_some];rw[app_eq (by simp;omega)];simp only[Option.bind_some];rw[w64_succ (by omega)]
   ·rw[ht,List.filter_append,←k1];simp[hm]
   rw[ht,List.filter_append,←k2];simp[hm])
  (fun s _=>by unfold F_35;simp)
 rw[List.take_length]at h2 h3;rw[show iterO N (fun s=>F_35 N frm l s.1 s.2.1 s.2.2) (0,[],[])=_ from h1,h2,h3]
theorem split_put{n:Nat}{part b:List Int}{list:List (List Int)}(hN:4294967296≤N)(hl:part.length=n)(hb:Acc n b)(hn:n<4294967296):
 ∃part',iterO N (fun s=>F_40 N list b s.1 s.2) (part,0)=some part'∧part'.length=n∧ ∀x,0≤x∧x<(n:Int)→pt part' x=if x∈b then(list.length:Int)else pt part x:=by
 have hbl:=hb.len
 obtain⟨s,h1,h2,h3⟩:=loop_inv (f:=fun s=>F_40 N list b s.1 s.2) (fun i (s:List Int)=>(s,(i:Int))) id b
  (fun i s=>s.length=n∧ ∀x,0≤x∧x<(n:Int)→pt s x=if x∈b.take i then(list.length:Int)else pt part x) (N:=N) (s:=part) (by omega) ⟨hl,fun x _=>by simp⟩
  (fun i x s hx hI=>by
   obtain⟨k1,k2⟩:=hI;have hi:=lt_len hx;have hxr:=hb.rng x (List.mem_of_getElem? hx);obtain⟨s',q1,q2,q3⟩:=pt_set (v:=(list.length:Int)) k1 hxr;refine⟨s',?_,q2,fun y hy=>?_⟩
   ·unfold F_40;simp only[show((i:Int)<(b.length:Int)) by omega,decide_true,if_true,idx_of hx,pt_idx k1 hxr,q1,bind,Option.bind_some];rw[w64_succ (by omega)]
   have ht:b.take (i+1)=b.take i++ [x]:=by rw[List.take_add_one,hx];rfl
   rw[q3 y hy,ht,k2 y hy];by_cases he:y=x
   ·subst he;simp
   simp[he])
  (fun s _=>by unfold F_40;simp)
 rw[List.take_length]at h3;exact⟨s,h1,h2,h3⟩
theorem PSt.cut{n p:Nat}{part part' a b:List Int}{list:List (List Int)}(h:PSt n n part list)(hp:p<list.length)(ha:Acc n a)(hb:Acc n b)(hae:a≠ [])(hbe:b≠ [])(hab: ∀x,x∈list.getD p []↔x∈a∨x∈b)(hdj: ∀x,x∈a→x∉b)
 (hl:part'.length=n) (hpt: ∀x,0≤x∧x<(n:Int)→pt part' x=if x∈b then(list.length:Int)else pt part x):PSt n n part' (list.set p a++ [b]):=by
 have hbp: ∀x,x∈b→(0≤x∧x<(n:Int))∧pt part x=(p:Int):=fun x hx=>((h.ls p hp).2.2 x).1 ((hab x).2 (.inr hx));refine⟨hl,fun s hs=>?_,fun q hq=>?_⟩
 ·rw[hpt s hs];simp only[List.length_append,List.length_set,List.length_singleton];have:=h.pr s hs;split<;>omega
 simp only[List.length_append,List.length_set,List.length_singleton]at hq;by_cases h1:q=list.length
 ·subst h1
  have e:(list.set p a++ [b]).getD list.length []=b:=by
   rw[List.getD,show list.length=(list.set p a).length by simp,List.getElem?_concat_length];rfl
  rw[e];refine⟨hb,hbe,fun s=>⟨fun hs=>⟨(hbp s hs).1,by rw[hpt s (hbp s hs).1,if_pos hs]⟩,fun⟨hs,he⟩=>?_⟩⟩;rw[hpt s hs]at he;refine Classical.byContradiction fun hn=>?_;rw[if_neg hn]at he;have:=h.pr s hs;omega
 have hq':q<list.length:=by omega
 have e0:(list.set p a++ [b]).getD q []=(list.set p a).getD q []:=by
  rw[List.getD,List.getD,List.getElem?_append_left (by simpa using hq')]
 rw[e0];by_cases h2:q=p
 ·subst h2;rw[getD_of (List.getElem?_set_self hp)];refine⟨ha,hae,fun s=>⟨fun hs=>?_,fun⟨hs,he⟩=>?_⟩⟩
  ·have hh:=((h.ls q hp).2.2 s).1 ((hab s).2 (.inl hs));exact⟨hh.1,by rw[hpt s hh.1,if_neg (hdj s hs)];exact hh.2⟩
  rw[hpt s hs]at he;by_cases hsb:s∈b
  ·rw[if_pos hsb]at he;omega
  rw[if_neg hsb]at he;exact((hab s).1 (((h.ls q hp).2.2 s).2 ⟨hs,he⟩)).resolve_right hsb
 have e1:(list.set p a).getD q []=list.getD q []:=by
  rw[List.getD,List.getElem?_set_ne (by omega)];rfl
 rw[e1];refine⟨(h.ls q hq').1,(h.ls q hq').2.1,fun s=>?_⟩;rw[(h.ls q hq').2.2 s];constructor
 ·rintro⟨hs,he⟩;refine⟨hs,?_⟩;rw[hpt s hs,if_neg (fun hb'=>?_),he];have:=(hbp s hb').2;omega
 rintro⟨hs,he⟩;refine⟨hs,?_⟩;rw[hpt s hs]at he;by_cases hsb:s∈b
 ·rw[if_pos hsb]at he;omega
 rwa[if_neg hsb]at he
theorem split_spec{n p:Nat}{part frm:List Int}{B:List (List (List Int))}{list:List (List Int)}{work:List (Int×Int)}(hN:4294967296≤N)(hn:n<4294967296)(hP:PSt n n part list)(hp:p<list.length)(hf:frm.length<4294967296)(hw:work.length+256≤4294967296):
 ∃part' list' work',F_11 N rows rule entry B part list work (p:Int) frm=some (part',list',work')∧PSt n n part' list'∧
   (∀s:Int,0≤s∧s<(n:Int)→pt part' s=pt part s∨(pt part s=(p:Int)∧pt part' s=(list.length:Int)))∧
   (∀a b:Int,0≤a∧a<(n:Int)→0≤b∧b<(n:Int)→(pt part' a=pt part' b↔pt part a=pt part b∧(pt part a=(p:Int)→(a∈frm↔b∈frm))))∧
   ((list'.length=list.length∧work'=work)∨(list'.length=list.length+1∧work'=work++lat list.length)):=by
 obtain⟨hA,hne,hmem⟩:=hP.ls p hp;have hml:=hP.many;have hAl:=hA.len;have gi:list[p]? =some (list.getD p []):=by rw[getD_of (List.getElem?_eq_getElem hp)];exact List.getElem?_eq_getElem hp
 generalize hl:list.getD p []=l at*;have hlp:=split_loop (N:=N) (frm:=frm) (l:=l) hN hf (by omega);generalize ha:l.filter (fun x=>decide (x∈frm))=a at hlp;generalize hb:l.filter (fun x=> !decide (x∈frm))=b at hlp;have ma: ∀x,x∈a↔x∈l∧x∈frm:=by intro x;rw[←ha];simp
 have mb: ∀x,x∈b↔x∈l∧x∉frm:=by intro x;rw[←hb];simp
 have hAa:Acc n a:=ha▸hA.filter _;have hAb:Acc n b:=hb▸hA.filter _;have hal:=hAa.len;have hbl:=hAb.len
 have e0: ∀(r:Option (List Int×List (List Int)×List (Int×Int))),(if((if((a.length:Int)==0)=true then true else(b.length:Int)==0))=true then some (part,list,work)else
  (let ab:=if(a.length:Int)<(b.length:Int)then(b,a)else(a,b)
   (setI list (p:Int) ab.1).bind fun x=>(app x [ab.2]).bind fun x=>(iterO N (fun s=>F_40 N list ab.2 s.1 s.2) (part,0)).bind fun y=>(F_19 N rows rule entry B y x work (list.length:Int)).bind fun z=>some (y,x,z)))=r→
  F_11 N rows rule entry B part list work (p:Int) frm=r:=by
  intro r hr;rw[←hr];unfold F_11;simp only[idx_of gi,bind,Option.bind_some];rw[hlp];simp only[Option.bind_some];cases h1:(a.length:Int)==0
  ·simp only[Bool.false_eq_true,if_false,Option.bind_some];cases h2:(b.length:Int)==0
   ·simp only[Bool.false_eq_true,if_false];by_cases h3:(a.length:Int)<(b.length:Int)
    ·simp only[h3,decide_true,if_true,Option.bind_some]
    simp only[h3,decide_false,Bool.false_eq_true,if_false,Option.bind_some]
   simp only[if_true]
  simp only[if_true,Option.bind_some]
 by_cases h0:a= []∨b= []
 ·refine⟨part,list,work,e0 _ ?_,hP,fun s _=> .inl rfl,fun x y hx hy=>⟨fun he=>⟨he,fun hxp=>?_⟩,fun q=>q.1⟩,.inl ⟨rfl,rfl⟩⟩
  ·rw[if_pos];rcases h0 with h0|h0<;>simp[h0]
  have hxl:=(hmem x).2 ⟨hx,hxp⟩;have hyl:=(hmem y).2 ⟨hy,he▸hxp⟩;rcases h0 with h0|h0
  ·have nx:x∉frm:=fun q=>by have:=(ma x).2 ⟨hxl,q⟩;rw[h0]at this;simp at this
   have ny:y∉frm:=fun q=>by have:=(ma y).2 ⟨hyl,q⟩;rw[h0]at this;simp at this
   exact⟨fun q=>absurd q nx,fun q=>absurd q ny⟩
  have nx:x∈frm:=Classical.byContradiction fun q=>by have:=(mb x).2 ⟨hxl,q⟩;rw[h0]at this;simp at this
  have ny:y∈frm:=Classical.byContradiction fun q=>by have:=(mb y).2 ⟨hyl,q⟩;rw[h0]at this;simp at this
  exact⟨fun _=>ny,fun _=>nx⟩
 have hae:a≠ []:=fun q=>h0 (.inl q);have hbe:b≠ []:=fun q=>h0 (.inr q)
 have hc1:(if((a.length:Int)==0)=true then true else(b.length:Int)==0)=false:=by
  have h1:((a.length:Int)==0)=false:=by simpa using hae
  have h2:((b.length:Int)==0)=false:=by simpa using hbe
  rw[h1,h2];rfl
 have go: ∀a' b':List Int,(if(a.length:Int)<(b.length:Int)then(b,a)else(a,b))=(a',b')→Acc n a'→Acc n b'→a'≠ []→b'≠ []→(∀x,x∈l↔x∈a'∨x∈b')→(∀x,x∈a'→x∉b')→(∀x y,x∈l→y∈l→((x∈b'↔y∈b')↔(x∈frm↔y∈frm)))→
  ∃part' list' work',F_11 N rows rule entry B part list work (p:Int) frm=some (part',list',work')∧PSt n n part' list'∧
    (∀s:Int,0≤s∧s<(n:Int)→pt part' s=pt part s∨(pt part s=(p:Int)∧pt part' s=(list.length:Int)))∧
    (∀a b:Int,0≤a∧a<(n:Int)→0≤b∧b<(n:Int)→(pt part' a=pt part' b↔pt part a=pt part b∧(pt part a=(p:Int)→(a∈frm↔b∈frm))))∧
    ((list'.length=list.length∧work'=work)∨(list'.length=list.length+1∧work'=work++lat list.length)):=by
  intro a' b' hab hAa' hAb' hae' hbe' hun hdj hiff;obtain⟨part',q1,q2,q3⟩:=split_put (N:=N) (list:=list) hN hP.pl hAb' hn;refine⟨part',list.set p a'++ [b'],work++lat list.length,e0 _ ?_,hP.cut hp hAa' hAb' hae' hbe' (by rw[hl];exact hun) hdj q2 q3,fun s hs=>?_,fun x y hx hy=>?_,.inr ⟨by simp,rfl⟩⟩
  ·simp only[hc1,Bool.false_eq_true,if_false,hab];rw[setI_nat hp];simp only[Option.bind_some];rw[app_eq (by simp;omega)];simp only[Option.bind_some];rw[q1];simp only[Option.bind_some];rw[later_spec hN hw];rfl
  ·rw[q3 s hs];by_cases hsb:s∈b'
   ·rw[if_pos hsb];exact .inr ⟨((hmem s).1 ((hun s).2 (.inr hsb))).2,rfl⟩
   rw[if_neg hsb];exact .inl rfl
  have px:=hP.pr x hx;have py:=hP.pr y hy;have bx:x∈b'→pt part x=(p:Int):=fun q=>((hmem x).1 ((hun x).2 (.inr q))).2;have by_:y∈b'→pt part y=(p:Int):=fun q=>((hmem y).1 ((hun y).2 (.inr q))).2;rw[q3 x hx,q3 y hy];by_cases h1:pt part x=pt part y
  ·by_cases h2:pt part x=(p:Int)
   ·have hxl:=(hmem x).2 ⟨hx,h2⟩;have hyl:=(hmem y).2 ⟨hy,h1▸h2⟩;have hh:=hiff x y hxl hyl;by_cases c1:x∈b'<;>by_cases c2:y∈b'<;>simp only[c1,c2,if_true,if_false,true_iff,iff_true,false_iff,iff_false,not_true]at hh ⊢
    ·exact⟨h1,fun _=>by simpa using hh⟩
    ·refine⟨fun q=>by omega,fun q=>?_⟩;exact absurd (q.2 h2) (by simpa using hh)
    ·refine⟨fun q=>by omega,fun q=>?_⟩;exact absurd (q.2 h2) (by simpa using hh)
    exact⟨fun q=>⟨h1,fun _=>by simpa using hh⟩,fun q=>h1⟩
   have n1:x∉b':=fun q=>h2 (bx q);have n2:y∉b':=fun q=>h2 (h1.trans (by_ q));rw[if_neg n1,if_neg n2];exact⟨fun q=>⟨q,fun q'=>absurd q' h2⟩,fun q=>q.1⟩
  constructor
  ·intro q;exfalso;split at q<;>split at q
   ·rename_i c1 c2;exact h1 ((bx c1).trans (by_ c2).symm)
   ·omega
   ·omega
   exact h1 q
  exact fun q=>absurd q.1 h1
 by_cases hlt:(a.length:Int)<(b.length:Int)
 ·refine go b a (by rw[if_pos hlt]) hAb hAa hbe hae (fun x=>?_) (fun x hx hx'=>((mb x).1 hx).2 ((ma x).1 hx').2) (fun x y hx hy=>?_)
  ·rw[ma,mb];by_cases q:x∈frm<;>simp[q]
  rw[ma,ma];simp[hx,hy]
 refine go a b (by rw[if_neg hlt]) hAa hAb hae hbe (fun x=>?_) (fun x hx hx'=>((mb x).1 hx').2 ((ma x).1 hx).2) (fun x y hx hy=>?_)
 ·rw[ma,mb];by_cases q:x∈frm<;>simp[q]
 rw[mb,mb];simp only[hx,hy,true_and];exact Decidable.not_iff_not
end
open Go Go.Eng
set_option maxRecDepth 100000
def bv(B:List (List (List Int)))(y c:Nat):List Int:=(B.getD y []).getD c []
structure BackOk(rows:List (List Int))(D:Nat→Nat→Prop)(B:List (List (List Int))):Prop where
 l:B.length=rows.length
 w: ∀r∈B,r.length=256
 m: ∀y c:Nat,y<rows.length→c<256→Acc rows.length (bv B y c)∧ ∀i:Int,i∈bv B y c↔ ∃j:Nat,i=(j:Int)∧j<rows.length∧D j c∧nxt rows (j:Int) (c:Int)=(y:Int)
theorem bv_rep{n m y c:Nat}(hy:y<n)(hc:c<m):bv (List.replicate n (List.replicate m [])) y c= []:=by
 simp[bv,List.getD,hy,hc]
theorem BackOk.get{rows:List (List Int)}{D:Nat→Nat→Prop}{B:List (List (List Int))}{y c:Nat}(h:BackOk rows D B)(hy:y<rows.length)(hc:c<256): ∃r,B[y]? =some r∧r.length=256∧r[c]? =some (bv B y c):=by
 have hl:y<B.length:=by rw[h.l];exact hy
 have hw:=h.w _ (List.getElem_mem hl);have hcl:c<B[y].length:=by omega
 refine⟨B[y],List.getElem?_eq_getElem hl,hw,?_⟩;unfold bv;rw[getD_of (List.getElem?_eq_getElem hl),getD_of (List.getElem?_eq_getElem hcl)];exact List.getElem?_eq_getElem hcl
theorem BackOk.congr{rows:List (List Int)}{D D':Nat→Nat→Prop}{B:List (List (List Int))}(h:BackOk rows D B)(hd: ∀j c,j<rows.length→c<256→(D j c↔D' j c)):BackOk rows D' B:=
 ⟨h.l,h.w,fun y c hy hc=>⟨(h.m y c hy hc).1,fun i=>by
  rw[(h.m y c hy hc).2 i];constructor
  ·rintro⟨j,a,b,d,e⟩;exact⟨j,a,b,(hd j c b hc).1 d,e⟩
  rintro⟨j,a,b,d,e⟩;exact⟨j,a,b,(hd j c b hc).2 d,e⟩⟩⟩
theorem BackOk.add{rows:List (List Int)}{D:Nat→Nat→Prop}{B:List (List (List Int))}{i c y:Nat}{r:List (List Int)}(h:BackOk rows D B)(hi:i<rows.length)(hc:c<256)(hy:y<rows.length)(hn:nxt rows (i:Int) (c:Int)=(y:Int))(hD: ¬D i c)(hr:B[y]? =some r):
 BackOk rows (fun a b=>D a b∨(a=i∧b=c)) (B.set y (r.set c (bv B y c++ [(i:Int)]))):=by
 have hrw:=h.w _ (List.mem_of_getElem? hr);have hyl:=lt_len hr
 have hv: ∀y' c',y'<rows.length→c'<256→bv (B.set y (r.set c (bv B y c++ [(i:Int)]))) y' c'=if y'=y∧c'=c then bv B y c++ [(i:Int)]else bv B y' c':=by
  intro y' c' hy' hc';by_cases h1:y'=y
  ·subst h1;by_cases h2:c'=c
   ·subst h2;rw[if_pos ⟨rfl,rfl⟩,bv,getD_of (List.getElem?_set_self hyl),getD_of (List.getElem?_set_self (by omega))]
   rw[if_neg (by omega),bv,getD_of (List.getElem?_set_self hyl),List.getD,List.getElem?_set_ne (by omega),bv,getD_of hr];rfl
  have e:(B.set y (r.set c (bv B y c++ [(i:Int)]))).getD y' []=B.getD y' []:=by
   rw[List.getD,List.getElem?_set_ne (by omega)];rfl
  rw[if_neg (by omega),bv,e];rfl
 refine⟨by rw[List.length_set];exact h.l,fun x hx=>?_,fun y' c' hy' hc'=>?_⟩
 ·rcases List.mem_or_eq_of_mem_set hx with hx|rfl
  ·exact h.w x hx
  rw[List.length_set];exact hrw
 rw[hv y' c' hy' hc'];obtain⟨hA,hm⟩:=h.m y' c' hy' hc';by_cases h1:y'=y∧c'=c
 ·obtain⟨rfl,rfl⟩:=h1;rw[if_pos ⟨rfl,rfl⟩]
  have hni:(i:Int)∉bv B y' c':=fun q=>by
   obtain⟨j,j1,_,j2,_⟩:=(hm _).1 q;obtain rfl:j=i:=by omega
   exact hD j2
  refine⟨?_,fun x=>?_⟩
  ·have:=hA.ins (x:=(i:Int)) ⟨by omega,by omega⟩;rwa[show ins (bv B y' c') (i:Int)=bv B y' c'++ [(i:Int)] by rw[ins,if_neg hni]]at this
  rw[List.mem_append,hm x];constructor
  ·rintro(⟨j,a,b,d,e⟩|q)
   ·exact⟨j,a,b,.inl d,e⟩
   simp at q;exact⟨i,q,hi,.inr ⟨rfl,rfl⟩,hn⟩
  rintro⟨j,a,b,d,e⟩;rcases d with d|⟨rfl,_⟩
  ·exact .inl ⟨j,a,b,d,e⟩
  exact .inr (by simp[a])
 rw[if_neg h1];refine⟨hA,fun x=>?_⟩;rw[hm x];constructor
 ·rintro⟨j,a,b,d,e⟩;exact⟨j,a,b,.inl d,e⟩
 rintro⟨j,a,b,d,e⟩;rcases d with d|⟨rfl,rfl⟩
 ·exact⟨j,a,b,d,e⟩
 rw[hn]at e;exact absurd ⟨by omega,rfl⟩ h1
theorem PSt.addOld{n K p:Nat}{part part':List Int}{list:List (List Int)}(h:PSt n K part list)(hK:K<n)(hp:p<list.length)(hl:part'.length=n)(hpt: ∀x:Int,0≤x∧x<(n:Int)→pt part' x=if x=(K:Int)then(p:Int)else pt part x):
 PSt n (K+1) part' (list.set p (list.getD p []++ [(K:Int)])):=by
 refine⟨hl,fun s hs=>?_,fun q hq=>?_⟩
 ·rw[hpt s (by omega),List.length_set];by_cases he:s=(K:Int)
  ·rw[if_pos he];omega
  rw[if_neg he];exact h.pr s (by omega)
 rw[List.length_set]at hq;obtain⟨hA,hne,hm⟩:=h.ls q hq;by_cases h1:q=p
 ·subst h1;rw[getD_of (List.getElem?_set_self hp)];have hni:(K:Int)∉list.getD q []:=fun hq'=>by have:=((hm _).1 hq').1;omega
  refine⟨?_,by simp,fun s=>?_⟩
  ·have:=hA.ins (x:=(K:Int)) ⟨by omega,by omega⟩;rwa[show ins (list.getD q []) (K:Int)=list.getD q []++ [(K:Int)] by rw[ins,if_neg hni]]at this
  rw[List.mem_append,hm s];constructor
  ·rintro(⟨a,b⟩|a)
   ·exact⟨by omega,by rw[hpt s (by omega),if_neg (by omega)];exact b⟩
   simp at a;subst a;exact⟨by omega,by rw[hpt _ (by omega),if_pos rfl]⟩
  rintro⟨a,b⟩;by_cases he:s=(K:Int)
  ·exact .inr (by simp[he])
  rw[hpt s (by omega),if_neg he]at b;exact .inl ⟨by omega,b⟩
 have e:(list.set p (list.getD p []++ [(K:Int)])).getD q []=list.getD q []:=by
  rw[List.getD,List.getElem?_set_ne (by omega)];rfl
 rw[e];refine⟨hA,hne,fun s=>?_⟩;rw[hm s];constructor
 ·rintro⟨a,b⟩;exact⟨by omega,by rw[hpt s (by omega),if_neg (by omega)];exact b⟩
 rintro⟨a,b⟩;rw[hpt s (by omega)]at b;by_cases he:s=(K:Int)
 ·rw[if_pos he]at b;omega
 rw[if_neg he]at b;exact⟨by omega,b⟩
theorem PSt.addNew{n K:Nat}{part part':List Int}{list:List (List Int)}(h:PSt n K part list)(hK:K<n)(hl:part'.length=n)(hpt: ∀x:Int,0≤x∧x<(n:Int)→pt part' x=if x=(K:Int)then(list.length:Int)else pt part x):
 PSt n (K+1) part' (list++ [[(K:Int)]]):=by
 refine⟨hl,fun s hs=>?_,fun q hq=>?_⟩
 ·rw[hpt s (by omega),List.length_append,List.length_singleton];by_cases he:s=(K:Int)
  ·rw[if_pos he];omega
  rw[if_neg he];have:=h.pr s (by omega);omega
 rw[List.length_append,List.length_singleton]at hq;by_cases h1:q=list.length
 ·subst h1;rw[getD_of List.getElem?_concat_length];refine⟨⟨by simp,fun x hx=>by simp at hx;subst hx;omega⟩,by simp,fun s=>?_⟩;constructor
  ·intro a;simp at a;subst a;exact⟨by omega,by rw[hpt _ (by omega),if_pos rfl]⟩
  rintro⟨a,b⟩;by_cases he:s=(K:Int)
  ·simp[he]
  rw[hpt s (by omega),if_neg he]at b;have:=h.pr s (by omega);omega
 have e:(list++ [[(K:Int)]]).getD q []=list.getD q []:=by
  rw[List.getD,List.getElem?_append_left (by omega)];rfl
 rw[e];obtain⟨hA,hne,hm⟩:=h.ls q (by omega);refine⟨hA,hne,fun s=>?_⟩;rw[hm s];constructor
 ·rintro⟨a,b⟩;exact⟨by omega,by rw[hpt s (by omega),if_neg (by omega)];exact b⟩
 rintro⟨a,b⟩;rw[hpt s (by omega)]at b;by_cases he:s=(K:Int)
 ·rw[if_pos he]at b;omega
 rw[if_neg he]at b;exact⟨by omega,b⟩
section
variable {N:Nat}{rows:List (List Int)}{rule entry:List Int}
theorem back_row{i:Nat}{row:List Int}{B:List (List (List Int))}(hN:4294967296≤N)(hs:Sz rows rule entry)(h:Rt rows rule entry)(hi:i<rows.length)(hr:rows[i]? =some row)(hB:BackOk rows (fun a _=>a<i) B):
 ∃B',iterO N (fun s=>F_56 N (i:Int) row s.1 s.2) (B,0)=some B'∧BackOk rows (fun a _=>a<i+1) B':=by
 have hn2:=h.n2;have hm:=List.mem_of_getElem? hr;have hw:=hs.w row hm
 obtain⟨B',h1,h2⟩:=loop_inv (f:=fun s=>F_56 N (i:Int) row s.1 s.2) (fun c (s:List (List (List Int)))=>(s,(c:Int))) id row
  (fun c s=>BackOk rows (fun a b=>a<i∨(a=i∧b<c)) s) (N:=N) (s:=B) (by omega) (hB.congr fun a b _ _=>by omega)
  (fun c y s hx hI=>by
   have hc:=lt_len hx;have hyr:=h.row row hm y (List.mem_of_getElem? hx)
   have hny:nxt rows (i:Int) (c:Int)=y:=by
    unfold nxt;rw[Int.toNat_natCast,Int.toNat_natCast,getD_of hr];exact getD_of hx
   obtain⟨yn,rfl⟩: ∃yn:Nat,y=(yn:Int):=⟨y.toNat,by omega⟩;have hyn:yn<rows.length:=by omega
   obtain⟨r,r1,r2,r3⟩:=hI.get hyn (show c<256 by omega);have hAl:=(hI.m yn c hyn (by omega)).1.len;have hadd:=hI.add hi (show c<256 by omega) hyn hny (by omega) r1;refine⟨s.set yn (r.set c (bv s yn c++ [(i:Int)])),?_,hadd.congr fun a b _ _=>by omega⟩;unfold F_56;have hcr:c<r.length:=by omega
   have hys:=lt_len r1;simp only[show((c:Int)<256) by omega,decide_true,if_true,idx_of hx,idx_of r1,idx_of r3,bind,Option.bind_some];rw[app_eq (by simp;omega)];simp only[Option.bind_some,setI_nat hcr,setI_nat hys];rw[w64_succ (by omega)])
  (fun s _=>by unfold F_56;simp[hw])
 exact⟨B',h1,h2.congr fun a b _ hb=>by omega⟩
structure Beg(rows:List (List Int))(rule:List Int)(B:List (List (List Int)))(part:List Int)(list:List (List Int)):Prop where
 b:BackOk rows (fun _ _=>True) B
 p:PSt rows.length rows.length part list
 r: ∀a b:Int,0≤a∧a<(rows.length:Int)→0≤b∧b<(rows.length:Int)→(pt part a=pt part b↔rule.getD a.toNat 0=rule.getD b.toNat 0)
theorem begin_loop(hN:4294967296≤N)(hs:Sz rows rule entry)(h:Rt rows rule entry):
 ∃B part list,iterO N (fun s=>F_39 N rows rule s.1 s.2.1 s.2.2.1 s.2.2.2.1 s.2.2.2.2) (List.replicate rows.length (List.replicate 256 []),List.replicate rows.length 0,[],([]:List (Int×Int)),0)=some (B,part,list)∧Beg rows rule B part list:=by
 have hn2:=h.n2;have hru:=h.ru
 obtain⟨s,h1,h2,h3,h4,h5⟩:=loop_inv (f:=fun s=>F_39 N rows rule s.1 s.2.1 s.2.2.1 s.2.2.2.1 s.2.2.2.2)
  (fun i (s:List (List (List Int))×List Int×List (List Int)×List (Int×Int))=>(s.1,s.2.1,s.2.2.1,s.2.2.2,(i:Int))) (fun s=>(s.1,s.2.1,s.2.2.1)) rows
  (fun i s=>BackOk rows (fun a _=>a<i) s.1∧PSt rows.length i s.2.1 s.2.2.1∧
   (∀a b:Int,0≤a∧a<(i:Int)→0≤b∧b<(i:Int)→(pt s.2.1 a=pt s.2.1 b↔rule.getD a.toNat 0=rule.getD b.toNat 0))∧
   (∀r p:Int,mget s.2.2.2 r=some p↔ ∃a:Int,(0≤a∧a<(i:Int))∧rule.getD a.toNat 0=r∧pt s.2.1 a=p))
  (N:=N) (s:=(List.replicate rows.length (List.replicate 256 []),List.replicate rows.length 0,[],[])) (by omega)
  ⟨⟨by simp,fun r hr=>by rw[List.eq_of_mem_replicate hr];simp,fun y c hy hc=>by
   have:bv (List.replicate rows.length (List.replicate 256 [])) y c= []:=by
    exact bv_rep hy hc
   rw[this];refine⟨acc_nil _,fun i=>⟨fun q=>by simp at q,?_⟩⟩;rintro⟨j,_,_,q,_⟩
   omega⟩,
    ⟨by simp,fun s hs=>by omega,fun p hp=>by simp at hp⟩,fun a b ha=>by omega,fun r p=>⟨fun q=>by simp[mget]at q,fun⟨a,ha,_⟩=>by omega⟩⟩
  (fun i row s hx hI=>by
   obtain⟨B,part,list,known⟩:=s;obtain⟨k1,k2,k3,k4⟩:=hI;simp only at k1 k2 k3 k4;have hi:=lt_len hx;obtain⟨B',q1,q2⟩:=back_row (N:=N) hN hs h hi hx k1;have gr:idx rule (i:Int)=some (rule.getD i 0):=by rw[getD_of (List.getElem?_eq_getElem (show i<rule.length by omega))];exact idx_nat _
   have hir:0≤(i:Int)∧(i:Int)<(rows.length:Int):=by omega
   have gp:=pt_idx k2.pl hir
   cases hk:mget known (rule.getD i 0)with
   |none=>
     obtain⟨part',e1,e2,e3⟩:=pt_set (v:=(list.length:Int)) k2.pl hir;have hnew:=k2.addNew hi e2 e3;have hlm:list.length≤rows.length:=by have:=hnew.many;simp at this;omega
     have hnone: ∀a:Int,0≤a∧a<(i:Int)→rule.getD a.toNat 0≠rule.getD i 0:=fun a ha he=>by
      have:=(k4 (rule.getD i 0) (pt part a)).2 ⟨a,ha,he,rfl⟩;rw[hk]at this;cases this
     refine⟨(B',part',list++ [[(i:Int)]],mset known (rule.getD i 0) (list.length:Int)),?_,q2,hnew,fun a b ha hb=>?_,fun r p=>?_⟩
     ·unfold F_39
      have hset:setI (list++ [[]]) (list.length:Int) [(i:Int)]=some (list++ [[(i:Int)]]):=by
       rw[setI_nat (by simp),List.set_append_right _ _ (Nat.le_refl _),Nat.sub_self];rfl
      have hget:idx (list++ [[]]) (list.length:Int)=some ([]:List Int):=by rw[idx_of List.getElem?_concat_length]
      simp only[show((i:Int)<(rows.length:Int)) by omega,decide_true,if_true,idx_of hx,bind,Option.bind_some];rw[q1];simp only[gr,hk,Option.isSome_none,Bool.not_false,if_true,Option.bind_some];rw[app_eq (by simp;omega)];simp only[Option.bind_some,gp,e1,hget];rw[app_eq (by simp)];simp only[List.nil_append,Option.bind_some,hset];rw[w64_succ (by omega)]
     ·rw[e3 a (by omega),e3 b (by omega)];by_cases ha':a=(i:Int)
      ·subst ha';by_cases hb':b=(i:Int)
       ·subst hb';simp
       rw[if_pos rfl,if_neg hb'];have:=k2.pr b (by omega);constructor
       ·intro q;omega
       intro q;rw[Int.toNat_natCast]at q;exact absurd q.symm (hnone b (by omega))
      rw[if_neg ha'];by_cases hb':b=(i:Int)
      ·subst hb';rw[if_pos rfl];have:=k2.pr a (by omega);constructor
       ·intro q;omega
       intro q;rw[Int.toNat_natCast]at q;exact absurd q (hnone a (by omega))
      rw[if_neg hb'];exact k3 a b (by omega) (by omega)
     rw[mget_mset_g];by_cases hr:rule.getD i 0=r
     ·have:(rule.getD i 0==r)=true:=by simpa using hr
      rw[this,if_pos rfl];constructor
      ·intro q;refine⟨(i:Int),by omega,by simpa using hr,?_⟩;rw[e3 _ hir,if_pos rfl];exact Option.some.inj q
      rintro⟨a,a1,a2,a3⟩;by_cases ha':a=(i:Int)
      ·rw[e3 a (by omega),if_pos ha']at a3;rw[a3]
      exact absurd (a2.trans hr.symm) (hnone a (by omega))
     have:(rule.getD i 0==r)=false:=by simpa using hr
     rw[this];simp only[Bool.false_eq_true,if_false];rw[k4 r p];constructor
     ·rintro⟨a,a1,a2,a3⟩;exact⟨a,by omega,a2,by rw[e3 a (by omega),if_neg (by omega)];exact a3⟩
     rintro⟨a,a1,a2,a3⟩;by_cases ha':a=(i:Int)
     ·subst ha';rw[Int.toNat_natCast]at a2;exact absurd a2 hr
     rw[e3 a (by omega),if_neg ha']at a3;exact⟨a,by omega,a2,a3⟩
   |some p=>
     obtain⟨a0,b1,b2,b3⟩:=(k4 _ _).1 hk;have hpr:=k2.pr a0 b1;obtain⟨pn,rfl⟩: ∃pn:Nat,p=(pn:Int):=⟨p.toNat,by omega⟩;have hpl:pn<list.length:=by omega
     obtain⟨part',e1,e2,e3⟩:=pt_set (v:=(pn:Int)) k2.pl hir;have hold:=k2.addOld hi hpl e2 e3;have gl:list[pn]? =some (list.getD pn []):=by rw[getD_of (List.getElem?_eq_getElem hpl)];exact List.getElem?_eq_getElem hpl
     have hAl:=(k2.ls pn hpl).1.len;refine⟨(B',part',list.set pn (list.getD pn []++ [(i:Int)]),known),?_,q2,hold,fun a b ha hb=>?_,fun r p=>?_⟩
     ·unfold F_39;simp only[show((i:Int)<(rows.length:Int)) by omega,decide_true,if_true,idx_of hx,bind,Option.bind_some];rw[q1];simp only[gr,hk,Option.isSome_some,Bool.not_true,Bool.false_eq_true,if_false,Option.getD_some,Option.bind_some,gp,e1,idx_of gl];rw[app_eq (by rw[List.length_singleton];omega)];simp only[Option.bind_some,setI_nat hpl];rw[w64_succ (by omega)]
     ·have key: ∀b:Int,0≤b∧b<(i:Int)→((pn:Int)=pt part b↔rule.getD i 0=rule.getD b.toNat 0):=fun b hb=>by
       rw[←b3,←b2];exact k3 a0 b b1 hb
      rw[e3 a (by omega),e3 b (by omega)];by_cases ha':a=(i:Int)
      ·subst ha';by_cases hb':b=(i:Int)
       ·subst hb';simp
       rw[if_pos rfl,if_neg hb',Int.toNat_natCast];exact key b (by omega)
      rw[if_neg ha'];by_cases hb':b=(i:Int)
      ·subst hb';rw[if_pos rfl,Int.toNat_natCast];have:=key a (by omega);exact⟨fun q=>(this.1 q.symm).symm,fun q=>(this.2 q.symm).symm⟩
      rw[if_neg hb'];exact k3 a b (by omega) (by omega)
     rw[k4 r p];constructor
     ·rintro⟨a,a1,a2,a3⟩;exact⟨a,by omega,a2,by rw[e3 a (by omega),if_neg (by omega)];exact a3⟩
     rintro⟨a,a1,a2,a3⟩;by_cases ha':a=(i:Int)
     ·subst ha';rw[Int.toNat_natCast]at a2;rw[e3 _ hir,if_pos rfl]at a3;exact⟨a0,b1,b2.trans a2,b3.trans a3⟩
     rw[e3 a (by omega),if_neg ha']at a3;exact⟨a,by omega,a2,a3⟩)
  (fun s _=>by unfold F_39;simp)
 refine⟨s.1,s.2.1,s.2.2.1,h1,h2.congr fun j c hj _=>by simp[hj],h3,h4⟩
theorem begin_spec2(hN:4294967296≤N)(hs:Sz rows rule entry)(h:Rt rows rule entry):
 ∃B part list work,F_8 N rows rule entry [] [] [] []=some (B,part,list,work)∧Beg rows rule B part list∧work.length=256*list.length∧(∀p c:Nat,p<list.length→c<256→((p:Int),(c:Int))∈work)∧ ∀t∈work,∃p c:Nat,p<list.length∧c<256∧t=((p:Int),(c:Int)):=by
 have hn2:=h.n2;obtain⟨B,part,list,q1,q2⟩:=begin_loop (N:=N) hN hs h;have hm:=q2.p.many
 obtain⟨work,w1,w2,w3,w4⟩:=loop_inv (f:=fun s=>F_57 N rows rule entry B part list s.1 s.2) (fun p (s:List (Int×Int))=>(s,(p:Int))) id (List.range list.length)
  (fun k s=>s.length=256*k∧(∀p c:Nat,p<k→c<256→((p:Int),(c:Int))∈s)∧ ∀t∈s,∃p c:Nat,p<k∧c<256∧t=((p:Int),(c:Int))) (N:=N) (s:=[]) (by simp;omega) ⟨rfl,fun p c hp=>by omega,fun t ht=>by simp at ht⟩
  (fun k y s hx hI=>by
   obtain⟨k1,k2,k3⟩:=hI;obtain⟨hk,rfl⟩:=range_get hx;refine⟨s++lat y,?_,by rw[List.length_append,lat_len];omega,fun p c hp hc=>?_,fun t ht=>?_⟩
   ·unfold F_57;simp only[show((y:Int)<(list.length:Int)) by omega,decide_true,if_true,later_spec hN (show s.length+256≤4294967296 by omega),bind,Option.bind_some];rw[w64_succ (by omega)]
   ·by_cases hpy:p=y
    ·subst hpy;exact List.mem_append.2 (.inr (mem_lat hc))
    exact List.mem_append.2 (.inl (k2 p c (by omega) hc))
   rcases List.mem_append.1 ht with ht|ht
   ·obtain⟨p,c,p1,p2,p3⟩:=k3 t ht;exact⟨p,c,by omega,p2,p3⟩
   obtain⟨c,c1,c2⟩:=lat_mem ht;exact⟨y,c,by omega,c1,c2⟩)
  (fun s _=>by unfold F_57;simp)
 rw[List.length_range]at w2 w3 w4;refine⟨B,part,list,work,?_,q2,w2,w3,w4⟩;unfold F_8;rw[mk_eq (by omega)];simp only[bind,Option.bind_some];rw[mk_eq (by omega)];simp only[Option.bind_some];rw[q1];simp only[Option.bind_some];rw[show iterO N (fun s=>F_57 N rows rule entry B part list s.1 s.2) ([],0)=_ from w1];rfl
end
open Go Go.Eng
set_option maxRecDepth 100000
section
variable {N:Nat}{rows:List (List Int)}{rule entry:List Int}
def Wk(work:List (Int×Int))(part:List Int)(c:Nat)(x y:Int):Prop:=(pt part x,(c:Int))∈work∨(pt part y,(c:Int))∈work
structure HInv(rows:List (List Int))(rule:List Int)(X:Nat→Int→Int→Prop)(part:List Int)(list:List (List Int))(work:List (Int×Int)):Prop where
 ps:PSt rows.length rows.length part list
 rul: ∀a b:Int,0≤a∧a<(rows.length:Int)→0≤b∧b<(rows.length:Int)→pt part a=pt part b→rule.getD a.toNat 0=rule.getD b.toNat 0
 alk: ∀a b:Int,0≤a∧a<(rows.length:Int)→0≤b∧b<(rows.length:Int)→Alk rows rule a b→pt part a=pt part b
 wk: ∀t∈work,∃p c:Nat,p<list.length∧c<256∧t=((p:Int),(c:Int))
 st: ∀a b:Int,0≤a∧a<(rows.length:Int)→0≤b∧b<(rows.length:Int)→pt part a=pt part b→ ∀c:Nat,c<256→
  pt part (nxt rows a c)=pt part (nxt rows b c)∨Wk work part c (nxt rows a c) (nxt rows b c)∨X c a b
 ms:(rows.length-list.length)*257+work.length≤rows.length*257
theorem HInv.split{X:Nat→Int→Int→Prop}{p:Nat}{part part' frm:List Int}{list list':List (List Int)}{work work':List (Int×Int)}(hs:Sz rows rule entry)(h:Rt rows rule entry)(hI:HInv rows rule X part list work)
 (hal: ∀a b:Int,0≤a∧a<(rows.length:Int)→0≤b∧b<(rows.length:Int)→Alk rows rule a b→(a∈frm↔b∈frm))
 (h1:PSt rows.length rows.length part' list')
 (h2: ∀s:Int,0≤s∧s<(rows.length:Int)→pt part' s=pt part s∨(pt part s=(p:Int)∧pt part' s=(list.length:Int)))
 (h3: ∀a b:Int,0≤a∧a<(rows.length:Int)→0≤b∧b<(rows.length:Int)→(pt part' a=pt part' b↔pt part a=pt part b∧(pt part a=(p:Int)→(a∈frm↔b∈frm))))
 (h4:(list'.length=list.length∧work'=work)∨(list'.length=list.length+1∧work'=work++lat list.length)):HInv rows rule X part' list' work':=by
 have hsub: ∀t∈work,t∈work':=by
  intro t ht;rcases h4 with⟨_,rfl⟩|⟨_,rfl⟩
  ·exact ht
  exact List.mem_append.2 (.inl ht)
 have hmv: ∀s:Int,0≤s∧s<(rows.length:Int)→ ∀c:Nat,c<256→pt part' s≠pt part s→(pt part' s,(c:Int))∈work':=by
  intro s hs c hc hne;rcases h2 s hs with h|⟨_,h⟩
  ·exact absurd h hne
  have:=(h1.pr s hs).2;rcases h4 with⟨hl,_⟩|⟨_,rfl⟩
  ·omega
  rw[h];exact List.mem_append.2 (.inr (mem_lat hc))
 have hm':=h1.many;refine⟨h1,fun a b ha hb he=>hI.rul a b ha hb ((h3 a b ha hb).1 he).1,fun a b ha hb hk=>(h3 a b ha hb).2 ⟨hI.alk a b ha hb hk,fun _=>hal a b ha hb hk⟩,fun t ht=>?_,fun a b ha hb he c hc=>?_,?_⟩
 ·rcases h4 with⟨hl,rfl⟩|⟨hl,rfl⟩
  ·rw[hl];exact hI.wk t ht
  rcases List.mem_append.1 ht with ht|ht
  ·obtain⟨q,c,q1,q2,q3⟩:=hI.wk t ht;exact⟨q,c,by omega,q2,q3⟩
  obtain⟨c,c1,c2⟩:=lat_mem ht;exact⟨list.length,c,by omega,c1,c2⟩
 ·have hx:=nxt_rng hs h ha (c:=(c:Int)) (by omega);have hy:=nxt_rng hs h hb (c:=(c:Int)) (by omega);have hst:=hI.st a b ha hb ((h3 a b ha hb).1 he).1 c hc;generalize nxt rows a (c:Int)=x at*;generalize nxt rows b (c:Int)=y at*;by_cases hx':pt part' x=pt part x
  ·by_cases hy':pt part' y=pt part y
   ·unfold Wk at hst ⊢;rw[hx',hy'];rcases hst with q|(q|q)|q
    ·exact .inl q
    ·exact .inr (.inl (.inl (hsub _ q)))
    ·exact .inr (.inl (.inr (hsub _ q)))
    exact .inr (.inr q)
   exact .inr (.inl (.inr (hmv y hy c hc hy')))
  exact .inr (.inl (.inl (hmv x hx c hc hx')))
 have:=hI.ms;rcases h4 with⟨hl,rfl⟩|⟨hl,rfl⟩
 ·rw[hl];exact this
 rw[List.length_append,lat_len];omega
structure HMid(rows:List (List Int))(rule:List Int)(X:Nat→Int→Int→Prop)(frm ps:List Int)(z j:Nat)(part:List Int)(list:List (List Int))(work:List (Int×Int)):Prop where
 i:HInv rows rule X part list work
 zl:z≤list.length
 un: ∀a b:Int,0≤a∧a<(rows.length:Int)→0≤b∧b<(rows.length:Int)→pt part a=pt part b→(pt part a∈ps.take j∨(z:Int)≤pt part a)→(a∈frm↔b∈frm)
 fr: ∀a:Int,a∈frm→pt part a∈ps∨(z:Int)≤pt part a
theorem run_parts{X:Nat→Int→Int→Prop}{part frm ps:List Int}{B:List (List (List Int))}{list:List (List Int)}{work:List (Int×Int)}(hN:4294967296≤N)(hs:Sz rows rule entry)(h:Rt rows rule entry)
 (hal: ∀a b:Int,0≤a∧a<(rows.length:Int)→0≤b∧b<(rows.length:Int)→Alk rows rule a b→(a∈frm↔b∈frm)) (hfr: ∀a∈frm,0≤a∧a<(rows.length:Int)) (hfl:frm.length<4294967296)
 (hps:Acc list.length ps) (hM:HMid rows rule X frm ps list.length 0 part list work):
 ∃part' list' work',iterO N (fun s=>F_62 N rows rule entry B frm ps s.1 s.2.1 s.2.2.1 s.2.2.2) (part,list,work,0)=some (part',list',work')∧HMid rows rule X frm ps list.length ps.length part' list' work'∧
   (rows.length-list'.length)*257+work'.length≤(rows.length-list.length)*257+work.length:=by
 have hn2:=h.n2;have hpl:=hps.len;have hml:=hM.i.ps.many
 obtain⟨s,h1,h2,h3⟩:=loop_inv (f:=fun s=>F_62 N rows rule entry B frm ps s.1 s.2.1 s.2.2.1 s.2.2.2) (fun j (s:List Int×List (List Int)×List (Int×Int))=>(s.1,s.2.1,s.2.2,(j:Int))) (fun s=>(s.1,s.2.1,s.2.2)) ps
  (fun j s=>HMid rows rule X frm ps list.length j s.1 s.2.1 s.2.2∧(rows.length-s.2.1.length)*257+s.2.2.length≤(rows.length-list.length)*257+work.length) (N:=N) (s:=(part,list,work)) (by omega) ⟨hM,Nat.le_refl _⟩
  (fun j p s hx hI=>by
   obtain⟨part1,list1,work1⟩:=s;obtain⟨⟨k1,k2,k3,k4⟩,k5⟩:=hI;simp only at k1 k2 k3 k4 k5;have hj:=lt_len hx;have hpr:=hps.rng p (List.mem_of_getElem? hx);obtain⟨pn,rfl⟩: ∃pn:Nat,p=(pn:Int):=⟨p.toNat,by omega⟩;have hms:=k1.ms;obtain⟨part',list',work',q1,q2,q3,q4,q5⟩:=split_spec (N:=N) (rows:=rows) (rule:=rule) (entry:=entry) (B:=B) (p:=pn) (frm:=frm) (work:=work1) hN (by omega) k1.ps (by omega) hfl (by omega);have hI':=k1.split hs h hal q2 q3 q4 q5;have hm':=q2.many;refine⟨(part',list',work'),?_,⟨hI',by simp only;omega,fun a b ha hb he hor=>?_,fun a ha=>?_⟩,?_⟩
   ·unfold F_62;simp only[show((j:Int)<(ps.length:Int)) by omega,decide_true,if_true,idx_of hx,q1,bind,Option.bind_some];rw[w64_succ (by omega)]
   ·simp only at he hor;obtain⟨e1,e2⟩:=(q4 a b ha hb).1 he;by_cases hap:pt part1 a=(pn:Int)
    ·exact e2 hap
    have ea:pt part' a=pt part1 a:=(q3 a ha).resolve_right fun q=>hap q.1;refine k3 a b ha hb e1 ?_;rw[ea]at hor;rcases hor with hor|hor
    ·have ht:ps.take (j+1)=ps.take j++ [(pn:Int)]:=by rw[List.take_add_one,hx];rfl
     rw[ht]at hor;rcases List.mem_append.1 hor with q|q
     ·exact .inl q
     simp at q;exact absurd q hap
    exact .inr hor
   ·simp only;rcases q3 a (hfr a ha)with e|⟨_,e⟩
    ·rw[e];exact k4 a ha
    rw[e];exact .inr (by omega)
   simp only;rcases q5 with⟨e1,e2⟩|⟨e1,e2⟩
   ·rw[e1,e2];exact k5
   rw[e2,List.length_append,lat_len];omega)
  (fun s _=>by unfold F_62;simp)
 exact⟨s.1,s.2.1,s.2.2,h1,h2,h3⟩
theorem run_from{c:Nat}{B:List (List (List Int))}{l:List Int}(hN:4294967296≤N)(h:Rt rows rule entry)(hB:BackOk rows (fun _ _=>True) B)(hc:c<256)(hl:Acc rows.length l):
 ∃frm,iterO N (fun s=>F_60 N B (c:Int) l s.1 s.2) ([],0)=some frm∧frm.length≤40000∧ ∀a:Int,a∈frm↔(0≤a∧a<(rows.length:Int))∧nxt rows a (c:Int)∈l:=by
 have hn2:=h.n2;have hll:=hl.len
 obtain⟨frm,h1,h2,h3⟩:=loop_inv (f:=fun s=>F_60 N B (c:Int) l s.1 s.2) (fun i (s:List Int)=>(s,(i:Int))) id l
  (fun i s=>s.length≤200*i∧ ∀a:Int,a∈s↔(0≤a∧a<(rows.length:Int))∧nxt rows a (c:Int)∈l.take i) (N:=N) (s:=[]) (by omega) ⟨by simp,fun a=>by simp⟩
  (fun i y s hx hI=>by
   obtain⟨k1,k2⟩:=hI;have hi:=lt_len hx;have hyr:=hl.rng y (List.mem_of_getElem? hx);obtain⟨yn,rfl⟩: ∃yn:Nat,y=(yn:Int):=⟨y.toNat,by omega⟩;obtain⟨r,r1,_,r3⟩:=hB.get (show yn<rows.length by omega) hc;obtain⟨m1,m2⟩:=hB.m yn c (by omega) hc;have hml:=m1.len;refine⟨s++bv B yn c,?_,by rw[List.length_append];omega,fun a=>?_⟩
   ·unfold F_60;simp only[show((i:Int)<(l.length:Int)) by omega,decide_true,if_true,idx_of hx,idx_of r1,idx_of r3,bind,Option.bind_some];rw[app_eq (by omega)];simp only[Option.bind_some];rw[w64_succ (by omega)]
   have ht:l.take (i+1)=l.take i++ [(yn:Int)]:=by rw[List.take_add_one,hx];rfl
   rw[List.mem_append,k2 a,m2 a,ht,List.mem_append];constructor
   ·rintro(⟨a1,a2⟩|⟨j,j1,j2,_,j3⟩)
    ·exact⟨a1,.inl a2⟩
    subst j1;exact⟨by omega,.inr (by simp[j3])⟩
   rintro⟨a1,a2|a2⟩
   ·exact .inl ⟨a1,a2⟩
   simp at a2;exact .inr ⟨a.toNat,by omega,by omega,trivial,by rw[show((a.toNat:Nat):Int)=a by omega];exact a2⟩)
  (fun s _=>by unfold F_60;simp)
 rw[List.take_length]at h3;exact⟨frm,h1,by omega,h3⟩
theorem run_which{n m:Nat}{part frm:List Int}{list:List (List Int)}(hN:4294967296≤N)(hP:PSt n n part list)(hm:list.length=m)(hm2:m≤200)(hf:frm.length≤40000)(hfr: ∀a∈frm,0≤a∧a<(n:Int)):
 ∃ps,iterO N (fun s=>F_61 N part frm s.1 s.2) ([],0)=some ps∧Acc m ps∧ ∀a∈frm,pt part a∈ps:=by
 obtain⟨ps,h1,h2,h3⟩:=loop_inv (f:=fun s=>F_61 N part frm s.1 s.2) (fun i (s:List Int)=>(s,(i:Int))) id frm
  (fun i s=>Acc m s∧ ∀a∈frm.take i,pt part a∈s) (N:=N) (s:=[]) (by omega) ⟨acc_nil m,fun a ha=>by simp at ha⟩
  (fun i a s hx hI=>by
   obtain⟨k1,k2⟩:=hI;have hi:=lt_len hx;have har:=hfr a (List.mem_of_getElem? hx);have hpr:=hP.pr a har;have hsl:=k1.len;have gi:=pt_idx hP.pl har;have hi2:=k1.ins (x:=pt part a) ⟨hpr.1,by omega⟩;refine⟨ins s (pt part a),?_,hi2,fun b hb=>?_⟩
   ·unfold F_61;simp only[show((i:Int)<(frm.length:Int)) by omega,decide_true,if_true,idx_of hx,gi,contains_spec hN (show s.length<4294967296 by omega),bind,Option.bind_some];by_cases hma:pt part a∈s
    ·simp only[hma,decide_true,Bool.not_true,Bool.false_eq_true,if_false,Option.bind_some,ins,if_true];rw[w64_succ (by omega)]
    simp only[hma,decide_false,Bool.not_false,if_true,ins,if_false];rw[app_eq (by rw[List.length_singleton];omega)];simp only[Option.bind_some];rw[w64_succ (by omega)]
   have ht:frm.take (i+1)=frm.take i++ [a]:=by rw[List.take_add_one,hx];rfl
   rw[ht]at hb;rcases List.mem_append.1 hb with hb|hb
   ·exact mem_ins.2 (.inl (k2 b hb))
   simp at hb;subst hb;exact mem_ins.2 (.inr rfl))
  (fun s _=>by unfold F_61;simp)
 rw[List.take_length]at h3;exact⟨ps,h1,h2,h3⟩
theorem run_spec2{B:List (List (List Int))}{part:List Int}{list:List (List Int)}{work:List (Int×Int)}(hN:4294967296≤N)(hs:Sz rows rule entry)(h:Rt rows rule entry)(hB:BackOk rows (fun _ _=>True) B)(hI:HInv rows rule (fun _ _ _=>False) part list work):
 ∃part' list' work',F_5 N rows rule entry B part list work=some (part',list',work')∧part'.length=rows.length∧ ∀a b:Int,0≤a∧a<(rows.length:Int)→0≤b∧b<(rows.length:Int)→(pt part' a=pt part' b↔Alk rows rule a b):=by
 have hn2:=h.n2
 have key: ∃r:List Int×List (List Int)×List (Int×Int),iterO N (fun s=>F_59 N rows rule entry B s.1 s.2.1 s.2.2) (part,list,work)=some r∧(r.1.length=rows.length∧ ∀a b:Int,0≤a∧a<(rows.length:Int)→0≤b∧b<(rows.length:Int)→(pt r.1 a=pt r.1 b↔Alk rows rule a b)):=by
  refine iterO_while (f:=fun s=>F_59 N rows rule entry B s.1 s.2.1 s.2.2) (fun s=>HInv rows rule (fun _ _ _=>False) s.1 s.2.1 s.2.2) (fun s=>(rows.length-s.2.1.length)*257+s.2.2.length)
   (fun r=>r.1.length=rows.length∧ ∀a b:Int,0≤a∧a<(rows.length:Int)→0≤b∧b<(rows.length:Int)→(pt r.1 a=pt r.1 b↔Alk rows rule a b)) ?_ (N:=N) (s:=(part,list,work)) hI (by have:=hI.ms;simp only;omega)
  rintro⟨part1,list1,work1⟩ hI1;simp only at hI1;by_cases hw:work1= []
  ·right;subst hw;refine⟨(part1,list1,[]),?_,hI1.ps.pl,fun a b ha hb=>⟨fun he=>?_,hI1.alk a b ha hb⟩⟩
   ·unfold F_59;simp
   refine alk_of (R:=fun a b=>pt part1 a=pt part1 b) (n:=rows.length) (fun i k hi hk q=>hI1.rul i k hi hk q) (fun i c hi hc=>nxt_rng hs h hi hc) (fun i k c hi hk q hc=>?_) ha hb he;have:=hI1.st i k hi hk q c.toNat (by omega);rw[show((c.toNat:Nat):Int)=c by omega]at this;rcases this with q|(q|q)|q
   ·exact q
   ·simp at q
   ·simp at q
   exact q.elim
  left;obtain⟨w0,t,rfl⟩: ∃w0 t,work1=w0++ [t]:=⟨work1.dropLast,work1.getLast hw,(List.dropLast_concat_getLast hw).symm⟩;obtain⟨p,c,hp,hc,rfl⟩:=hI1.wk t (by simp);have hml:=hI1.ps.many;have hms:=hI1.ms;rw[List.length_append,List.length_singleton]at hms;obtain⟨hA,_,hmem⟩:=hI1.ps.ls p hp;have gl:list1[p]? =some (list1.getD p []):=by rw[getD_of (List.getElem?_eq_getElem hp)];exact List.getElem?_eq_getElem hp
  obtain⟨frm,f1,f2,f3⟩:=run_from (N:=N) hN h hB hc hA;have hfr: ∀a∈frm,0≤a∧a<(rows.length:Int):=fun a ha=>((f3 a).1 ha).1
  have hmem': ∀a:Int,0≤a∧a<(rows.length:Int)→(a∈frm↔pt part1 (nxt rows a (c:Int))=(p:Int)):=by
   intro a ha;have hx:=nxt_rng hs h ha (c:=(c:Int)) (by omega);rw[f3 a,hmem];exact⟨fun q=>q.2.2,fun q=>⟨ha,hx,q⟩⟩
  have hal: ∀a b:Int,0≤a∧a<(rows.length:Int)→0≤b∧b<(rows.length:Int)→Alk rows rule a b→(a∈frm↔b∈frm):=by
   intro a b ha hb hk;rw[hmem' a ha,hmem' b hb,hI1.alk _ _ (nxt_rng hs h ha (c:=(c:Int)) (by omega)) (nxt_rng hs h hb (c:=(c:Int)) (by omega)) (hk.step (by omega))]
  obtain⟨ps,p1,p2,p3⟩:=run_which (N:=N) hN hI1.ps rfl (by omega) f2 hfr
  have hM:HMid rows rule (fun c' a b=>c'=c∧ ¬(a∈frm↔b∈frm)) frm ps list1.length 0 part1 list1 w0:=by
   refine⟨⟨hI1.ps,hI1.rul,hI1.alk,fun t ht=>hI1.wk t (by simp[ht]),fun a b ha hb he c' hc'=>?_,by omega⟩,Nat.le_refl _,fun a b ha hb he hor=>?_,fun a ha=> .inl (p3 a ha)⟩
   ·rcases hI1.st a b ha hb he c' hc' with q|q|q
    ·exact .inl q
    ·by_cases hq:Wk w0 part1 c' (nxt rows a c') (nxt rows b c')
     ·exact .inr (.inl hq)
     by_cases he':pt part1 (nxt rows a (c':Int))=pt part1 (nxt rows b (c':Int))
     ·exact .inl he'
     refine .inr (.inr ?_);unfold Wk at q hq;rcases q with q|q
     ·rcases List.mem_append.1 q with q|q
      ·exact absurd (.inl q) hq
      simp at q;obtain⟨q1,q2⟩:=q;have hcc:c'=c:=by omega
      subst hcc;refine⟨rfl,fun hh=>?_⟩;have:=hh.1 ((hmem' a ha).2 q1);exact he' (q1.trans ((hmem' b hb).1 this).symm)
     rcases List.mem_append.1 q with q|q
     ·exact absurd (.inr q) hq
     simp at q;obtain⟨q1,q2⟩:=q;have hcc:c'=c:=by omega
     subst hcc;refine⟨rfl,fun hh=>?_⟩;have:=hh.2 ((hmem' b hb).2 q1);exact he' (((hmem' a ha).1 this).trans q1.symm)
    exact q.elim
   have:=hI1.ps.pr a ha;rcases hor with hor|hor
   ·simp at hor
   omega
  obtain⟨part',list',work',r1,r2,r3⟩:=run_parts (N:=N) (B:=B) hN hs h hal hfr (by omega) p2 hM;refine⟨(part',list',work'),?_,⟨r2.i.ps,r2.i.rul,r2.i.alk,r2.i.wk,fun a b ha hb he c' hc'=>?_,r2.i.ms⟩,?_⟩
  ·unfold F_59;have hpos:decide (((w0++ [((p:Int),(c:Int))]).length:Int)>0)=true:=decide_eq_true (by simp only[List.length_append,List.length_singleton];omega)
   have hlen:w64 (((w0++ [((p:Int),(c:Int))]).length:Int)-1)=(w0.length:Int):=by
    rw[List.length_append,List.length_singleton,w64,wrap64]<;>omega
   have hix:idx (w0++ [((p:Int),(c:Int))]) (w0.length:Int)=some ((p:Int),(c:Int)):=idx_of List.getElem?_concat_length
   have hsl:slc (w0++ [((p:Int),(c:Int))]) 0 (w0.length:Int)=some w0:=by
    unfold slc;rw[if_pos (by simp;omega)];simp
   simp only[hpos,if_true,hlen,hix,hsl,idx_of gl,bind,Option.bind_some];rw[f1];simp only[Option.bind_some];rw[p1];simp only[Option.bind_some];rw[r1];rfl
  ·rcases r2.i.st a b ha hb he c' hc' with q|q|⟨_,q⟩
   ·exact .inl q
   ·exact .inr (.inl q)
   exfalso;refine q ⟨fun hm=>?_,fun hm=>?_⟩
   ·refine(r2.un a b ha hb he ?_).1 hm;rw[List.take_length];exact r2.fr a hm
   refine(r2.un a b ha hb he ?_).2 hm;rw[List.take_length,he];exact r2.fr b hm
  simp only[List.length_append,List.length_singleton];omega
 obtain⟨⟨part',list',work'⟩,k1,k2,k3⟩:=key;refine⟨part',list',work',?_,k2,k3⟩;unfold F_5;rw[k1];rfl
theorem parts_spec(hN:4294967296≤N)(hs:Sz rows rule entry)(h:Rt rows rule entry): ∃(P:List Int) (m:Nat),F_22 N rows rule entry=some (P,(m:Int))∧Cls rows rule P m:=by
 have hn2:=h.n2;obtain⟨B,part,list,work,b1,b2,b3,b4,b5⟩:=begin_spec2 (N:=N) hN hs h;have hml:=b2.p.many
 have hI:HInv rows rule (fun _ _ _=>False) part list work:=by
  refine⟨b2.p,fun a b ha hb=>(b2.r a b ha hb).1,fun a b ha hb hk=>(b2.r a b ha hb).2 hk.rul,b5,fun a b ha hb _ c hc=> .inr (.inl (.inl ?_)),by omega⟩;have hx:=nxt_rng hs h ha (c:=(c:Int)) (by omega);have hp:=b2.p.pr _ hx;have:=b4 (pt part (nxt rows a (c:Int))).toNat c (by omega) hc;rwa[show(((pt part (nxt rows a (c:Int))).toNat:Nat):Int)=pt part (nxt rows a (c:Int)) by omega]at this
 obtain⟨part',list',work',r1,r2,r3⟩:=run_spec2 (N:=N) hN hs h b2.b hI
 obtain⟨s,h1,h2,h3,h4⟩:=loop_inv (f:=fun s=>F_38 N part' s.1 s.2.1 s.2.2) (fun i (s:List (Int×Int)×List Int)=>((i:Int),s.1,s.2)) (fun s=>(s.1,s.2)) part'
  (fun i s=>PC (fun a b=>Alk rows rule (a:Int) (b:Int)) i s.2 s.1.length∧s.1.length≤i∧ ∀p v:Int,mget s.1 p=some v↔ ∃a:Nat,a<i∧pt part' (a:Int)=p∧s.2[a]? =some v) (N:=N) (s:=([],[])) (by omega)
  ⟨.nil,Nat.le_refl _,fun p v=>⟨fun q=>by simp[mget]at q,fun⟨a,ha,_⟩=>by omega⟩⟩
  (fun i p s hx hI=>by
   obtain⟨known,out⟩:=s;obtain⟨k1,k2,k3⟩:=hI;simp only at k1 k2 k3;have hi:=lt_len hx;have hpi:pt part' (i:Int)=p:=by unfold pt;rw[Int.toNat_natCast];exact getD_of hx
   have hol:=k1.len
   have same: ∀a:Nat,a<i→(pt part' (a:Int)=p↔Alk rows rule (i:Int) (a:Int)):=fun a ha=>by
    rw[←hpi,eq_comm];exact r3 (i:Int) (a:Int) (by omega) (by omega)
   cases hk:mget known p with
   |none=>
     have hno: ∀a,a<i→ ¬Alk rows rule (i:Int) (a:Int):=fun a ha q=>by
      have hal:a<out.length:=by omega
      have:=(k3 p out[a]).2 ⟨a,ha,(same a ha).2 q,List.getElem?_eq_getElem hal⟩;rw[hk]at this;cases this
     have hlen:=mset_len (v:=(known.length:Int)) hk;have hself:mget (mset known p (known.length:Int)) p=some (known.length:Int):=by rw[mget_mset_g];simp
     refine⟨(mset known p (known.length:Int),out++ [(known.length:Int)]),?_,?_,by simp only[hlen];omega,fun q v=>?_⟩
     ·unfold F_38;simp only[show((i:Int)<(part'.length:Int)) by omega,decide_true,if_true,idx_of hx,hk,Option.isSome_none,Bool.not_false,hself,Option.getD_some,bind,Option.bind_some];rw[app_eq (by rw[List.length_singleton];omega)];simp only[Option.bind_some];rw[w64_succ (by omega)]
     ·simp only[hlen];exact k1.new alk_eqv hno
     simp only;rw[mget_mset_g];by_cases hq:p=q
     ·subst hq;simp only[beq_self_eq_true,if_true];constructor
      ·intro e;refine⟨i,by omega,hpi,?_⟩;rw[←hol,List.getElem?_concat_length];exact e
      rintro⟨a,a1,a2,a3⟩;by_cases hai:a=i
      ·subst hai;rw[←hol,List.getElem?_concat_length]at a3;exact a3
      exact absurd ((same a (by omega)).1 a2) (hno a (by omega))
     have:(p==q)=false:=by simpa using hq
     rw[this];simp only[Bool.false_eq_true,if_false];rw[k3 q v];constructor
     ·rintro⟨a,a1,a2,a3⟩;exact⟨a,by omega,a2,by rw[List.getElem?_append_left (by omega)];exact a3⟩
     rintro⟨a,a1,a2,a3⟩;by_cases hai:a=i
     ·subst hai;exact absurd (hpi.symm.trans a2) hq
     rw[List.getElem?_append_left (by omega)]at a3;exact⟨a,by omega,a2,a3⟩
   |some v0=>
     obtain⟨a0,c1,c2,c3⟩:=(k3 p v0).1 hk;refine⟨(known,out++ [v0]),?_,k1.old alk_eqv c1 ((same a0 c1).1 c2) c3,by simp only;omega,fun q v=>?_⟩
     ·unfold F_38;simp only[show((i:Int)<(part'.length:Int)) by omega,decide_true,if_true,idx_of hx,hk,Option.isSome_some,Bool.not_true,Bool.false_eq_true,if_false,Option.getD_some,bind,Option.bind_some];rw[app_eq (by rw[List.length_singleton];omega)];simp only[Option.bind_some];rw[w64_succ (by omega)]
     simp only;rw[k3 q v];constructor
     ·rintro⟨a,a1,a2,a3⟩;exact⟨a,by omega,a2,by rw[List.getElem?_append_left (by omega)];exact a3⟩
     rintro⟨a,a1,a2,a3⟩;by_cases hai:a=i
     ·subst hai;rw[←hol,List.getElem?_concat_length]at a3;obtain rfl:=Option.some.inj a3;exact⟨a0,c1,c2.trans (hpi.symm.trans a2),c3⟩
     rw[List.getElem?_append_left (by omega)]at a3;exact⟨a,by omega,a2,a3⟩)
  (fun s _=>by unfold F_38;simp)
 rw[r2]at h2;refine⟨s.2,s.1.length,?_,h2.cls⟩;unfold F_22;rw[b1];simp only[bind,Option.bind_some];rw[r1];simp only[Option.bind_some];rw[show iterO N (fun s=>F_38 N part' s.1 s.2.1 s.2.2) (0,[],[])=_ from h1];rfl
end
open Go Go.Eng
set_option maxRecDepth 100000
theorem RG.inv{Q:List Int}{x:Int}{k':Nat}(h:RG (Q++ [x]) k'):(RG Q k'∧x∈Q)∨ ∃k,k'=k+1∧RG Q k∧x=(k:Int):=by
 generalize hq:Q++ [x]=R at h
 cases h with
 |nil=>simp at hq
 | @old P _ y h hy=>
   obtain⟨rfl,h2⟩:=List.append_inj' hq rfl;obtain rfl:=(List.cons.inj h2).1;exact .inl ⟨h,hy⟩
 | @new P m h=>
   obtain⟨rfl,h2⟩:=List.append_inj' hq rfl;exact .inr ⟨m,rfl,h,(List.cons.inj h2).1⟩
theorem RG.take{P:List Int}{m:Nat}(h:RG P m): ∀i,∃k,RG (P.take i) k:=by
 induction h with
 |nil=>intro i;exact⟨0,by simpa using RG.nil⟩
 | @old P m x h hx ih=>
   intro i;by_cases hi:i≤P.length
   ·rw[List.take_append_of_le_length hi];exact ih i
   rw[List.take_of_length_le (by simp;omega)];exact⟨m,h.old hx⟩
 | @new P m h ih=>
   intro i;by_cases hi:i≤P.length
   ·rw[List.take_append_of_le_length hi];exact ih i
   rw[List.take_of_length_le (by simp;omega)];exact⟨m+1,h.new⟩
def mgRows(P:List Int)(m:Nat)(rows:List (List Int)):List (List Int):=(List.range m).map fun(v:Nat)=>(rows.getD (P.idxOf (v:Int)) []).map (pt P)
def mgRule(P:List Int)(m:Nat)(rule:List Int):List Int:=(List.range m).map fun(v:Nat)=>rule.getD (P.idxOf (v:Int)) 0
def mgEntry(P entry:List Int):List Int:=entry.map (pt P)
section
variable {N:Nat}{rows:List (List Int)}{rule entry P:List Int}{m:Nat}
theorem Cls.pt_rng(hC:Cls rows rule P m){s:Int}(hs:0≤s∧s<(rows.length:Int)):0≤pt P s∧pt P s<m:=by
 have hl:s.toNat<P.length:=by have:=hC.len;omega
 unfold pt;rw[getD_of (List.getElem?_eq_getElem hl)];exact hC.rg.mem.1 (List.getElem_mem hl)
theorem Cls.pt_iff(hC:Cls rows rule P m){a b:Int}(ha:0≤a∧a<(rows.length:Int))(hb:0≤b∧b<(rows.length:Int)):pt P a=pt P b↔Alk rows rule a b:=by
 have hl:a.toNat<P.length:=by have:=hC.len;omega
 have hl':b.toNat<P.length:=by have:=hC.len;omega
 have:=hC.iff_ a.toNat b.toNat (by omega) (by omega);rw[show((a.toNat:Nat):Int)=a by omega,show((b.toNat:Nat):Int)=b by omega,List.getElem?_eq_getElem hl,List.getElem?_eq_getElem hl',Option.some.injEq]at this;unfold pt;rw[getD_of (List.getElem?_eq_getElem hl),getD_of (List.getElem?_eq_getElem hl')];exact this
theorem Cls.rep(hC:Cls rows rule P m){v:Nat}(hv:v<m):((P.idxOf (v:Int):Nat):Int)<(rows.length:Int)∧pt P ((P.idxOf (v:Int):Nat):Int)=(v:Int):=by
 have hm:(v:Int)∈P:=hC.rg.mem.2 (by omega);have hl:=List.idxOf_lt_length_of_mem hm;have hlen:=hC.len;refine⟨by omega,?_⟩;unfold pt;rw[Int.toNat_natCast,getD_of (List.getElem?_eq_getElem hl)];exact List.getElem_idxOf hl
theorem row_nxt(hs:Sz rows rule entry){s:Int}(hr:0≤s∧s<(rows.length:Int)):(rows.getD s.toNat []).length=256∧ ∀c:Nat,c<256→(rows.getD s.toNat [])[c]? =some (nxt rows s (c:Int)):=by
 have hl:s.toNat<rows.length:=by omega
 have hw:=hs.w _ (List.getElem_mem hl);have e:rows.getD s.toNat []=rows[s.toNat]:=getD_of (List.getElem?_eq_getElem hl);refine⟨by rw[e];exact hw,fun c hc=>?_⟩;have hcl:c<rows[s.toNat].length:=by omega
 unfold nxt;rw[Int.toNat_natCast,e,getD_of (List.getElem?_eq_getElem hcl)];exact List.getElem?_eq_getElem hcl
theorem Cls.same(hs:Sz rows rule entry)(h:Rt rows rule entry)(hC:Cls rows rule P m){a b:Int}(ha:0≤a∧a<(rows.length:Int))(hb:0≤b∧b<(rows.length:Int))(he:pt P a=pt P b):
 (rows.getD a.toNat []).map (pt P)=(rows.getD b.toNat []).map (pt P)∧rule.getD a.toNat 0=rule.getD b.toNat 0:=by
 have hk:=(hC.pt_iff ha hb).1 he;refine⟨List.ext_getElem? fun c=>?_,hk.rul⟩;obtain⟨a1,a2⟩:=row_nxt hs ha;obtain⟨b1,b2⟩:=row_nxt hs hb;by_cases hc:c<256
 ·rw[List.getElem?_map,List.getElem?_map,a2 c hc,b2 c hc];have:=(hC.pt_iff (nxt_rng hs h ha (c:=(c:Int)) (by omega)) (nxt_rng hs h hb (c:=(c:Int)) (by omega))).2 (hk.step (by omega));simp[this]
 rw[List.getElem?_eq_none (by rw[List.length_map];omega),List.getElem?_eq_none (by rw[List.length_map];omega)]
theorem mg_row(hs:Sz rows rule entry)(h:Rt rows rule entry)(hC:Cls rows rule P m){s:Int}(hr:0≤s∧s<(rows.length:Int)):
 (mgRows P m rows)[(pt P s).toNat]? =some ((rows.getD s.toNat []).map (pt P))∧(mgRule P m rule)[(pt P s).toNat]? =some (rule.getD s.toNat 0):=by
 have hp:=hC.pt_rng hr;have hv:(pt P s).toNat<m:=by omega
 obtain⟨r1,r2⟩:=hC.rep hv;have:=hC.same hs h (a:=((P.idxOf (((pt P s).toNat:Nat):Int):Nat):Int)) (b:=s) (by omega) hr (by rw[r2];omega);rw[Int.toNat_natCast]at this;unfold mgRows mgRule;rw[List.getElem?_map,List.getElem?_map,List.getElem?_range hv];simp only[Option.map_some];exact⟨by rw[this.1],by rw[this.2]⟩
theorem mg_ext(hs:Sz rows rule entry)(h:Rt rows rule entry)(hC:Cls rows rule P m){R:List (List Int)}{U:List Int}(hR:R.length=m)(hU:U.length=m)
 (hh: ∀j:Nat,j<rows.length→R[(pt P (j:Int)).toNat]? =some ((rows.getD j []).map (pt P))∧U[(pt P (j:Int)).toNat]? =some (rule.getD j 0)):R=mgRows P m rows∧U=mgRule P m rule:=by
 have key: ∀v,v<m→R[v]? =(mgRows P m rows)[v]? ∧U[v]? =(mgRule P m rule)[v]? :=by
  intro v hv;obtain⟨r1,r2⟩:=hC.rep hv;have h1:=hh (P.idxOf (v:Int)) (by omega);have h2:=mg_row hs h hC (s:=((P.idxOf (v:Int):Nat):Int)) (by omega);rw[r2,Int.toNat_natCast]at h1 h2;rw[Int.toNat_natCast]at h2;exact⟨h1.1.trans h2.1.symm,h1.2.trans h2.2.symm⟩
 refine⟨List.ext_getElem? fun v=>?_,List.ext_getElem? fun v=>?_⟩
 ·by_cases hv:v<m
  ·exact(key v hv).1
  rw[List.getElem?_eq_none (by omega),List.getElem?_eq_none (by simp[mgRows];omega)]
 by_cases hv:v<m
 ·exact(key v hv).2
 rw[List.getElem?_eq_none (by omega),List.getElem?_eq_none (by simp[mgRule];omega)]
theorem merge_row{row:List Int}{R:List (List Int)}{p:Nat}(hN:4294967296≤N)(hp:p<R.length)(hR: ∀r∈R,r.length=256)(hw:row.length=256)(hr: ∀y∈row,0≤y∧y<(P.length:Int)):
 iterO N (fun s=>F_37 N P (p:Int) row s.1 s.2) (0,R)=some (R.set p (row.map (pt P))):=by
 obtain⟨S,h1,h2,h3,h4⟩:=loop_inv (f:=fun s=>F_37 N P (p:Int) row s.1 s.2) (fun c (s:List (List Int))=>((c:Int),s)) id row
  (fun c s=>s.length=R.length∧(∀q,q≠p→s[q]? =R[q]?)∧ ∃r,s[p]? =some r∧r.length=256∧ ∀c',c'<c→r[c']? =(row.map (pt P))[c']?) (N:=N) (s:=R) (by omega)
  ⟨rfl,fun q _=>rfl,R[p],List.getElem?_eq_getElem hp,hR _ (List.getElem_mem hp),fun c' hc=>by omega⟩
  (fun c y s hx hI=>by
   obtain⟨k1,k2,r,k3,k4,k5⟩:=hI;have hc:=lt_len hx;have hyr:=hr y (List.mem_of_getElem? hx);have hps:p<s.length:=by omega
   have hcr:c<r.length:=by omega
   have gy:=pt_idx (part:=P) (n:=P.length) rfl hyr;refine⟨s.set p (r.set c (pt P y)),?_,by simpa using k1,fun q hq=>?_,r.set c (pt P y),List.getElem?_set_self hps,by simpa using k4,fun c' hc'=>?_⟩
   ·unfold F_37;simp only[show((c:Int)<256) by omega,decide_true,if_true,idx_of hx,gy,idx_of k3,idx_nat hcr,setI_nat hcr,setI_nat hps,bind,Option.bind_some];rw[w64_succ (by omega)]
   ·rw[List.getElem?_set_ne (by omega)];exact k2 q hq
   by_cases he:c'=c
   ·subst he;rw[List.getElem?_set_self hcr,List.getElem?_map,hx];rfl
   rw[List.getElem?_set_ne (by omega)];exact k5 c' (by omega))
  (fun s _=>by unfold F_37;simp[hw])
 rw[show iterO N (fun s=>F_37 N P (p:Int) row s.1 s.2) (0,R)=_ from h1,id];obtain⟨r,h5,h6,h7⟩:=h4
 have hr':r=row.map (pt P):=List.ext_getElem? fun c=>by
  by_cases hc:c<256
  ·exact h7 c (by omega)
  rw[List.getElem?_eq_none (by omega),List.getElem?_eq_none (by simp;omega)]
 congr 1
 refine List.ext_getElem? fun q=>?_;by_cases hq:q=p
 ·subst hq;rw[h5,List.getElem?_set_self hp,hr']
 rw[h3 q hq,List.getElem?_set_ne (by omega)]
theorem merge_spec(hN:4294967296≤N)(hs:Sz rows rule entry)(h:Rt rows rule entry)(hC:Cls rows rule P m):F_7 N rows rule entry=some (mgRows P m rows,mgRule P m rule,mgEntry P entry):=by
 have hn2:=h.n2;have hru:=h.ru;have he2:=h.e2;obtain⟨P',m',p1,p2⟩:=parts_spec (N:=N) hN hs h;obtain⟨rfl,rfl⟩:=p2.uniq hC;have hml:=hC.rg.le;have hPl:=hC.len;unfold F_7;simp only[right_yes hN hs h,p1,Bool.not_true,Bool.false_eq_true,if_false,bind,Option.bind_some];rw[mk_eq (by omega)];simp only[Option.bind_some];rw[mk_eq (by omega)];simp only[Option.bind_some]
 obtain⟨s,h1,h2,h3,h4,h5⟩:=loop_inv (f:=fun s=>F_54 N rows rule P' s.1 s.2.1 s.2.2) (fun i (s:List (List Int)×List Int)=>((i:Int),s.1,s.2)) (fun s=>(s.1,s.2)) P'
  (fun i s=>s.1.length=m'∧s.2.length=m'∧(∀r∈s.1,r.length=256)∧ ∀j:Nat,j<i→s.1[(pt P' (j:Int)).toNat]? =some ((rows.getD j []).map (pt P'))∧s.2[(pt P' (j:Int)).toNat]? =some (rule.getD j 0))
  (N:=N) (s:=(List.replicate m' (List.replicate 256 0),List.replicate m' 0)) (by omega) ⟨by simp,by simp,fun r hr=>by rw[List.eq_of_mem_replicate hr];exact List.length_replicate,fun j hj=>by omega⟩
  (fun i p s hx hI=>by
   obtain⟨R,U⟩:=s;obtain⟨k1,k2,k3,k4⟩:=hI;simp only at k1 k2 k3 k4;have hi:=lt_len hx;have hir:0≤(i:Int)∧(i:Int)<(rows.length:Int):=by omega
   have hpi:pt P' (i:Int)=p:=by unfold pt;rw[Int.toNat_natCast];exact getD_of hx
   have hpr:=hC.pt_rng hir;rw[hpi]at hpr;obtain⟨pn,rfl⟩: ∃pn:Nat,p=(pn:Int):=⟨p.toNat,by omega⟩;obtain⟨row,r1,r2,r3,r4⟩:=row_nat h (show i<rows.length by omega);have hmr:=merge_row (N:=N) (P:=P') (p:=pn) (R:=R) (row:=row) hN (by omega) k3 (hs.w row r3) (fun y hy=>by have:=r4 y hy;omega);have gr:idx rule (i:Int)=some (rule.getD i 0):=by rw[getD_of (List.getElem?_eq_getElem (show i<rule.length by omega))];exact idx_nat _
   have hpU:pn<U.length:=by omega
   refine⟨(R.set pn (row.map (pt P')),U.set pn (rule.getD i 0)),?_,by simpa using k1,by simpa using k2,fun r hr=>?_,fun j hj=>?_⟩
   ·unfold F_54;simp only[show((i:Int)<(P'.length:Int)) by omega,decide_true,if_true,idx_of hx,r1,bind,Option.bind_some];rw[hmr];simp only[gr,idx_nat hpU,setI_nat hpU,Option.bind_some];rw[w64_succ (by omega)]
   ·rcases List.mem_or_eq_of_mem_set hr with hr|rfl
    ·exact k3 r hr
    rw[List.length_map];exact hs.w row r3
   have hjr:0≤(j:Int)∧(j:Int)<(rows.length:Int):=by omega
   have hpj:=hC.pt_rng hjr;by_cases he:pt P' (j:Int)=(pn:Int)
   ·have:=hC.same hs h hjr hir (he.trans hpi.symm);rw[Int.toNat_natCast,Int.toNat_natCast,r2]at this;rw[he,Int.toNat_natCast,List.getElem?_set_self (by omega),List.getElem?_set_self hpU,this.1,this.2];exact⟨rfl,rfl⟩
   rw[List.getElem?_set_ne (by omega),List.getElem?_set_ne (by omega)];refine k4 j ?_;by_cases hji:j=i
   ·subst hji;exact absurd hpi he
   omega)
  (fun s _=>by unfold F_54;simp)
 rw[show iterO N (fun s=>F_54 N rows rule P' s.1 s.2.1 s.2.2) (0,List.replicate m' (List.replicate 256 0),List.replicate m' 0)=_ from h1];simp only[Option.bind_some];obtain⟨e1,e2⟩:=mg_ext hs h hC h2 h3 (fun j hj=>h5 j (by omega))
 obtain⟨E,q1,q2⟩:=loop_inv (f:=fun s=>F_55 N entry P' s.1 s.2) (fun i (s:List Int)=>(s,(i:Int))) id entry (fun i s=>s=(entry.take i).map (pt P')) (N:=N) (s:=[]) (by omega) (by simp)
  (fun i y s hx hI=>by
   have hi:=lt_len hx;have hyr:=h.ent y (List.mem_of_getElem? hx);have gy:=pt_idx (part:=P') hPl hyr;have hsl:s.length=i:=by rw[hI,List.length_map,List.length_take];omega
   refine⟨s++ [pt P' y],?_,by rw[hI,List.take_add_one,hx,List.map_append];rfl⟩;unfold F_55;simp only[show((i:Int)<(entry.length:Int)) by omega,decide_true,if_true,idx_of hx,gy,bind,Option.bind_some];rw[app_eq (by rw[List.length_singleton];omega)];simp only[Option.bind_some];rw[w64_succ (by omega)])
  (fun s _=>by unfold F_55;simp)
 rw[List.take_length]at q2;rw[show iterO N (fun s=>F_55 N entry P' s.1 s.2) ([],0)=_ from q1,e1,e2,q2];rfl
end
end Go.Proofs.YtchjfkdljnmmgaaGreatDoor
