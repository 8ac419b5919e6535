import Derived.Test.YtnkednnnkifenaaGreatDoorMunchJoinP1
import Derived.Test.YtnkednnnkifenaaGreatDoorMunchJoinf
namespace Go.Dn
open Go Go.Eng
set_option maxRecDepth 100000
theorem mkT1_nil(t:Tc)(ls:List Leaf)(x:t.den)(h:mkT1 t [] ls=some x):unT1 t [] x=ls:=by
 cases ls with
 |nil=>have h:(none:Option t.den)=some x:=h;cases h
 |cons l ls=>
   cases ls with
   |nil=>
     have h:l.as t=some x:=h;exact congrArg (· :: []) (as_some h).symm
   |cons l2 ls=>have h:(none:Option t.den)=some x:=h;cases h
theorem mkT1_cons(t u:Tc)(r:List Tc)(ls:List Leaf)(x:t.den×(tupT1 u r).den)(h:mkT1 t (u::r) ls=some x): ∃l ls',ls=l::ls'∧l.as t=some x.1∧mkT1 u r ls'=some x.2:=by
 cases ls with
 |nil=>have h:(none:Option (t.den×(tupT1 u r).den))=some x:=h;cases h
 |cons l ls=>
   have h:(match l.as t,mkT1 u r ls with|some a,some b=>some (a,b)|_,_=>none)=some x:=h
   cases h1:l.as t with
   |none=>rw[h1]at h;cases h
   |some a=>
     cases h2:mkT1 u r ls with
     |none=>rw[h1,h2]at h;cases h
     |some b=>
       rw[h1,h2]at h;obtain rfl:=oi h;exact⟨l,ls,_root_.rfl,h1,h2⟩
theorem mkT1_un: ∀(r:List Tc) (t:Tc) (ls:List Leaf) (x:(tupT1 t r).den),mkT1 t r ls=some x→unT1 t r x=ls:=by
 intro r
 induction r with
 |nil=>intro t ls x h;exact mkT1_nil t ls x h
 |cons u r ih=>
   intro t ls x h;obtain⟨l,ls',rfl,h1,h2⟩:=mkT1_cons t u r ls x h;show(⟨t,Prod.fst x⟩:Leaf)::unT1 u r (Prod.snd x)=_;rw[ih u ls' _ h2,as_some h1]
theorem mkT_un(ts:List Tc)(ls:List Leaf)(x:(tupT ts).den)(h:mkT ts ls=some x):unT ts x=ls:=by
 cases ts with
 |nil=>
   cases ls with
   |nil=>exact _root_.rfl
   |cons l ls=>cases h
 |cons t r=>exact mkT1_un r t ls x h
section
variable {X:Amb}{F:Cfg}{n:FN}{C:Cx}{hs:List Hl}{η:List Leaf}{ι:List Value}{β:List Nat}{ρ:View}{st:St}{E:Env}{hl:List Hl}{w:World}{Q:Exit→Act→World→Prop}{ro:Option Nat}
theorem Rel.put(R:Rel X η ι β st ρ E hl){d:Option Nat}{v:VX}{u:Value}(h:v.R X η ι β u):Rel X η ι β (st.put d v) ρ (putE E d u) hl:=by
 cases d with
 |none=>exact R
 |some d=>exact⟨⟨rfl,h,R.env⟩,R.heap,R.facts,R.na,R.nb,R.kn⟩
theorem Rel.know(R:Rel X η ι β st ρ E hl){i:Nat}{b:Bool}(h:η[i]? =some ⟨.bool,b⟩):Rel X η ι β (st.know i b) ρ E hl:=
 ⟨R.env,R.heap,R.facts,R.na,R.nb,fun p hp=>by
  rcases List.mem_cons.1 hp with rfl|hp
  ·exact h
  exact R.kn p hp⟩
theorem CX.R.sub{i:Nat}{b:Bool}(h:η[i]? =some ⟨.bool,b⟩){c:CX}{v:Value}(hr:c.R X η ι β v):(c.sub i b).R X η ι β v:=by
 cases c with
 |lf j=>
   simp only[CX.sub]
   cases hb:Nat.beq i j with
   |true=>
     obtain rfl:=Nat.eq_of_beq_eq_true hb;obtain⟨l,h1,rfl⟩:=hr;rw[h]at h1;cases oi h1;rfl
   |false=>exact hr
 |_=>exact hr
theorem cellsR.sub{i:Nat}{b:Bool}(h:η[i]? =some ⟨.bool,b⟩): ∀{l:List CX} {vs:List Value},cellsR X η ι β l vs→cellsR X η ι β (l.map (CX.sub i b)) vs
 | [],[],_=>trivial
 |_::_,_::_,hr=>⟨CX.R.sub h hr.1,cellsR.sub h hr.2⟩
 | [],_::_,hr=>hr.elim
 |_::_,[],hr=>hr.elim
theorem VX.R.sub{i:Nat}{b:Bool}(h:η[i]? =some ⟨.bool,b⟩){x:VX}{v:Value}(hr:x.R X η ι β v):(x.sub i b).R X η ι β v:=by
 cases x with
 |one c=>exact CX.R.sub h hr
 |agg l=>obtain⟨us,h1,h2⟩:=hr;exact⟨us,h1.sub h,h2⟩
 |fn f l=>obtain⟨us,h1,h2⟩:=hr;exact⟨us,h1.sub h,h2⟩
 |tup l=>
   obtain⟨us,h1,h2⟩:=hr;refine⟨us,?_,h2⟩;clear h2;revert us
   induction l with
   |nil=>intro us h1;exact h1
   |cons a l ih=>
     intro us h1
     match us,a,h1 with
     |v::vs,.inl c,h1=>exact⟨CX.R.sub h h1.1,ih _ h1.2⟩
     |v::vs,.inr c,h1=>obtain⟨⟨us,g1,g2⟩,g3⟩:=h1;exact⟨⟨us,g1.sub h,g2⟩,ih _ g3⟩
     | [],.inl c,h1=>exact h1.elim
     | [],.inr c,h1=>exact h1.elim
theorem envR.sub{i:Nat}{b:Bool}(h:η[i]? =some ⟨.bool,b⟩): ∀{l:List (Nat×VX)} {E:Env},envR X η ι β l E→envR X η ι β (l.map fun p=>(p.1,p.2.sub i b)) E
 | [],[],_=>trivial
 |_::_,_::_,hr=>⟨hr.1,hr.2.1.sub h,envR.sub h hr.2.2⟩
 | [],_::_,hr=>hr.elim
 |_::_,[],hr=>hr.elim
theorem heapR.sub{i:Nat}{b:Bool}(h:η[i]? =some ⟨.bool,b⟩): ∀{l:List HX} {hs:List Hl},heapR X η ι β ρ l hs→heapR X η ι β ρ (l.map (HX.sub i b)) hs
 | [],[],_=>trivial
 | .box k l::r,_::_,hr=>by obtain⟨⟨blk,vs,h1,h2,h3⟩,h4⟩:=hr;exact⟨⟨blk,vs,h1,h2.sub h,h3⟩,heapR.sub h h4⟩
 | .arr .. ::r,_::_,hr=>⟨hr.1,heapR.sub h hr.2⟩
 | .ow .. ::r,_::_,hr=>⟨hr.1,heapR.sub h hr.2⟩
 | .ow .. ::_,[],hr=>hr.elim
 | [],_::_,hr=>hr.elim
 | .box .. ::_,[],hr=>hr.elim
 | .arr .. ::_,[],hr=>hr.elim
theorem Rel.said(R:Rel X η ι β st ρ E hl){i:Nat}{b:Bool}(h:η[i]? =some ⟨.bool,b⟩):Rel X η ι β (st.said i b) ρ E hl:=
 ⟨R.env.sub h,R.heap.sub h,R.facts,R.na,R.nb,fun p hp=>by
  rcases List.mem_cons.1 hp with rfl|hp
  ·exact h
  exact R.kn p hp⟩
theorem Rel.out(R:Rel X η ι β st ρ E hl){d:Option Nat}{r:Out}{v:Value}{κ:List Value}(hv:r.v.R X (η++r.δ) (ι++κ) β v)(hk:κ.length=r.na)(hf: ∀f∈r.fs,f.R X (η++r.δ) (ι++κ) ρ):
 Rel X (η++r.δ) (ι++κ) β (outSt st d r) ρ (putE E d v) hl:=by
 have he:=R.env.up r.δ κ [];have hh:=R.heap.up r.δ κ [] (View.le_refl ρ);rw[List.append_nil]at he hh
 have R1:Rel X (η++r.δ) (ι++κ) β {st with facts:=st.facts++r.fs,na:=st.na+r.na} ρ E hl:=
  ⟨he,hh,fun f h=>by
   rcases List.mem_append.1 h with h|h
   ·exact(R.facts f h).up _ _ (View.le_refl ρ)
   exact hf f h,by simp[R.na,hk],R.nb,fun p hp=>get_app _ (R.kn p hp)⟩
 have R2:=R1.put (d:=d) hv;cases d<;>exact R2
def KS(X:Amb)(C:Cx)(hs:List Hl){R:Type}(k:St→List Leaf→Option R)(r:R)(Q:Env→World→Prop)(η:List Leaf)(ι:List Value)(β:List Nat)(ρ:View):Prop:=
 ∀st δ κ γ ρ' E hl w,View.le ρ ρ'→Rel X (η++δ) (ι++κ) (β++γ) st ρ' E hl→Hp C w ρ' (hl++hs)→GErrs ρ' X.T X.ids X.ge→k st (η++δ)=some r→Q E w
theorem KS.up{R:Type}{k:St→List Leaf→Option R}{r:R}{Q:Env→World→Prop}(h:KS X C hs k r Q η ι β ρ)(δ:List Leaf)(κ:List Value)(γ:List Nat){ρ':View}(hl:View.le ρ ρ'):KS X C hs k r Q (η++δ) (ι++κ) (β++γ) ρ':=
 fun st δ' κ' γ' ρ'' E hl' w h1 h2 h3 h4 h5=>by
  rw[List.append_assoc,List.append_assoc,List.append_assoc]at h2;rw[List.append_assoc]at h5;exact h st (δ++δ') (κ++κ') (γ++γ') ρ'' E hl' w (View.le_trans hl h1) h2 h3 h4 h5
theorem KS.at{R:Type}{k:St→List Leaf→Option R}{r:R}{Q:Env→World→Prop}(h:KS X C hs k r Q η ι β ρ)(R0:Rel X η ι β st ρ E hl)(H:Hp C w ρ (hl++hs))(G:GErrs ρ X.T X.ids X.ge)(hk:k st η=some r):Q E w:=
 h st [] [] [] ρ E hl w (View.le_refl ρ) (by simpa using R0) H G (by simpa using hk)
def EffOk(X:Amb)(F:Cfg)(C:Cx)(hs:List Hl):Prop:=
 ∀{st:St} {η:List Leaf} {op:Op} {e:ER} {z:e.t.den} {ι:List Value} {β:List Nat} {ρ:View} {E:Env} {hl:List Hl} {w:World},F.ef st η op=some e→e.o=some z→Rel X η ι β st ρ E hl→Hp C w ρ (hl++hs)→GErrs ρ X.T X.ids X.ge→
   ∀d ty pos af g,Eff F.P E ⟨d,op,ty,pos,af,g⟩ w fun v w'=> ∃κ γ ρ' hl',View.le ρ ρ'∧(e.out z).2.1.R X (η++(e.out z).2.2) (ι++κ) (β++γ) v∧Rel X (η++(e.out z).2.2) (ι++κ) (β++γ) (e.out z).1 ρ' E hl'∧Hp C w' ρ' (hl'++hs)
variable {all:List Oper}
theorem Rel.upL(R:Rel X η ι β st ρ E hl)(δ:List Leaf):Rel X (η++δ) ι β st ρ E hl:=by
 have he:=R.env.up δ [] [];have hh:=R.heap.up δ [] [] (View.le_refl ρ);rw[List.append_nil,List.append_nil]at he hh;refine⟨he,hh,fun f hf=>?_,R.na,R.nb,fun p hp=>get_app _ (R.kn p hp)⟩;have:=(R.facts f hf).up δ [] (View.le_refl ρ);rwa[List.append_nil]at this
theorem Rel.fst(R:Rel X η ι β st ρ E hl){fs:List Fact}(h: ∀f∈fs,f.R X η ι ρ):Rel X η ι β {st with facts:=fs} ρ E hl:=⟨R.env,R.heap,h,R.na,R.nb,R.kn⟩
theorem fresh_ok{R:Type}{r:R}{hp:List HX}{fs:List Fact}{op:Op}{k:List Fact→List Leaf→Option R}{ρ0:View}{h0:List Hl}(hh:heapR X η ι β ρ0 hp h0)(hf: ∀f∈fs,f.R X η ι ρ)(h:fresh hp fs st η op k=some r):
 ∃nf δ,k nf (η++δ)=some r∧ ∀(ρ':View),∀f∈nf,f.R X (η++δ) ι ρ':=by
 unfold fresh at h
 cases hs:stale hp fs st η op with
 |none=>rw[hs]at h;exact⟨[],[],by simpa using h,fun _ f hf=>nomatch hf⟩
 |some s=>
   rw[hs]at h;obtain⟨y,hy,h⟩:=Option.bind_eq_some_iff.1 h;refine⟨_,_,h,fun ρ' f hff=>?_⟩;obtain rfl:=List.mem_singleton.1 hff;unfold stale at hs;split at hs
   ·split at hs
    ·rename_i hE;split at hs
     ·rename_i t' i' kk mm hA hm;split at hs
      ·rename_i hc;obtain⟨rfl,_,_⟩:=hc;obtain⟨xs,hx,rfl⟩:=Option.map_eq_some_iff.1 hs;obtain⟨v,b,o,xs0,y0,k1,m1,f1,f2,f3,f4,f5,f6,f7⟩:=hf _ (factE_ok hE);rw[hm]at f3;cases oi f3;exact⟨v,b,o,xs,y,kk,mm,f1,f2,get_app _ hm,f4,get_app _ (leafAs hx),by simp,hy⟩
      cases hs
     cases hs
    cases hs
   cases hs
theorem mem_dropF{α:Type}{a:α}{n:Nat}{l:List α}(h:a∈l.drop n):a∈l:=List.mem_of_mem_drop h
theorem one1_ok(hids:F.ids=X.ids)(hE:EffOk X F C hs)(hn:n.n=F.nt){R:Type}{k:St→List Leaf→Option R}{r:R}{o:Oper}{l:List Oper}(R0:Rel X η ι β st ρ E hl)(H:Hp C w ρ (hl++hs))(G:GErrs ρ X.T X.ids X.ge)(hk:one1 F st η o k=some r)
 (hq: ∀v,Qv F.P E o v w→inN n o.dst=true→WL F.P all.toArray Q l n (putE E o.dst v) w→WL F.P all.toArray Q (o::l) n E w)
 (he: ∀post,Eff F.P E o w post→inN n o.dst=true→(∀v w',post v w'→WL F.P all.toArray Q l n (putE E o.dst v) w')→WL F.P all.toArray Q (o::l) n E w)
 (K:KS X C hs k r (fun E w=>WL F.P all.toArray Q l n E w) η ι β ρ):WL F.P all.toArray Q (o::l) n E w:=by
 unfold one1 at hk;split at hk
 ·rename_i hd
  have hin:inN n o.dst=true:=by
   cases hdst:o.dst with
   |none=>rfl
   |some d=>rw[hdst]at hd;show Nat.blt d n.n=true;rw[hn];exact hd
  obtain⟨nf,δ0,hk,hnf⟩:=fresh_ok R0.heap R0.facts hk;have R1:=R0.upL δ0
  have R2:Rel X (η++δ0) ι β {st with facts:=nf++st.facts} ρ E hl:=R1.fst fun f hf=>by
   rcases List.mem_append.1 hf with hf|hf
   ·exact hnf ρ f hf
   exact R1.facts f hf
  have K:KS X C hs k r (fun E w=>WL F.P all.toArray Q l n E w) (η++δ0) ι β ρ:=by
   have:=K.up δ0 [] [] (View.le_refl ρ);rwa[List.append_nil,List.append_nil]at this
  split at hk
  ·rename_i q hqq;obtain⟨z,hz,hk⟩:=Option.bind_eq_some_iff.1 hk;rw[hids]at hqq;obtain⟨v,κ,h1,h2,h3,h4⟩:=quiet_ok R2 G ⟨H.view,fun h hh=>H.all h (List.mem_append.2 (.inl hh))⟩ hqq hz;refine hq v (h4 w ⟨H.view,fun h hh=>H.all h (List.mem_append.2 (.inl hh))⟩ _ _ _ _ _) hin ?_;have R3:=R1.out (d:=o.dst) h1 h2 h3;have:=K (outSt st o.dst (q.out z)) (q.out z).δ κ [] ρ _ hl w (View.le_refl ρ) (by simpa using R3) H G hk;exact this
  split at hk
  ·rename_i e hee;obtain⟨z,hz,hk⟩:=Option.bind_eq_some_iff.1 hk;refine he _ (hE hee hz R2 H G _ _ _ _ _) hin fun v w' hp=>?_;obtain⟨κ,γ,ρ',hl',h1,h2,h3,h4⟩:=hp;exact K _ (e.out z).2.2 κ γ ρ' _ hl' w' h1 ((h3.fst fun f hf=>h3.facts f (mem_dropF hf)).put h2) h4 (G.up h1) hk
  cases hk
 cases hk
theorem inN_of(hn:n.n=F.nt){d:Option Nat}(hd:dOk F.nt d=true):inN n d=true:=by
 cases d with
 |none=>rfl
 |some d=>show Nat.blt d n.n=true;rw[hn];exact hd
theorem gd_of{j d:Nat}{b:Bool}(h1:(all[j]?).bind (·.dst)=some d)(h2:Eng.look E d=some (.bool b)):gd all.toArray E j=some b:=by
 unfold gd;have:all.toArray[j]? =all[j]? :=by simp
 rw[this,h1];simp only[h2]
theorem guard_und{o:Oper}(R0:Rel X η ι β st ρ E hl)(h:guard all st η o= .und): ∃j b,o.guard=some (j,b)∧gdU all.toArray E j:=by
 unfold guard at h;split at h
 ·cases h
 rename_i j b hg;split at h
 ·split at h
  ·split at h<;>cases h
  split at h<;>cases h
 ·split at h<;>cases h
 ·rename_i a hi;obtain⟨d,hd,hv⟩:=Option.bind_eq_some_iff.1 hi;obtain⟨u,hu,hr⟩:=R0.env.get hv;obtain rfl:u= .tuple a:=hr;split at h
  ·rename_i ha
   have ha':a= #[]:=by
    apply Array.toList_inj.1;simpa using ha
   subst ha';obtain⟨oo,h1,h2⟩:=Option.bind_eq_some_iff.1 hd;refine⟨j,b,hg,oo,d,by simpa using h1,h2,hu⟩
  cases h
 cases h
theorem guard_run{o:Oper}(R0:Rel X η ι β st ρ E hl)(h:guard all st η o= .run):o.guard=none∨ ∃j b,o.guard=some (j,b)∧gd all.toArray E j=some b:=by
 unfold guard at h;split at h
 ·rename_i hg;exact .inl hg
 rename_i j b hg;refine .inr ⟨j,b,hg,?_⟩;split at h
 ·rename_i i hi;obtain⟨d,hd,hv⟩:=Option.bind_eq_some_iff.1 hi;obtain⟨u,hu,l,hl,rfl⟩:=R0.env.get hv;split at h
  ·rename_i i' x hf;have hi':Nat.beq i' i=true:=by have:=List.find?_some hf;simpa using this
   obtain rfl:=beq_eqN hi';have hm:=R0.kn _ (List.mem_of_find?_eq_some hf);rw[hl]at hm;cases oi hm;split at h
   ·rename_i hx;subst hx;exact gd_of hd hu
   cases h
  split at h<;>cases h
 ·rename_i x hi;obtain⟨d,hd,hv⟩:=Option.bind_eq_some_iff.1 hi;obtain⟨u,hu,hr⟩:=R0.env.get hv;obtain rfl:u= .bool x:=hr;split at h
  ·rename_i hx;subst hx;exact gd_of hd hu
  cases h
 ·split at h<;>cases h
 cases h
theorem bne_of{b x:Bool}(h: ¬x=b):(b != x)=true:=by cases b<;>cases x<;>first|rfl|exact absurd rfl h
theorem guard_skip{o:Oper}(R0:Rel X η ι β st ρ E hl)(h:guard all st η o= .skip): ∃j b c,o.guard=some (j,b)∧gd all.toArray E j=some c∧(b != c)=true:=by
 unfold guard at h;split at h
 ·cases h
 rename_i j b hg;split at h
 ·rename_i i hi;obtain⟨d,hd,hv⟩:=Option.bind_eq_some_iff.1 hi;obtain⟨u,hu,l,hl,rfl⟩:=R0.env.get hv;split at h
  ·rename_i i' x hf;have hi':Nat.beq i' i=true:=by have:=List.find?_some hf;simpa using this
   obtain rfl:=beq_eqN hi';have hm:=R0.kn _ (List.mem_of_find?_eq_some hf);rw[hl]at hm;cases oi hm;split at h
   ·cases h
   rename_i hx;exact⟨j,b,x,hg,gd_of hd hu,bne_of hx⟩
  split at h<;>cases h
 ·rename_i x hi;obtain⟨d,hd,hv⟩:=Option.bind_eq_some_iff.1 hi;obtain⟨u,hu,hr⟩:=R0.env.get hv;obtain rfl:u= .bool x:=hr;split at h
  ·cases h
  rename_i hx;exact⟨j,b,x,hg,gd_of hd hu,bne_of hx⟩
 ·split at h<;>cases h
 cases h
theorem guard_ask{o:Oper}{i:Nat}{b x:Bool}(R0:Rel X η ι β st ρ E hl)(h:guard all st η o= .ask i b x): ∃j,o.guard=some (j,b)∧gd all.toArray E j=some x∧η[i]? =some ⟨.bool,x⟩:=by
 unfold guard at h;split at h
 ·cases h
 rename_i j b' hg;split at h
 ·rename_i i' hi;obtain⟨d,hd,hv⟩:=Option.bind_eq_some_iff.1 hi;obtain⟨u,hu,l,hl,rfl⟩:=R0.env.get hv;split at h
  ·split at h<;>cases h
  split at h
  ·rename_i y hy;cases h;rw[hl]at hy;cases oi hy;exact⟨j,hg,gd_of hd hu,hl⟩
  cases h
 ·split at h<;>cases h
 ·split at h<;>cases h
 cases h
theorem skip1_ok(hn:n.n=F.nt){R:Type}{k:St→List Leaf→Option R}{r:R}{o:Oper}{l:List Oper}{j:Nat}{b c:Bool}(R0:Rel X η ι β st ρ E hl)(H:Hp C w ρ (hl++hs))(G:GErrs ρ X.T X.ids X.ge)(hk:skip1 F st η o k=some r)
 (hg:o.guard=some (j,b)) (hj:gd all.toArray E j=some c) (hbc:(b != c)=true) (K:KS X C hs k r (fun E w=>WL F.P all.toArray Q l n E w) η ι β ρ):WL F.P all.toArray Q (o::l) n E w:=by
 unfold skip1 at hk;split at hk
 ·rename_i hd;exact gs hg hj hbc (inN_of hn hd) (K.at (R0.put (v:= .one (.cst undef)) (u:=undef) rfl) H G hk)
 cases hk
theorem ops_ok(hids:F.ids=X.ids)(hE:EffOk X F C hs)(hn:n.n=F.nt){R:Type}{k:Pl→St→List Leaf→Option R}{r:R}: ∀{l:List Oper} {pl:Pl} {η:List Leaf} {ι:List Value} {β:List Nat} {st:St} {ρ:View} {E:Env} {hl:List Hl} {w:World},Rel X η ι β st ρ E hl→Hp C w ρ (hl++hs)→GErrs ρ X.T X.ids X.ge→
 ops F all l pl st η k=some r→(∀pl,KS X C hs (k pl) r (fun E w=>XX Q .normal n E w) η ι β ρ)→WL F.P all.toArray Q l n E w
 | [],pl,η,ι,β,st,ρ,E,hl,w,R0,H,G,hk,K=>WL_nil ((K pl).at R0 H G hk)
 |o::l,pl,η,ι,β,st,ρ,E,hl,w,R0,H,G,hk,K=>by
   have K1: ∀pl,KS X C hs (fun s h=>ops F all l pl s h k) r (fun E w=>WL F.P all.toArray Q l n E w) η ι β ρ:=
    fun pl st δ κ γ ρ' E hl w h1 h2 h3 h4 h5=>ops_ok hids hE hn h2 h3 h4 h5 fun pl=>(K pl).up δ κ γ h1
   simp only[ops]at hk
   cases hgd:guard all st η o with
   |run=>
     rw[hgd]at hk;rcases guard_run R0 hgd with hg|⟨j,b,hg,hj⟩
     ·exact one1_ok hids hE hn R0 H G hk (fun v h hd hw=>nq h hg hd hw) (fun post h hd hw=>ne h hg hd hw) (K1 pl)
     exact one1_ok hids hE hn R0 H G hk (fun v h hd hw=>gq h hg hj hd hw) (fun post h hd hw=>ge h hg hj hd hw) (K1 pl)
   |skip=>
     rw[hgd]at hk;obtain⟨j,b,c,hg,hj,hbc⟩:=guard_skip R0 hgd;exact skip1_ok hn R0 H G hk hg hj hbc (K1 pl)
   |und=>
     rw[hgd]at hk;obtain⟨j,b,hg,hj⟩:=guard_und R0 hgd;have hk:skip1 F st η o (fun s h=>ops F all l pl s h k)=some r:=hk;unfold skip1 at hk;split at hk
     ·rename_i hd;exact gsu hg hj (inN_of hn hd) ((K1 pl).at (R0.put (v:= .one (.cst undef)) (u:=undef) rfl) H G hk)
     cases hk
   |ask i b x=>
     rw[hgd]at hk;simp only at hk;obtain⟨j,hg,hj,hi⟩:=guard_ask R0 hgd;split at hk
     ·rename_i p q;cases b
      ·simp only at hk;split at hk
       ·rename_i hx;subst hx;exact skip1_ok hn (R0.said hi) H G hk hg hj rfl (K1 p)
       rename_i hx;have hx:x=false:=by cases x<;>first|rfl|exact absurd rfl hx
       subst hx;exact one1_ok hids hE hn (R0.said hi) H G hk (fun v h hd hw=>gq h hg hj hd hw) (fun post h hd hw=>ge h hg hj hd hw) (K1 q)
      simp only at hk;split at hk
      ·rename_i hx;subst hx;exact one1_ok hids hE hn (R0.said hi) H G hk (fun v h hd hw=>gq h hg hj hd hw) (fun post h hd hw=>ge h hg hj hd hw) (K1 p)
      rename_i hx;have hx:x=false:=by cases x<;>first|rfl|exact absurd rfl hx
      subst hx;exact skip1_ok hn (R0.said hi) H G hk hg hj rfl (K1 q)
     cases hk
   |no=>rw[hgd]at hk;cases hk
theorem heapR_perm_part(q:HX→Bool){st:St}(R0:Rel X η ι β st ρ E hl): ∃a b,hl.Perm (a++b)∧Rel X η ι β {st with heap:=st.heap.filter q} ρ E a∧heapR X η ι β ρ (st.heap.filter fun h=> !q h) b:=by
 obtain⟨a,b,h1,h2,h3⟩:=heapR_part q R0.heap;exact⟨a,b,h1,⟨R0.env,h2,R0.facts,R0.na,R0.nb,R0.kn⟩,h3⟩
theorem guarded_ok{R:Type}{r:R}{o:Oper}{pl:Pl}{run skip:Pl→St→(HX→HX)→Option R}(R0:Rel X η ι β st ρ E hl)(h:guarded all st η o pl run skip=some r):
 ∃pl' st' f',Rel X η ι β st' ρ E hl∧(∀{ρ':View} {l:List HX} {hs:List Hl},heapR X η ι β ρ' l hs→heapR X η ι β ρ' (l.map f') hs)∧
   ((run pl' st' f'=some r∧(o.guard=none∨ ∃j b,o.guard=some (j,b)∧gd all.toArray E j=some b))∨
   (skip pl' st' f'=some r∧ ∃j b,o.guard=some (j,b)∧((∃c,gd all.toArray E j=some c∧(b != c)=true)∨gdU all.toArray E j))):=by
 unfold guarded at h
 cases hgd:guard all st η o with
 |run=>rw[hgd]at h;exact⟨pl,st,id,R0,fun h=>by rwa[List.map_id],.inl ⟨h,guard_run R0 hgd⟩⟩
 |skip=>
   rw[hgd]at h;obtain⟨j,b,c,hg,hj,hbc⟩:=guard_skip R0 hgd;exact⟨pl,st,id,R0,fun h=>by rwa[List.map_id],.inr ⟨h,j,b,hg,.inl ⟨c,hj,hbc⟩⟩⟩
 |und=>
   rw[hgd]at h;obtain⟨j,b,hg,hj⟩:=guard_und R0 hgd;exact⟨pl,st,id,R0,fun h=>by rwa[List.map_id],.inr ⟨h,j,b,hg,.inr hj⟩⟩
 |ask i b x=>
   rw[hgd]at h;simp only at h;obtain⟨j,hg,hj,hi⟩:=guard_ask R0 hgd;have kn: ∀y,x=y→Rel X η ι β (st.said i y) ρ E hl:=fun y hy=>R0.said (by rw[←hy];exact hi);have kh: ∀y,x=y→ ∀{ρ':View} {l:List HX} {hs:List Hl},heapR X η ι β ρ' l hs→heapR X η ι β ρ' (l.map (HX.sub i y)) hs:=fun y hy _ _ _ h=>heapR.sub (by rw[←hy];exact hi) h;split at h
   ·rename_i p q;cases b
    ·simp only at h;split at h
     ·rename_i hx;exact⟨p,_,_,kn _ hx,kh _ hx,.inr ⟨h,j,false,hg,.inl ⟨x,hj,by rw[hx];rfl⟩⟩⟩
     rename_i hx;have hx:x=false:=by cases x<;>first|rfl|exact absurd rfl hx
     exact⟨q,_,_,kn _ hx,kh _ hx,.inl ⟨h,.inr ⟨j,false,hg,by rw[hj,hx]⟩⟩⟩
    simp only at h;split at h
    ·rename_i hx;exact⟨p,_,_,kn _ hx,kh _ hx,.inl ⟨h,.inr ⟨j,true,hg,by rw[hj,hx]⟩⟩⟩
    rename_i hx;have hx:x=false:=by cases x<;>first|rfl|exact absurd rfl hx
    exact⟨q,_,_,kn _ hx,kh _ hx,.inr ⟨h,j,true,hg,.inl ⟨x,hj,by rw[hx];rfl⟩⟩⟩
   cases h
 |no=>rw[hgd]at h;cases h
def Sb(ρ0:View)(h0:List Hl)(vs:Nat×Nat×Value→Prop)(w:World):Prop:=Ok w ρ0 h0∧ ∀x,vs x→(hv w).cell x.1 x.2.1=some x.2.2
def Cl.R(X:Amb)(η:List Leaf)(ι:List Value)(β:List Nat):Cl→Nat×Nat×Value→Prop
 | .cell b o c,x=>β[b]? =some x.1∧x.2.1=o∧c.R X η ι β x.2.2
 | .hds h g _ _ r,x=> ∃(us:List Value) (v:Value) (j:Nat),ι[g]? =some (.agg us.toArray)∧ι[h]? =some v∧us[j]? =some x.2.2∧IdxOk v j (1+r.n) x.1 x.2.1
def Cl.has(X:Amb)(η:List Leaf)(ι:List Value)(β:List Nat)(vs:Nat×Nat×Value→Prop):Cl→Prop
 | .cell b o c=> ∃k u,vs (k,o,u)∧β[b]? =some k∧c.R X η ι β u
 | .hds h g i e r=> ∃(us:List Value) (v:Value) (xs:List (Tc.pair (.list e) r).den),ι[g]? =some (.agg us.toArray)∧ι[h]? =some v∧η[i]? =some ⟨.list (.pair (.list e) r),xs⟩∧us.length=xs.length∧ ∀(j:Nat) u b o,us[j]? =some u→IdxOk v j (1+r.n) b o→vs (b,o,u)
def csR(X:Amb)(η:List Leaf)(ι:List Value)(β:List Nat)(cs:Cls)(vs:Nat×Nat×Value→Prop):Prop:=
 (∀c∈cs,c.has X η ι β vs)∧ ∀x,vs x→ ∃c∈cs,c.R X η ι β x
theorem csR.up(δ:List Leaf)(κ:List Value)(γ:List Nat){cs:Cls}{vs:Nat×Nat×Value→Prop}(h:csR X η ι β cs vs):csR X (η++δ) (ι++κ) (β++γ) cs vs:=by
 refine⟨fun c hc=>?_,fun x hx=>?_⟩
 ·have h1:=h.1 c hc
  cases c with
  |cell b o c=>
    obtain⟨k,u,a1,a2,a3⟩:=h1;exact⟨k,u,a1,get_app _ a2,CX.R.up δ κ γ a3⟩
  |hds hh g i e r=>
    obtain⟨us,v,xs,a1,a2,a3,a4,a5⟩:=h1;exact⟨us,v,xs,get_app _ a1,get_app _ a2,get_app _ a3,a4,a5⟩
 obtain⟨c,hc,h1⟩:=h.2 x hx;refine⟨c,hc,?_⟩
 cases c with
 |cell b o c=>exact⟨get_app _ h1.1,h1.2.1,CX.R.up δ κ γ h1.2.2⟩
 |hds hh g i e r=>
   obtain⟨us,v,j,a1,a2,a3,a4⟩:=h1;exact⟨us,v,j,get_app _ a1,get_app _ a2,a3,a4⟩
theorem hdr_cell{α:Type}{r:Enc α}{v u:Value}{us cs:List Value}{ys:List α}{j b o:Nat}{h:View}(hp:(Arr v (1+r.n) cs).P h)(hl:us.length=ys.length)(hr:rdL (eP eH r) nov (us.zip ys) cs)(hu:us[j]? =some u)(hi:IdxOk v j (1+r.n) b o):h.cell b o=some u:=by
 obtain⟨a0,len,cap,rfl,_,_,rfl⟩:=hi;have hc:=arr_cells_at hp;have hj:j<ys.length:=by have:=(List.getElem?_eq_some_iff.1 hu).1;omega
 obtain⟨c1,c2,q2,⟨q3,_⟩,_⟩:=hr.get (i:=j) (x:=(u,ys[j])) (by rw[List.getElem?_zip_eq_some];exact⟨hu,List.getElem?_eq_getElem hj⟩);subst q3;have q4:=hc.part (j*(1+r.n)) (1+r.n);have q5:(eP eH r).n=1+r.n:=rfl;rw[q5]at q2;rw[q2]at q4;have:=q4 0 u rfl;simpa using this
theorem box_cell{blk o:Nat}{vs:List Value}{u:Value}{h:View}(hp:(Box blk vs).P h)(hu:vs[o]? =some u):h.cell blk o=some u:=by
 obtain⟨T0,hb⟩:=hp;have hb:h blk=some (.cells vs.toArray T0 (0,0)):=hb;simp[View.cell,hb,hu]
theorem cOk_ok(R0:Rel X η ι β st ρ E hl)(H:Hp C w ρ (hl++hs)){cs:Cls}{vs:Nat×Nat×Value→Prop}(hc:cOk cs st=true)(hr:csR X η ι β cs vs)(x:Nat×Nat×Value)(hx:vs x):(hv w).cell x.1 x.2.1=some x.2.2:=by
 obtain⟨c,hm,h1⟩:=hr.2 x hx;have h0:=List.all_eq_true.1 hc c hm
 cases c with
 |cell b o c=>
   simp only[cOk1]at h0;split at h0
   ·rename_i c' h2;obtain rfl:=CX.beq_ok h0;obtain⟨l,h3,h4⟩:=Option.bind_eq_some_iff.1 h2;obtain⟨j,blk,us,a0,a1,a2⟩:=heapB_ok h3 R0.heap;obtain⟨b1,b2,b3⟩:=h1;rw[a1]at b1;obtain⟨v,e1,e2⟩:=a2.get h4;have e3:=CX.det e2 b3;rw[e3,←b2]at e1;rw[←oi b1];exact box_cell (H.all _ (List.mem_append.2 (.inl (List.mem_of_getElem? a0)))) e1
   cases h0
 |hds k g i e r=>
   obtain⟨us,v,j,a1,a2,a3,a4⟩:=h1;simp only[cOk1]at h0;split at h0
   ·rename_i e' r' g' i' hO;obtain⟨rfl,rfl,rfl⟩:=of_decide_eq_true h0;obtain⟨jj,v',hl1,b0,b1,b2,us',xs',b3,b4,b5,rfl⟩:=heapO_ok hO R0.heap;rw[b1]at a2;obtain rfl:=oi a2;rw[b3]at a1;obtain rfl:us'=us:=by simpa using a1
    obtain⟨cs',c1,c2,c3⟩:=H.all _ (List.mem_append.2 (.inl (List.mem_of_getElem? b0)));have hn:=enc_n X r';rw[←hn]at a4;exact hdr_cell (r:=r'.enc X) c1 (by have:=c2.len;simpa using this) c3 a3 a4
   ·rename_i e' r' g' m' x' i' hO;obtain⟨rfl,rfl,rfl⟩:=of_decide_eq_true h0;obtain⟨jj,v',hl1,b0,b1,b2,us',xs',kk,mm,y,b3,b4,b5,b6,b7,b8,rfl⟩:=heapO_ok hO R0.heap;rw[b1]at a2;obtain rfl:=oi a2;rw[b3]at a1;obtain rfl:us'=us:=by simpa using a1
    obtain⟨cs',c1,c2,c3,c4⟩:=H.all _ (List.mem_append.2 (.inl (List.mem_of_getElem? b0)));have hn:=enc_n X r';rw[←hn]at a4;exact hdr_cell (r:=r'.enc X) c1 (by simpa using c3) c4 a3 a4
   cases h0
theorem chk_some{R:Type}{cs:Cls}{x:Option R}{r:R}(h:chk cs st x=some r):cOk cs st=true∧x=some r:=by
 unfold chk at h;split at h
 ·exact⟨by assumption,h⟩
 cases h
theorem lookC_mem{b o:Nat}{c:CX}: ∀{cs:Cls},lookC b o cs=some c→Cl.cell b o c∈cs
 | .cell j q c'::cs,h=>by
   simp only[lookC]at h
   cases hb:Nat.beq j b&&Nat.beq q o with
   |true=>
     rw[hb]at h;obtain rfl:=oi h;simp only[Bool.and_eq_true]at hb;obtain rfl:=Nat.eq_of_beq_eq_true hb.1;obtain rfl:=Nat.eq_of_beq_eq_true hb.2;exact List.mem_cons_self ..
   |false=>
     rw[hb]at h;exact List.mem_cons_of_mem _ (lookC_mem h)
 | .hds .. ::_,h=>List.mem_cons_of_mem _ (lookC_mem h)
 | [],h=>by cases h
theorem lookH_mem{k g i:Nat}{e r:Tc}: ∀{cs:Cls},lookH k cs=some (g,i,e,r)→Cl.hds k g i e r∈cs
 | .hds j g' i' e' r'::cs,h=>by
   simp only[lookH]at h
   cases hb:Nat.beq j k with
   |true=>
     rw[hb]at h;cases oi h;obtain rfl:=Nat.eq_of_beq_eq_true hb;exact List.mem_cons_self ..
   |false=>
     rw[hb]at h;exact List.mem_cons_of_mem _ (lookH_mem h)
 | .cell .. ::_,h=>List.mem_cons_of_mem _ (lookH_mem h)
 | [],h=>by cases h
theorem lookC_ok{b o:Nat}{c:CX}{cs:Cls}{vs:Nat×Nat×Value→Prop}(h:lookC b o cs=some c)(hr:csR X η ι β cs vs): ∃k u,vs (k,o,u)∧β[b]? =some k∧c.R X η ι β u:=hr.1 _ (lookC_mem h)
theorem qCell_ok(R0:Rel X η ι β st ρ E hl){P:Program}{op:Op}{c:CX}{cs:Cls}{vs:Nat×Nat×Value→Prop}(hcs:csR X η ι β cs vs)(h:qCell P cs st op=some c): ∃u,c.R X η ι β u∧ ∀w,(∀x,vs x→(hv w).cell x.1 x.2.1=some x.2.2)→ ∀d ty pos af g,Qv P E ⟨d,op,ty,pos,af,g⟩ u w:=by
 unfold qCell at h;split at h
 ·rename_i T x;split at h
  ·rename_i b o n by_ z hx hty;split at h
   ·rename_i hn;subst hn;obtain⟨k,u,g1,g2,g3⟩:=lookC_ok h hcs;obtain⟨pv,q1,blk,q2,rfl⟩:=R0.op hx;rw[g2]at q2;obtain rfl:=oi q2;refine⟨u,g3,fun w hw d ty pos af g=>Q_ld (cs:=[u]) (fun j v hj=>?_) (tyI_ok hty) rfl (fun _=>rfl) q1 rfl⟩
    cases j with
    |zero=>
              obtain rfl:u=v:=by simpa using hj
              exact hw _ g1
    |succ j=>simp at hj
   cases h
  cases h
 cases h
theorem csR.cons{c:Cl}{cs:Cls}{vs vs':Nat×Nat×Value→Prop}(h1:c.has X η ι β vs')(h2: ∀x,vs' x→c.R X η ι β x)(h:csR X η ι β cs vs):csR X η ι β (c::cs) fun x=>vs' x∨vs x:=by
 refine⟨fun d hd=>?_,fun x hx=>?_⟩
 ·rcases List.mem_cons.1 hd with rfl|hd
  ·cases d with
   |cell b o c=>
     obtain⟨k,u,a1,a2⟩:=h1;exact⟨k,u,.inl a1,a2⟩
   |hds hh g i e r=>
     obtain⟨us,v,xs,a1,a2,a3,a4,a5⟩:=h1;exact⟨us,v,xs,a1,a2,a3,a4,fun j u b o q1 q2=> .inl (a5 j u b o q1 q2)⟩
  have h3:=h.1 d hd
  cases d with
  |cell b o c=>
    obtain⟨k,u,a1,a2⟩:=h3;exact⟨k,u,.inr a1,a2⟩
  |hds hh g i e r=>
    obtain⟨us,v,xs,a1,a2,a3,a4,a5⟩:=h3;exact⟨us,v,xs,a1,a2,a3,a4,fun j u b o q1 q2=> .inr (a5 j u b o q1 q2)⟩
 rcases hx with hx|hx
 ·exact⟨c,List.mem_cons_self ..,h2 x hx⟩
 obtain⟨d,hd,h4⟩:=h.2 x hx;exact⟨d,List.mem_cons_of_mem _ hd,h4⟩
theorem cells0(R0:Rel X η ι β st ρ E hl)(H:Hp C w ρ (hl++hs)): ∀(ps:List Pa),∃vs,csR X η ι β (cellsOf st ps) vs∧ ∀x,vs x→(hv w).cell x.1 x.2.1=some x.2.2
 | []=>⟨fun _=>False,⟨fun _ h=>(nomatch h),fun _ h=>h.elim⟩,fun _ h=>h.elim⟩
 |p::ps=>by
   obtain⟨vs,h1,h2⟩:=cells0 R0 H ps
   cases p with
   |c q j=>
     simp only[cellsOf];split
     ·split
      ·rename_i b o _ c hc;obtain⟨l,h3,h4⟩:=Option.bind_eq_some_iff.1 hc;obtain⟨i,blk,us,a0,a1,a2⟩:=heapB_ok h3 R0.heap;obtain⟨v,e1,e2⟩:=a2.get h4;refine⟨_,csR.cons (vs':=fun x=>x=(blk,_,v)) ⟨blk,v,rfl,a1,e2⟩ (fun x hx=>?_) h1,fun x hx=>?_⟩
       ·subst hx;exact⟨a1,rfl,e2⟩
       rcases hx with hx|hx
       ·subst hx;exact box_cell (H.all _ (List.mem_append.2 (.inl (List.mem_of_getElem? a0)))) e1
       exact h2 x hx
      exact⟨vs,h1,h2⟩
     ·split
      ·rename_i k _ e r g i hO;obtain⟨jj,v',hl1,b0,b1,b2,us',xs',b3,b4,b5,rfl⟩:=heapO_ok hO R0.heap;obtain⟨cs',c1,c2,c3⟩:=H.all _ (List.mem_append.2 (.inl (List.mem_of_getElem? b0)));have hl:us'.length=xs'.length:=by have:=c2.len;simpa using this
       refine⟨_,csR.cons (vs':=fun x=> ∃j:Nat,us'[j]? =some x.2.2∧IdxOk v' j (1+r.n) x.1 x.2.1) ⟨us',v',xs',b3,b1,b4,hl,fun j u b o q1 q2=>⟨j,q1,q2⟩⟩ (fun x hx=>?_) h1,fun x hx=>?_⟩
       ·obtain⟨j,q1,q2⟩:=hx;exact⟨us',v',j,b3,b1,q1,q2⟩
       rcases hx with⟨j,q1,q2⟩|hx
       ·have hn:=enc_n X r;rw[←hn]at q2;exact hdr_cell (r:=r.enc X) c1 (by simpa using hl) c3 q1 q2
       exact h2 x hx
      exact⟨vs,h1,h2⟩
     exact⟨vs,h1,h2⟩
   |_=>exact⟨vs,h1,h2⟩
theorem qHd_ok(R0:Rel X η ι β st ρ E hl){P:Program}{op:Op}{x:Out}{cs:Cls}{sf:List Fact}{vs:Nat×Nat×Value→Prop}{ρ0:View}(hsf: ∀f∈sf,f.R X η ι ρ0)(hcs:csR X η ι β cs vs)(h:qHd P cs sf st η op=some x):
 ∃u,x.v.R X (η++x.δ) (ι++ [u]) β u∧x.na=1∧(∀ρ',∀f∈x.fs,f.R X (η++x.δ) (ι++ [u]) ρ')∧ ∀w,(∀x,vs x→(hv w).cell x.1 x.2.1=some x.2.2)→ ∀d ty pos af g,Qv P E ⟨d,op,ty,pos,af,g⟩ u w:=by
 unfold qHd at h;split at h
 ·rename_i T x1;split at h
  ·rename_i k n by_ zz hx hty;split at h
   ·rename_i hh t m i x0 hf;split at h
    ·rename_i g i' e r hH;split at h
     ·rename_i hc;obtain⟨rfl,rfl,rfl⟩:=hc;split at h
      ·rename_i y hy;obtain rfl:=oi h;obtain⟨us,v,xs,a1,a2,a3,a4,a5⟩:=hcs.1 _ (lookH_mem hH);obtain⟨v0,b',o',xs0,y0,kk',mm',f1,f2,f3,f4,f5,f6,f7⟩:=hsf _ (factE_ok hf);obtain⟨uu,h2,b,a,h3,rfl⟩:=R0.op hx;rw[h3]at f1;cases oi f1;rw[leafAs hy]at f6;cases oi f6;rw[f2]at a2;obtain rfl:=oi a2;rw[a3]at f5;cases oi f5;obtain⟨g0,g1,g2⟩:=idx_some f7;have hj:mm'.toNat<us.length:=by rw[a4];exact(List.getElem?_eq_some_iff.1 g2).1
       have hu:us[mm'.toNat]? =some us[mm'.toNat]:=List.getElem?_eq_getElem hj;have hmm:((mm'.toNat:Nat):Int)=mm':=Int.toNat_of_nonneg g0;have hvs:=a5 _ _ _ _ hu (by rw[hmm];exact f4);refine⟨us[mm'.toNat],?_,rfl,fun ρ' f hf=>?_,fun w hw d ty pos af g=>?_⟩
       ·show(ι++ [_])[st.na]? =some _;rw[←R0.na];simp
       ·obtain rfl:=List.mem_singleton.1 hf;exact⟨us,_,kk',mm',xs,y,get_app _ a1,by rw[←R0.na];simp,get_app _ f3,hu,get_app _ a3,get_app _ (leafAs hy),f7,List.getElem?_concat_length ..⟩
       refine Q_ld (cs:=[us[mm'.toNat]]) (fun j v hj=>?_) (tyI_ok hty) rfl (fun _=>rfl) h2 rfl
       cases j with
       |zero=>
                 obtain rfl:us[mm'.toNat]=v:=by simpa using hj
                 exact hw _ hvs
       |succ j=>simp at hj
      cases h
     cases h
    cases h
   cases h
  cases h
 cases h
theorem take1_ok(hids:F.ids=X.ids)(hn:n.n=F.nt){R:Type}{k:St→List Fact→List Leaf→Option R}{r:R}{o:Oper}{Z:Env→World→Prop}{Y:Prop}{sh:List HX}{sf:List Fact}{cs:Cls}{vs:Nat×Nat×Value→Prop}{ρ0:View}{h0:List Hl}(R0:Rel X η ι β st ρ E hl)
 (hsh:heapR X η ι β ρ0 sh h0) (hsf: ∀f∈sf,f.R X η ι ρ0) (hcs:csR X η ι β cs vs) (hle:View.le ρ0 ρ) (hok:Ok w ρ0 h0) (G:GErrs ρ0 X.T X.ids X.ge) (hk:take1 F sh sf cs st η o k=some r)
 (hq: ∀v,(∀w',Sb ρ0 h0 vs w'→Qv F.P E o v w')→inN n o.dst=true→Z (putE E o.dst v) w→Y)
 (K: ∀st δ κ E sf,Rel X (η++δ) (ι++κ) β st ρ E hl→(∀f∈sf,f.R X (η++δ) (ι++κ) ρ0)→k st sf (η++δ)=some r→Z E w):Y:=by
 unfold take1 at hk;split at hk
 ·rename_i hd;obtain⟨nf,δ0,hk,hnf⟩:=fresh_ok hsh hsf hk;have R1:=R0.upL δ0;have hsh1:=hsh.up δ0 [] [] (View.le_refl ρ0);rw[List.append_nil,List.append_nil]at hsh1
  have hsf1: ∀f∈sf,f.R X (η++δ0) ι ρ0:=fun f hf=>by
   have:=(hsf f hf).up δ0 [] (View.le_refl ρ0);rwa[List.append_nil]at this
  split at hk
  ·rename_i q hqq;obtain⟨z,hz,hk⟩:=Option.bind_eq_some_iff.1 hk;rw[hids]at hqq
   have R2:Rel X (η++δ0) ι β {st with heap:=sh,facts:=nf++sf} ρ0 E h0:=⟨R1.env,hsh1,fun f hf=>by
    rcases List.mem_append.1 hf with hf|hf
    ·exact hnf ρ0 f hf
    exact hsf1 f hf,R1.na,R1.nb,R1.kn⟩
   obtain⟨v,κ,h1,h2,h3,h4⟩:=quiet_ok R2 G hok hqq hz
   have R3:=R1.out (d:=o.dst) h1 h2 fun f hf=>by
    have:=(h3 f hf).up [] [] hle;rwa[List.append_nil,List.append_nil]at this
   rw[List.append_assoc]at R3 hk h3;refine hq v (fun w' hw=>h4 w' hw.1 _ _ _ _ _) (inN_of hn hd) (K _ (δ0++(q.out z).δ) κ _ _ R3 (fun f hf=>?_) hk);rcases List.mem_append.1 hf with hf|hf
   ·have:=(hsf1 f hf).up (q.out z).δ κ (View.le_refl ρ0);rwa[List.append_assoc]at this
   exact h3 f hf
  split at hk
  ·rename_i c hc;obtain⟨u,h1,h2⟩:=qCell_ok R0 hcs hc
   have R3:=R1.put (d:=o.dst) (v:= .one c) (u:=u) (by
    have:=CX.R.up δ0 [] [] h1;rwa[List.append_nil,List.append_nil]at this)
   refine hq u (fun w' hw=>h2 w' hw.2 _ _ _ _ _) (inN_of hn hd) (K _ δ0 [] _ _ (by rw[List.append_nil];exact R3) (fun f hf=>by rw[List.append_nil];exact hsf1 f hf) hk)
  split at hk
  ·rename_i x hx
   obtain⟨u,h1,h2,h3,h4⟩:=qHd_ok R1 hsf1 (by
    have:=csR.up δ0 [] [] hcs;rwa[List.append_nil,List.append_nil]at this) hx
   have R3:=R1.out (d:=o.dst) h1 h2.symm fun f hf=>h3 _ f hf;rw[List.append_assoc]at R3 hk h3;refine hq u (fun w' hw=>h4 w' hw.2 _ _ _ _ _) (inN_of hn hd) (K _ (δ0++x.δ) [u] _ _ R3 (fun f hf=>?_) hk);rcases List.mem_append.1 hf with hf|hf
   ·have:=(hsf1 f hf).up x.δ [u] (View.le_refl ρ0);rwa[List.append_assoc]at this
   exact h3 _ f hf
  cases hk
 cases hk
theorem eff1_ok(hids:F.ids=X.ids)(hE: ∀hs,EffOk X F C hs)(hn:n.n=F.nt){R:Type}{k:St→List Leaf→Option R}{r:R}{o:Oper}{Z:Env→World→Prop}{Y:Prop}{sh:List HX}{ρ0:View}{h0:List Hl}(R0:Rel X η ι β st ρ E hl)
 (hsh:heapR X η ι β ρ0 sh h0) (hle:View.le ρ0 ρ) (G:GErrs ρ X.T X.ids X.ge) (H:Hp C w ρ (hl++(h0++hs))) (hk:eff1 F sh st η o k=some r)
 (he: ∀post,Eff F.P E o w post→inN n o.dst=true→(∀v w',post v w'→Z (putE E o.dst v) w')→Y)
 (K: ∀st δ κ γ ρ' E hl w,View.le ρ ρ'→Rel X (η++δ) (ι++κ) (β++γ) st ρ' E hl→Hp C w ρ' (hl++(h0++hs))→k st (η++δ)=some r→Z E w):Y:=by
 unfold eff1 at hk;split at hk
 ·rename_i hd
  have hsh0:heapR X η ι β ρ sh h0:=by
   have:=hsh.up [] [] [] hle;rwa[List.append_nil,List.append_nil,List.append_nil]at this
  obtain⟨nf,δ0,hk,hnf⟩:=fresh_ok (R0.heap.app hsh0) R0.facts hk;have R0:=R0.upL δ0;have hsh1:=hsh0.up δ0 [] [] (View.le_refl ρ);rw[List.append_nil,List.append_nil]at hsh1;have hsh2:=hsh.up δ0 [] [] (View.le_refl ρ0);rw[List.append_nil,List.append_nil]at hsh2
  have hfs: ∀f∈nf++st.facts,f.R X (η++δ0) ι ρ:=fun f hf=>by
   rcases List.mem_append.1 hf with hf|hf
   ·exact hnf ρ f hf
   exact R0.facts f hf
  have K: ∀st δ κ γ ρ' E hl w,View.le ρ ρ'→Rel X (η++δ0++δ) (ι++κ) (β++γ) st ρ' E hl→Hp C w ρ' (hl++(h0++hs))→k st (η++δ0++δ)=some r→Z E w:=fun st δ κ γ ρ' E hl w a1 a2 a3 a4=>by
   rw[List.append_assoc]at a2 a4;exact K st (δ0++δ) κ γ ρ' E hl w a1 a2 a3 a4
  split at hk
  ·rename_i q hqq;obtain⟨z,hz,hk⟩:=Option.bind_eq_some_iff.1 hk;rw[hids]at hqq;have R1:Rel X (η++δ0) ι β {st with heap:=st.heap++sh,facts:=nf++st.facts} ρ E (hl++h0):=⟨R0.env,R0.heap.app hsh1,hfs,R0.na,R0.nb,R0.kn⟩
   have hok:Ok w ρ (hl++h0):=H.okS fun h hh=>by
    rcases List.mem_append.1 hh with hh|hh
    ·exact List.mem_append.2 (.inl hh)
    exact List.mem_append.2 (.inr (List.mem_append.2 (.inl hh)))
   obtain⟨v,κ,h1,h2,h3,h4⟩:=quiet_ok R1 G hok hqq hz;refine he (fun u w'=>u=v∧w'=w) (Eff.of_run fun n a hf=>⟨v,w,h4 w hok _ _ _ _ _ n a hf,rfl,rfl⟩) (inN_of hn hd) ?_;rintro u w' ⟨rfl,rfl⟩;refine K _ _ κ [] ρ _ hl w' (View.le_refl ρ) ?_ H hk;rw[List.append_nil];exact R0.out h1 h2 h3
  split at hk
  ·rename_i e hee;obtain⟨z,hz,hk⟩:=Option.bind_eq_some_iff.1 hk;split at hk
   ·rename_i u hu;obtain⟨a,b,p1,p2,p3⟩:=heapR_part HX.flat hsh2
    have p2':heapR X (η++δ0) ι β ρ (sh.filter HX.flat) a:=by
     have:=p2.up [] [] [] hle;rwa[List.append_nil,List.append_nil,List.append_nil]at this
    have R1:Rel X (η++δ0) ι β {st with heap:=st.heap++sh.filter HX.flat,facts:=nf++st.facts} ρ E (hl++a):=⟨R0.env,R0.heap.app p2',hfs,R0.na,R0.nb,R0.kn⟩
    have H1:Hp C w ρ ((hl++a)++(b++hs)):=by
     refine H.perm ?_;rw[List.append_assoc];refine List.Perm.append_left hl ?_;rw[←List.append_assoc];exact p1.append_right hs
    refine he _ (hE (b++hs) hee hz R1 H1 G _ _ _ _ _) (inN_of hn hd) fun v w' hp=>?_;obtain⟨κ,γ,ρ',hl',h1,h2,h3,h4⟩:=hp;obtain⟨hu',q1,q2⟩:=takeXs_ok (List.all_eq_true.2 fun x hx=>(List.mem_filter.1 hx).2) (p2.up (e.out z).2.2 κ γ (View.le_refl ρ0)) hu h3.heap;refine K _ (e.out z).2.2 κ γ ρ' _ hu' w' h1 (Rel.put (st:={(e.out z).1 with heap:=u,facts:=(e.out z).1.facts.drop nf.length}) ⟨h3.env,q2,fun f hf=>h3.facts f (mem_dropF hf),h3.na,h3.nb,h3.kn⟩ h2) ?_ hk;refine h4.perm ?_;refine(q1.append_right (b++hs)).trans ?_;have e1:a++hu'++(b++hs)=a++(hu'++(b++hs)):=List.append_assoc ..;rw[e1];refine List.perm_append_comm.trans ?_;rw[List.append_assoc,List.append_assoc];refine List.Perm.append_left hu' ?_;refine(List.perm_append_comm_assoc b hs a).trans ?_;refine(List.perm_append_comm (l₁:=hs) (l₂:=b++a)).trans ?_;exact((List.perm_append_comm (l₁:=b) (l₂:=a)).trans p1.symm).append_right hs
   cases hk
  cases hk
 cases hk
theorem Rel.box(R:Rel X η ι β st ρ E hl){cs:List CX}{us:List Value}(b:Nat)(hr:cellsR X η ι β cs us):
 Rel X (η++ []) (ι++ []) (β++ [b]) {st with heap:= .box st.nb cs::st.heap,nb:=st.nb+1} ρ E (Box b us::hl):=by
 refine⟨R.env.up [] [] [b],⟨⟨b,us,by rw[←R.nb];simp,hr.up [] [] [b],rfl⟩,R.heap.up [] [] [b] (View.le_refl ρ)⟩,fun f hf=>(R.facts f hf).up [] [] (View.le_refl ρ),by simpa using R.na,by simp[R.nb],fun p hp=>get_app _ (R.kn p hp)⟩
def subL(E E':Env):Prop:= ∀k v,Eng.look E k=some v→Eng.look E' k=some v
theorem subL.rfl{E:Env}:subL E E:=fun _ _ h=>h
theorem subL.put{E E':Env}(h:subL E E')(d:Option Nat)(v:Value):subL (putE E d v) (putE E' d v):=by
 intro k u hk
 cases d with
 |none=>exact h k u hk
 |some d=>
   simp only[putE,Eng.look]at hk ⊢
   cases hb:Nat.beq d k with
   |true=>rw[hb]at hk;exact hk
   |false=>rw[hb]at hk;exact h k u hk
theorem Fr.subL'{a:Act}{E E':Env}(h:Fr n a E')(hs:subL E E'):Fr n a E:=⟨h.size,h.defers,fun k v hk=>h.slots k v (hs k v hk)⟩
theorem QvS{P:Program}{E E':Env}{o:Oper}{v:Value}(hs:subL E E')(h:Qv P E o v w):Qv P E' o v w:=fun n a hf=>h n a ⟨hf.size,hf.defers,fun k v hk=>hf.slots k v (hs k v hk)⟩
theorem EffS{P:Program}{E E':Env}{o:Oper}{post:Value→World→Prop}(hs:subL E E')(h:Eff P E o w post):Eff P E' o w post:=fun n a hf=>h n a ⟨hf.size,hf.defers,fun k v hk=>hf.slots k v (hs k v hk)⟩
theorem XXS{E E':Env}{e:Exit}(hs:subL E E')(h:XX Q e n E w):XX Q e n E' w:=fun a hf=>h a (Fr.subL' hf hs)
theorem gd_subL{E E':Env}{j:Nat}{b:Bool}(hs:subL E E')(h:gd all.toArray E j=some b):gd all.toArray E' j=some b:=by
 unfold gd at h ⊢
 cases h1:(all.toArray[j]?).bind (·.dst)with
 |none=>rw[h1]at h;cases h
 |some d=>
   rw[h1]at h;simp only at h ⊢;split at h
   ·rename_i b' h2;rw[hs _ _ h2];exact h
   cases h
theorem gdU_subL{E E':Env}{j:Nat}(hs:subL E E')(h:gdU all.toArray E j):gdU all.toArray E' j:=by
 obtain⟨o,d,h1,h2,h3⟩:=h;exact⟨o,d,h1,h2,hs _ _ h3⟩
theorem beqO_ok: ∀{a b:Ord},a.beq b=true→a=b
 | .done,.done,_=>rfl
 | .take i r,.take j s,h=>by
   simp only[Eng.Ord.beq,Bool.and_eq_true]at h;rw[Nat.eq_of_beq_eq_true h.1,beqO_ok h.2]
 | .one i r,.one j s,h=>by
   simp only[Eng.Ord.beq,Bool.and_eq_true]at h;rw[Nat.eq_of_beq_eq_true h.1,beqO_ok h.2]
 | .two a b r s,.two a' b' r' s',h=>by
   simp only[Eng.Ord.beq,Bool.and_eq_true]at h;rw[Nat.eq_of_beq_eq_true h.1,Nat.eq_of_beq_eq_true h.2.1,beqO_ok h.2.2.1,beqO_ok h.2.2.2]
 | .three ..,b,h=>by cases b<;>simp[Eng.Ord.beq]at h
 | .bar i K r,.bar j L s,h=>by
   simp only[Eng.Ord.beq,Bool.and_eq_true]at h
   have:K=L:=by
    have:=h.2.1
    cases K<;>cases L<;>simp only[eqON]at this<;>first
     |rfl
     |contradiction
     |rw[Nat.eq_of_beq_eq_true this]
   rw[Nat.eq_of_beq_eq_true h.1,this,beqO_ok h.2.2]
 | .bar ..,.done,h| .bar ..,.take ..,h| .bar ..,.one ..,h| .bar ..,.two ..,h| .bar ..,.three ..,h=>by cases h
 | .done,.take ..,h| .done,.one ..,h| .done,.two ..,h| .done,.three ..,h| .done,.bar ..,h=>by cases h
 | .take ..,.done,h| .take ..,.one ..,h| .take ..,.two ..,h| .take ..,.three ..,h| .take ..,.bar ..,h=>by cases h
 | .one ..,.done,h| .one ..,.take ..,h| .one ..,.two ..,h| .one ..,.three ..,h| .one ..,.bar ..,h=>by cases h
 | .two ..,.done,h| .two ..,.take ..,h| .two ..,.one ..,h| .two ..,.three ..,h| .two ..,.bar ..,h=>by cases h
def minus(all:List Oper)(fl:Option (Nat×Nat))(od:Ord):Option Ord:=match fl with
 |none=>some od
 |some p=>od.drop all p.1 p.2
def FlOk(P:Program)(all:List Oper)(E E2:Env)(hs hs':List Hl):Option (Nat×Nat)→Prop
 |none=>hs'=hs
 |some (j,d)=> ∃T ty pos af blk m by_ z ag,all[j]? =some ⟨some d,.alloc T,ty,pos,af,none⟩∧tyI P T=some (m,by_,z,ag)∧Eng.look E2 d=some (.pointer (some ⟨blk,0,none⟩))∧Eng.look E d=none∧hs'=Box blk z.cells.toList::hs
theorem FlOk.put{P:Program}{E E2:Env}{hs hs':List Hl}{fl:Option (Nat×Nat)}{i:Nat}{o:Oper}(h:FlOk P all E E2 hs hs' fl)(ho:all[i]? =some o)(hd: ∀p,fl=some p→okd all p.1 p.2 i=true)(v:Value):FlOk P all (putE E o.dst v) (putE E2 o.dst v) hs hs' fl:=by
 cases fl with
 |none=>exact h
 |some p=>
   obtain⟨j,d⟩:=p;have hk:=hd _ rfl;obtain⟨T,ty,pos,af,blk,m,by_,z,ag,h1,h2,h3,h4,h5⟩:=h;simp only[okd,ho,Bool.and_eq_true]at hk;refine⟨T,ty,pos,af,blk,m,by_,z,ag,h1,h2,?_,?_,h5⟩
   all_goals
    cases hd:o.dst with
    |none=>first|exact h3|exact h4
    |some d'=>
      rw[hd]at hk
      have:Nat.beq d' d=false:=by
       cases hb:Nat.beq d' d with
       |false=>rfl
       |true=>
         obtain rfl:=Nat.eq_of_beq_eq_true hb;simp[Nat.beq_refl]at hk
      simp only[putE,Eng.look,this,cond_false];first|exact h3|exact h4
section
variable {R:Type}(k:Pl→St→List Leaf→Option R)(r:R)(hs:List Hl)
def OD(X:Amb)(F:Cfg)(n:FN)(C:Cx)(Q:Exit→Act→World→Prop)(all:List Oper)(od:Ord):Prop:=
 ∀{fl:Option (Nat×Nat)} {od2:Ord} {pl:Pl} {us:List (List Pa)} {sh:List HX} {sf:List Fact} {cs:Cls} {vs:Nat×Nat×Value→Prop} {η:List Leaf} {ι:List Value} {β:List Nat} {st:St} {ρ0 ρ:View} {E E2:Env} {hl h0 hs':List Hl} {w:World},
   minus all fl od=some od2→FlOk F.P all E E2 hs hs' fl→subL E E2→Rel X η ι β st ρ E hl→
   heapR X η ι β ρ0 sh h0→(∀f∈sf,f.R X η ι ρ0)→csR X η ι β cs vs→View.le ρ0 ρ→GErrs ρ0 X.T X.ids X.ge→Hp C w ρ (hl++(h0++hs'))→
   opsD F all od pl us sh sf cs st η k=some r→(∀pl,KS X C hs (k pl) r (fun E w=>XX Q .normal n E w) η ι β ρ)→DL F.P all.toArray (Sb ρ0 h0 vs) Q od2 n E2 w
end
theorem opsD_c{R:Type}{all:List Oper}{od:Ord}{pl:Pl}{us:List (List Pa)}{sh:List HX}{sf:List Fact}{cs:Cls}{k:Pl→St→List Leaf→Option R}{r:R}(h:opsD F all od pl us sh sf cs st η k=some r):cOk cs st=true:=by
 cases od with
 |three=>cases h
 |two i j r s=>unfold opsD at h;exact(chk_some h).1
 |done=>exact(chk_some h).1
 |take i r=>exact(chk_some h).1
 |one i r=>exact(chk_some h).1
 |bar i K r=>exact(chk_some h).1
theorem h0_ok{ρ0:View}{h0 hs':List Hl}(hle:View.le ρ0 ρ)(H:Hp C w ρ (hl++(h0++hs'))):Ok w ρ0 h0:=(H.okS fun h hh=>List.mem_append.2 (.inr (List.mem_append.2 (.inl hh)))).low hle
theorem onF_ok(R0:Rel X η ι β st ρ E hl)(H:Hp C w ρ (hl++hs)): ∀f∈st.facts++onF st.heap,f.R X η ι ρ:=fun f hf=>by
 rcases List.mem_append.1 hf with hf|hf
 ·exact R0.facts f hf
 have key: ∀{l:List HX} {hl:List Hl},heapR X η ι β ρ l hl→(∀h∈hl,h.P (hv w))→ ∀f∈onF l,f.R X η ι ρ:=by
  intro l
  induction l with
  |nil=>intro hl _ _ f hf;cases hf
  |cons x l ih=>
    intro hl hr hp f hf
    match hl,x,hr,hf with
    |h::hl,.box ..,hr,hf=>exact ih hr.2 (fun h hh=>hp h (List.mem_cons_of_mem _ hh)) f hf
    |h::hl,.arr k t i,hr,hf=>
      rcases List.mem_cons.1 hf with rfl|hf
      ·obtain⟨v,c,xs,h1,h2,h3,rfl⟩:=hr.1;exact⟨v,h1,(arr_cells (hp _ (List.mem_cons_self ..))).2⟩
      exact ih hr.2 (fun h hh=>hp h (List.mem_cons_of_mem _ hh)) f hf
    |h::hl,.ow k (.ns e r g) i,hr,hf=>
      obtain⟨v,h1,h2,us,xs,_,h3,_,rfl⟩:=hr.1;rcases List.mem_cons.1 hf with rfl|hf
      ·exact⟨v,h1,h2⟩
      rcases List.mem_cons.1 hf with rfl|hf
      ·exact⟨v,xs,h1,h3,ns_sh (hp _ (List.mem_cons_self ..))⟩
      exact ih hr.2 (fun h hh=>hp h (List.mem_cons_of_mem _ hh)) f hf
    |h::hl,.ow k (.nh ..) i,hr,hf=>
      rcases List.mem_cons.1 hf with rfl|hf
      ·obtain⟨v,h1,h2,_⟩:=hr.1;exact⟨v,h1,h2⟩
      exact ih hr.2 (fun h hh=>hp h (List.mem_cons_of_mem _ hh)) f hf
    |h::hl,.ow k (.mp ..) i,hr,hf=>
      rcases List.mem_cons.1 hf with rfl|hf
      ·obtain⟨v,h1,h2,_⟩:=hr.1;exact⟨v,h1,h2⟩
      exact ih hr.2 (fun h hh=>hp h (List.mem_cons_of_mem _ hh)) f hf
    | [],.ow ..,hr,_=>exact hr.elim
    | [],.box ..,hr,_=>exact hr.elim
    | [],.arr ..,hr,_=>exact hr.elim
 exact key R0.heap (fun h hh=>H.all h (List.mem_append.2 (.inl hh))) f hf
theorem stepOne(hids:F.ids=X.ids)(hE: ∀hs,EffOk X F C hs)(hn:n.n=F.nt){R:Type}{k:Pl→St→List Leaf→Option R}{r:R}{od:Ord}(IH:OD k r hs X F n C Q all od)
 {fl:Option (Nat×Nat)} {od2:Ord} {pl:Pl} {us:List (List Pa)} {sh:List HX} {sf:List Fact} {cs:Cls} {vs:Nat×Nat×Value→Prop} {ρ0:View} {E2:Env} {h0 hs':List Hl} {i:Nat} {o:Oper} (hm:minus all fl od=some od2) (ho:all[i]? =some o) (hokd: ∀p,fl=some p→okd all p.1 p.2 i=true)
 (hfl:FlOk F.P all E E2 hs hs' fl) (hs2:subL E E2) (R0:Rel X η ι β st ρ E hl) (hsh:heapR X η ι β ρ0 sh h0) (hsf: ∀f∈sf,f.R X η ι ρ0) (hcs:csR X η ι β cs vs) (hle:View.le ρ0 ρ) (G:GErrs ρ0 X.T X.ids X.ge) (H:Hp C w ρ (hl++(h0++hs')))
 (hk:guarded all st η o pl (fun pl st f=>eff1 F (sh.map f) st η o fun st η=>opsD F all od pl us (sh.map f) sf cs st η k) (fun pl st f=>skip1 F st η o fun st η=>opsD F all od pl us (sh.map f) sf cs st η k)=some r)
 (K: ∀pl,KS X C hs (k pl) r (fun E w=>XX Q .normal n E w) η ι β ρ):DO F.P all.toArray (Sb ρ0 h0 vs) Q i od2 n E2 w:=by
 have hi:all.toArray[i]? =some o:=by simpa using ho
 obtain⟨pl',st',f',R1,hf',h⟩:=guarded_ok R0 hk;replace hsh:=hf' hsh;rcases h with⟨hk,hg⟩|⟨hk,j,b,hg,hj⟩
 ·refine eff1_ok (Z:=fun E' w=> ∀E2',subL E' E2'→FlOk F.P all E' E2' hs hs' fl→Sb ρ0 h0 vs w∧DL F.P all.toArray (Sb ρ0 h0 vs) Q od2 n E2' w) hids hE hn R1 hsh hle (G.up hle) H hk (fun post h hd hw=>?_) fun st δ κ γ ρ' E' hl w h1 h2 h3 h4 E2' q1 q2=>?_
  ·have h':=fun v w' hp=>hw v w' hp _ (hs2.put o.dst v) (hfl.put ho hokd v);rcases hg with hg|⟨j,b,hg,hj⟩
   ·exact de hi (EffS hs2 h) hg hd h'
   exact dge hi (EffS hs2 h) hg (gd_subL hs2 hj) hd h'
  refine⟨⟨h0_ok (View.le_trans hle h1) h3,cOk_ok h2 h3 (opsD_c h4) (hcs.up δ κ γ)⟩,?_⟩;exact IH hm q2 q1 h2 (hsh.up δ κ γ (View.le_refl ρ0)) (fun f hf=>(hsf f hf).up δ κ (View.le_refl ρ0)) (hcs.up δ κ γ) (View.le_trans hle h1) G h3 h4 fun pl=>(K pl).up δ κ γ h1
 unfold skip1 at hk;split at hk
 ·rename_i hd;have IH':=IH hm (hfl.put ho hokd undef) (hs2.put o.dst undef) (R1.put (d:=o.dst) (v:= .one (.cst undef)) (u:=undef) rfl) hsh hsf hcs hle G H hk K;rcases hj with⟨c,hj,hbc⟩|hj
  ·exact dges hi hg (gd_subL hs2 hj) hbc (inN_of hn hd) IH'
  exact dgesu hi hg (gdU_subL hs2 hj) (inN_of hn hd) IH'
 cases hk
theorem land_ok(hA: ∀st η T e,F.ef st η (.alloc T)=some e→eAlloc F.P st T=some e){R:Type}{k:St→List Leaf→Option R}{r:R}{d:Nat}{T ty:TypeId}{pos:String}{af:Array Edge}{sh:List HX}{ρ0:View}{h0:List Hl}{blk m by_:Nat}{z:Value}{ag:Bool}{Z:Prop}
 (hty:tyI F.P T=some (m,by_,z,ag)) (R0:Rel X η ι β st ρ E hl) (hsh:heapR X η ι β ρ0 sh h0) (hle:View.le ρ0 ρ) (H:Hp C w ρ (hl++(h0++(Box blk z.cells.toList::hs))))
 (hk:eff1 F sh st η ⟨some d,.alloc T,ty,pos,af,none⟩ k=some r)
 (K: ∀st γ hl,Rel X η ι (β++γ) st ρ (putE E (some d) (.pointer (some ⟨blk,0,none⟩))) hl→Hp C w ρ (hl++(h0++hs))→k st η=some r→Z):Z:=by
 unfold eff1 at hk;split at hk
 ·rename_i hd;have hfr: ∀{R:Type} (hp:List HX) (fs:List Fact) (st:St) (η:List Leaf) (kk:List Fact→List Leaf→Option R),fresh hp fs st η (.alloc T) kk=kk [] η:=fun _ _ _ _ _=>rfl;rw[hfr]at hk;dsimp only at hk;simp only[List.nil_append,List.length_nil,List.drop_zero]at hk;have hq: ∀st (η:List Leaf),quiet F.P F.ids st η (.alloc T)=none:=fun _ _=>rfl;rw[hq]at hk;simp only at hk;split at hk
  ·rename_i e he;have he':=hA _ _ _ _ he;unfold eAlloc at he';rw[hty]at he';obtain rfl:=oi he';obtain⟨x,hx,hk⟩:=Option.bind_eq_some_iff.1 hk;simp only at hk;split at hk
   ·rename_i u hu;obtain⟨a,b,p1,p2,p3⟩:=heapR_part HX.flat hsh
    have p2':heapR X η ι β ρ (sh.filter HX.flat) a:=by
     have:=p2.up [] [] [] hle;rwa[List.append_nil,List.append_nil,List.append_nil]at this
    have R1:Rel X η ι β {st with heap:=st.heap++sh.filter HX.flat} ρ E (hl++a):=⟨R0.env,R0.heap.app p2',R0.facts,R0.na,R0.nb,R0.kn⟩;have R2:=R1.box blk (cstR z.cells.toList);rw[List.append_nil,List.append_nil]at R2
    obtain⟨hu',q1,q2⟩:=takeXs_ok (List.all_eq_true.2 fun x hx=>(List.mem_filter.1 hx).2) (by
     have:=p2.up [] [] [blk] (View.le_refl ρ0);rwa[List.append_nil,List.append_nil]at this) hu R2.heap
    have hptr:(VX.one (CX.ptr st.nb 0)).R X η ι (β++ [blk]) (.pointer (some ⟨blk,0,none⟩)):=⟨blk,by rw[←R0.nb];simp,rfl⟩;refine K _ [blk] hu' (Rel.put (st:={st with heap:=u,nb:=st.nb+1,facts:=st.facts}) ⟨R2.env,q2,R2.facts,R2.na,R2.nb,R2.kn⟩ hptr) ?_ (by simpa using hk);refine H.perm ?_;refine List.Perm.trans ?_ (List.perm_append_comm_assoc h0 hu' hs);have e1:hl++(h0++(Box blk z.cells.toList::hs))=(hl++h0)++([Box blk z.cells.toList]++hs):=by simp
    have e2:h0++(hu'++hs)=(h0++hu')++hs:=by simp
    rw[e1,e2,←List.append_assoc];refine List.Perm.append_right hs ?_;refine(List.perm_append_comm (l₁:=hl++h0) (l₂:=[Box blk z.cells.toList])).trans ?_;have e3: [Box blk z.cells.toList]++(hl++h0)=(Box blk z.cells.toList::hl)++h0:=by simp
    rw[e3];refine(p1.append_left _).trans ?_;have e4:Box blk z.cells.toList::hl++(a++b)=(Box blk z.cells.toList::(hl++a))++b:=by simp
    rw[e4];refine(q1.append_right b).trans ?_;refine List.Perm.trans ?_ ((p1.append_right hu').symm);rw[List.append_assoc,List.append_assoc];exact(List.perm_append_comm (l₁:=hu') (l₂:=b)).append_left a
   cases hk
  cases hk
 cases hk
theorem okd_ne{j d i:Nat}(h:okd all j d i=true):i≠j:=by
 rintro rfl;simp[okd,Nat.beq_refl]at h
theorem od_ok(hids:F.ids=X.ids)(hE: ∀hs,EffOk X F C hs)(hA: ∀st η T e,F.ef st η (.alloc T)=some e→eAlloc F.P st T=some e)(hn:n.n=F.nt){R:Type}{k:Pl→St→List Leaf→Option R}{r:R}: ∀od:Ord,OD k r hs X F n C Q all od:=by
 intro od
 induction od with
 |done=>
   intro fl od2 pl us sh sf cs vs η ι β st ρ0 ρ E E2 hl h0 hs' w hm hfl hs2 R0 hsh hsf hcs hle G H hk K
   cases fl with
   |some p=>cases hm
   |none=>
     obtain rfl:=oi hm;obtain rfl:hs'=hs:=hfl
     have hsh1:heapR X η ι β ρ sh h0:=by
      have:=hsh.up [] [] [] hle;rwa[List.append_nil,List.append_nil,List.append_nil]at this
     exact DL_nil (XXS hs2 ((K pl).at (st:={st with heap:=st.heap++sh}) (hl:=hl++h0) ⟨R0.env,R0.heap.app hsh1,R0.facts,R0.na,R0.nb,R0.kn⟩ (by rw[List.append_assoc];exact H) (G.up hle) (chk_some hk).2))
 |take i od IH=>
   intro fl od2 pl us sh sf cs vs η ι β st ρ0 ρ E E2 hl h0 hs' w hm hfl hs2 R0 hsh hsf hcs hle G H hk K
   obtain⟨od3,hm3,rfl,hokd⟩: ∃od3,minus all fl od=some od3∧od2= .take i od3∧ ∀p,fl=some p→okd all p.1 p.2 i=true:=by
    cases fl with
    |none=>exact⟨od,rfl,(oi hm).symm,fun _ h=>nomatch h⟩
    |some p=>
      have hm:(if okd all p.1 p.2 i=true then(od.drop all p.1 p.2).map (.take i)else none)=some od2:=hm;split at hm
      ·rename_i hc;obtain⟨od3,h1,h2⟩:=Option.map_eq_some_iff.1 hm;exact⟨od3,h1,h2.symm,fun q hq=>by cases hq;exact hc⟩
      cases hm
   have hok:Ok w ρ0 h0:=h0_ok hle H;unfold opsD at hk;obtain⟨hco,hk⟩:=chk_some hk;split at hk
   ·rename_i o ho;have hi:all.toArray[i]? =some o:=by simpa using ho
    obtain⟨pl',st',f',R1,hf',h⟩:=guarded_ok R0 hk;replace hsh:=hf' hsh;rcases h with⟨hk,hg⟩|⟨hk,j,b,hg,hj⟩
    ·refine take1_ok (Z:=fun E' w=> ∀E2',subL E' E2'→FlOk F.P all E' E2' hs hs' fl→DL F.P all.toArray (Sb ρ0 h0 vs) Q od3 n E2' w) hids hn R1 hsh hsf hcs hle hok G hk (fun v h hd hw=>?_) fun st δ κ E' sf h1 h2 h3 E2' q1 q2=>?_
     ·have hw':=hw _ (hs2.put o.dst v) (hfl.put ho hokd v);rcases hg with hg|⟨j,b,hg,hj⟩
      ·exact dq hi (fun w' hw=>QvS hs2 (h w' hw)) hg hd hw'
      exact dgq hi (fun w' hw=>QvS hs2 (h w' hw)) hg (gd_subL hs2 hj) hd hw'
     have hsh':=hsh.up δ κ [] (View.le_refl ρ0);rw[List.append_nil]at hsh';have hcs':=hcs.up δ κ [];rw[List.append_nil]at hcs';refine IH hm3 q2 q1 h1 hsh' h2 hcs' hle G H h3 fun pl=>?_;have:=(K pl).up δ κ [] (View.le_refl ρ);rwa[List.append_nil]at this
    unfold skip1 at hk;split at hk
    ·rename_i hd;have IH':=IH hm3 (hfl.put ho hokd undef) (hs2.put o.dst undef) (R1.put (d:=o.dst) (v:= .one (.cst undef)) (u:=undef) rfl) hsh hsf hcs hle G H hk K;rcases hj with⟨c,hj,hbc⟩|hj
     ·exact dgs hi hg (gd_subL hs2 hj) hbc (inN_of hn hd) IH'
     exact dgsu hi hg (gdU_subL hs2 hj) (inN_of hn hd) IH'
    cases hk
   cases hk
 |one i od IH=>
   intro fl od2 pl us sh sf cs vs η ι β st ρ0 ρ E E2 hl h0 hs' w hm hfl hs2 R0 hsh hsf hcs hle G H hk K;unfold opsD at hk;obtain⟨hco,hk⟩:=chk_some hk;split at hk
   ·rename_i o ho
    cases fl with
    |none=>
      obtain rfl:=oi hm;exact d1 (stepOne hids hE hn IH (fl:=none) rfl ho (fun _ h=>nomatch h) hfl hs2 R0 hsh hsf hcs hle G H hk K)
    |some p=>
      obtain⟨j,d⟩:=p;replace hm:(if i=j then some od else if okd all j d i=true then(od.drop all j d).map (.one i)else none)=some od2:=hm;split at hm
      ·rename_i hij;subst hij;obtain rfl:=oi hm;obtain⟨T,ty,pos,af,blk,m,by_,z,ag,g1,g2,g3,g4,rfl⟩:=hfl;rw[ho]at g1;obtain rfl:=oi g1;obtain⟨pl',st',f',R1,hf',h⟩:=guarded_ok R0 hk;replace hsh:=hf' hsh;rcases h with⟨hk,_⟩|⟨_,j,b,hg,_⟩
       ·refine land_ok hA g2 R1 hsh hle H hk fun st γ hl q1 q2 q3=>?_;have hsh':=hsh.up [] [] γ (View.le_refl ρ0);rw[List.append_nil,List.append_nil]at hsh';have hcs':=hcs.up [] [] γ;rw[List.append_nil,List.append_nil]at hcs';refine IH (fl:=none) rfl rfl ?_ q1 hsh' hsf hcs' hle G q2 q3 fun pl=>?_
        ·intro k u hk;simp only[putE,Eng.look]at hk
         cases hb:Nat.beq d k with
         |true=>rw[hb]at hk;obtain rfl:=Nat.eq_of_beq_eq_true hb;rw[g3];exact hk
         |false=>rw[hb]at hk;exact hs2 k u hk
        have:=(K pl).up [] [] γ (View.le_refl ρ);rwa[List.append_nil,List.append_nil]at this
       cases hg
      split at hm
      ·rename_i hij hc;obtain⟨od3,h1,rfl⟩:=Option.map_eq_some_iff.1 hm;exact d1 (stepOne hids hE hn IH (fl:=some (j,d)) h1 ho (fun q hq=>by cases hq;exact hc) hfl hs2 R0 hsh hsf hcs hle G H hk K)
      cases hm
   cases hk
 |bar i K' od IH=>
   intro fl od2 pl us sh sf cs vs η ι β st ρ0 ρ E E2 hl h0 hs' w hm hfl hs2 R0 hsh hsf hcs hle G H hk K
   cases fl with
   |some p=>cases hm
   |none=>
   obtain rfl:=oi hm;obtain rfl:hs'=hs:=hfl;unfold opsD at hk;obtain⟨hco,hk⟩:=chk_some hk;split at hk
   ·rename_i o ho;have hi:all.toArray[i]? =some o:=by simpa using ho
    obtain⟨pl',st',f',R2,hf',h⟩:=guarded_ok R0 hk;replace hsh:=hf' hsh
    have hsh1:heapR X η ι β ρ (sh.map f') h0:=by
     have:=hsh.up [] [] [] hle;rwa[List.append_nil,List.append_nil,List.append_nil]at this
    have R1:Rel X η ι β {st' with heap:=st'.heap++sh.map f'} ρ E (hl++h0):=⟨R2.env,R2.heap.app hsh1,R2.facts,R2.na,R2.nb,R2.kn⟩;have H1:Hp C w ρ ((hl++h0)++hs'):=by rw[List.append_assoc];exact H
    have next: ∀{st:St} {pl:Pl} {η:List Leaf} {ι:List Value} {β:List Nat} {ρ:View} {E E2:Env} {hl:List Hl} {w:World},subL E E2→Rel X η ι β st ρ E hl→Hp C w ρ (hl++hs')→GErrs ρ X.T X.ids X.ge→opsD F all od pl us.tail (st.heap.filter fun x=> !unst st (us.headD []) x) (st.facts++onF st.heap) (cellsOf st (us.headD [])) {st with heap:=st.heap.filter (unst st (us.headD []))} η k=some r→(∀pl,KS X C hs' (k pl) r (fun E w=>XX Q .normal n E w) η ι β ρ)→
     ∃S',S' w∧DL F.P all.toArray S' Q od n E2 w:=fun{st pl η ι β ρ E E2 hl w} q R2 H2 G2 hk K=>by
     obtain⟨a,b,p1,p2,p3⟩:=heapR_perm_part (unst st (us.headD [])) R2
     have H3:Hp C w ρ (a++(b++hs')):=by
      have:=H2.perm (p1.append_right hs');rwa[List.append_assoc]at this
     obtain⟨vs,v1,v2⟩:=cells0 R2 H2 (us.headD []);exact⟨Sb ρ b vs,⟨H3.okS fun h hh=>List.mem_append.2 (.inr (List.mem_append.2 (.inl hh))),v2⟩,IH (fl:=none) rfl rfl q p2 p3 (onF_ok R2 H2) v1 (View.le_refl ρ) G2 H3 hk K⟩
    rcases h with⟨hk,hg⟩|⟨hk,j,b,hg,hj⟩
    ·refine eff1_ok (sh:=[]) (h0:=[]) (Z:=fun E' w=> ∀E2',subL E' E2'→ ∃S',S' w∧DL F.P all.toArray S' Q od n E2' w) hids hE hn R1 trivial (View.le_refl ρ) (G.up hle) H1 hk (fun post h hd hw=>?_) fun st δ κ γ ρ' E' hl w h1 h2 h3 h4 E2' q1=>?_
     ·have h':=fun v w' hp=>hw v w' hp _ (hs2.put o.dst v);rcases hg with hg|⟨j,b,hg,hj⟩
      ·exact db hi (EffS hs2 h) hg hd h'
      exact dgb hi (EffS hs2 h) hg (gd_subL hs2 hj) hd h'
     exact next q1 h2 h3 (G.up (View.le_trans hle h1)) h4 fun pl=>(K pl).up δ κ γ h1
    unfold skip1 at hk;split at hk
    ·rename_i hd;have IH':=next (hs2.put o.dst undef) (R1.put (d:=o.dst) (v:= .one (.cst undef)) (u:=undef) rfl) H1 (G.up hle) hk K;rcases hj with⟨c,hj,hbc⟩|hj
     ·exact dgbs hi hg (gd_subL hs2 hj) hbc (inN_of hn hd) IH'
     exact dgbsu hi hg (gdU_subL hs2 hj) (inN_of hn hd) IH'
    cases hk
   cases hk
 |two i j ra rb IHa IHb=>
   intro fl od2 pl us sh sf cs vs η ι β st ρ0 ρ E E2 hl h0 hs' w hm hfl hs2 R0 hsh hsf hcs hle G H hk K;have hco:=opsD_c hk
   replace hk:=(chk_some (show chk cs st (match flo F.P all st j,flo F.P all st i with
    |some d,_=>if((Ord.two i j ra rb).drop all j d).isSome=true∧dOk F.nt (some d)=true then match all[i]? with
      |some o=>guarded all st η o pl (fun pl st f=>eff1 F (sh.map f) st η o fun st η=>opsD F all ra pl us (sh.map f) sf cs st η k) (fun pl st f=>skip1 F st η o fun st η=>opsD F all ra pl us (sh.map f) sf cs st η k)
      |none=>none
    else none
    |none,some d=>if((Ord.two i j ra rb).drop all i d).isSome=true∧dOk F.nt (some d)=true then match all[j]? with
      |some o=>guarded all st η o pl (fun pl st f=>eff1 F (sh.map f) st η o fun st η=>opsD F all rb pl us (sh.map f) sf cs st η k) (fun pl st f=>skip1 F st η o fun st η=>opsD F all rb pl us (sh.map f) sf cs st η k)
      |none=>none
    else none
    |_,_=>none)=some r from hk)).2
   have start: ∀{a b d:Nat} {r1 r2:Ord} {o:Oper},OD k r hs X F n C Q all r1→flo F.P all st b=some d→dOk F.nt (some d)=true→all[a]? =some o→okd all b d a=true→r1.drop all b d=some r2→
    guarded all st η o pl (fun pl st f=>eff1 F (sh.map f) st η o fun st η=>opsD F all r1 pl us (sh.map f) sf cs st η k) (fun pl st f=>skip1 F st η o fun st η=>opsD F all r1 pl us (sh.map f) sf cs st η k)=some r→hs'=hs→
    DO F.P all.toArray (Sb ρ0 h0 vs) Q a r1 n E2 w∧DO F.P all.toArray (Sb ρ0 h0 vs) Q b (.one a r2) n E2 w:=by
    intro a b d r1 r2 o IH hb hdk ho hc hr hk he;subst he;refine⟨stepOne hids hE hn IH (fl:=none) rfl ho (fun _ h=>nomatch h) rfl hs2 R0 hsh hsf hcs hle G H hk K,?_⟩;unfold flo at hb;split at hb
    ·rename_i d' T ty pos af hob;split at hb
     ·rename_i hd;obtain rfl:=oi hb;obtain⟨⟨m,by_,z,ag⟩,hty⟩:=Option.isSome_iff_exists.1 hd.2
      have hnone:Eng.look E d'=none:=by
       cases hl:Eng.look E d' with
       |none=>rfl
       |some v=>
         exfalso
         have key: ∀{l:List (Nat×VX)} {E:Env},envR X η ι β l E→St.get.go d' l=none→Eng.look E d'=none:=by
          intro l
          induction l with
          |nil=>intro E he _;match E,he with| [],_=>rfl
          |cons p l ih=>
            intro E he hg
            match E,he with
            |(k',v')::E,he=>
              obtain⟨j',y⟩:=p;obtain⟨e1,_,e3⟩:=he;have e1:j'=k':=e1;subst e1;simp only[St.get.go]at hg;simp only[Eng.look]
              cases hb':Nat.beq j' d' with
              |true=>rw[hb']at hg;cases hg
              |false=>rw[hb']at hg;exact ih e3 hg
            | [],he=>exact he.elim
         have:=key R0.env (Option.isNone_iff_eq_none.1 hd.1);rw[this]at hl;cases hl
      refine de (o:=⟨some d',.alloc T,ty,pos,af,none⟩) (by simpa using hob) (E_alloc H (tyI_ok hty) (zs:=z.cells.toList) Sm) rfl (inN_of hn hdk) ?_;rintro v w' ⟨blk,rfl,H'⟩
      have H2:Hp C w' ρ (hl++(h0++(Box blk z.cells.toList::hs'))):=by
       refine H'.perm ?_;have e1:hl++(h0++(Box blk z.cells.toList::hs'))=(hl++h0)++(Box blk z.cells.toList::hs'):=by simp
       rw[e1];refine List.Perm.trans ?_ List.perm_middle.symm;simp
      refine⟨⟨h0_ok hle H2,cOk_ok R0 H2 hco hcs⟩,d1 (stepOne hids hE hn IH (fl:=some (b,d')) hr ho (fun q hq=>by cases hq;exact hc) ?_ ?_ R0 hsh hsf hcs hle G H2 hk K)⟩
      ·exact⟨T,ty,pos,af,blk,m,by_,z,ag,hob,hty,by simp[putE,Eng.look,Nat.beq_refl],hnone,rfl⟩
      intro q u hq;simp only[putE,Eng.look]
      cases hb':Nat.beq d' q with
      |true=>
        obtain rfl:=Nat.eq_of_beq_eq_true hb';rw[hnone]at hq;cases hq
      |false=>exact hs2 q u hq
     cases hb
    cases hb
   have dropB: ∀{d:Nat} {od2:Ord},(Ord.two i j ra rb).drop all j d=some od2→okd all j d i=true∧ ∃r',ra.drop all j d=some r'∧rb= .one i r'∧od2= .one i r':=by
    intro d od2 h;simp only[Eng.Ord.drop,if_true]at h;split at h
    ·rename_i hc;split at h
     ·rename_i r' hr;split at h
      ·rename_i hb;exact⟨hc,r',hr,beqO_ok hb,(oi h).symm⟩
      cases h
     cases h
    cases h
   have dropA: ∀{d:Nat} {od2:Ord},(Ord.two i j ra rb).drop all i d=some od2→okd all i d j=true∧isAl all j=false∧ ∃s',rb.drop all i d=some s'∧ra= .one j s'∧od2= .one j s':=by
    intro d od2 h;simp only[Eng.Ord.drop,if_true]at h;split at h
    ·rename_i hij;subst hij;split at h
     ·rename_i hc;exact absurd rfl (okd_ne hc)
     cases h
    split at h
    ·rename_i hc;split at h
     ·rename_i s' hr;split at h
      ·rename_i hb;exact⟨hc.1,hc.2,s',hr,beqO_ok hb,(oi h).symm⟩
      cases h
     cases h
    cases h
   cases fl with
   |none=>
     obtain rfl:=oi hm;have he:hs'=hs:=hfl;split at hk
     ·rename_i d _ hf;split at hk
      ·rename_i hc;obtain⟨od2,h2⟩:=Option.isSome_iff_exists.1 hc.1;obtain⟨g1,r',g2,rfl,_⟩:=dropB h2;split at hk
       ·rename_i o ho;obtain⟨q1,q2⟩:=start IHa hf hc.2 ho g1 g2 hk he;exact d2 q1 q2
       cases hk
      cases hk
     ·rename_i d _ hf;split at hk
      ·rename_i hc;obtain⟨od2,h2⟩:=Option.isSome_iff_exists.1 hc.1;obtain⟨g1,_,s',g2,rfl,_⟩:=dropA h2;split at hk
       ·rename_i o ho;obtain⟨q1,q2⟩:=start IHb hf hc.2 ho g1 g2 hk he;exact d2 q2 q1
       cases hk
      cases hk
     cases hk
   |some p=>
     obtain⟨jj,d⟩:=p;have hm:(Ord.two i j ra rb).drop all jj d=some od2:=hm;obtain⟨T,ty,pos,af,blk,m,by_,z,ag,e1,e2,e3,e4,e5⟩:=id hfl
     have hget:st.get d=none:=by
      cases hg:st.get d with
      |none=>rfl
      |some x=>
        obtain⟨v,hv,_⟩:=R0.env.get hg;rw[e4]at hv;cases hv
     have hflo:flo F.P all st jj=some d:=by
      unfold flo;rw[e1];simp[hget,e2]
     by_cases hj:j=jj
     ·subst hj;obtain⟨g1,r',g2,rfl,rfl⟩:=dropB hm;rw[hflo]at hk;simp only at hk;split at hk
      ·split at hk
       ·rename_i o ho;exact d1 (stepOne hids hE hn IHa (fl:=some (j,d)) g2 ho (fun q hq=>by cases hq;exact g1) hfl hs2 R0 hsh hsf hcs hle G H hk K)
       cases hk
      cases hk
     have hii:i=jj:=by
      simp only[Eng.Ord.drop,hj,if_false]at hm;split at hm
      ·assumption
      cases hm
     subst hii;obtain⟨g1,g0,s',g2,rfl,rfl⟩:=dropA hm
     have hno:flo F.P all st j=none:=by
      unfold flo;unfold isAl at g0;split
      ·rename_i hh;rw[hh]at g0;cases g0
      rfl
     rw[hno,hflo]at hk;simp only at hk;split at hk
     ·split at hk
      ·rename_i o ho;exact d1 (stepOne hids hE hn IHb (fl:=some (i,d)) g2 ho (fun q hq=>by cases hq;exact g1) hfl hs2 R0 hsh hsf hcs hle G H hk K)
      cases hk
     cases hk
 |three i j l ra rb rc _ _ _=>
   intro fl od2 pl us sh sf cs vs η ι β st ρ0 ρ E E2 hl h0 hs' w hm hfl hs2 R0 hsh hsf hcs hle G H hk K;cases hk
theorem opsD_ok(hids:F.ids=X.ids)(hE: ∀hs,EffOk X F C hs)(hA: ∀st η T e,F.ef st η (.alloc T)=some e→eAlloc F.P st T=some e)(hn:n.n=F.nt){R:Type}{k:Pl→St→List Leaf→Option R}{r:R}{od:Ord}{pl:Pl}{us:List (List Pa)}{sh:List HX}{sf:List Fact}{cs:Cls}{vs:Nat×Nat×Value→Prop}{ρ0:View}{h0:List Hl}(R0:Rel X η ι β st ρ E hl)
 (hsh:heapR X η ι β ρ0 sh h0) (hsf: ∀f∈sf,f.R X η ι ρ0) (hcs:csR X η ι β cs vs) (hle:View.le ρ0 ρ) (G:GErrs ρ0 X.T X.ids X.ge) (H:Hp C w ρ (hl++(h0++hs)))
 (hk:opsD F all od pl us sh sf cs st η k=some r) (K: ∀pl,KS X C hs (k pl) r (fun E w=>XX Q .normal n E w) η ι β ρ):DL F.P all.toArray (Sb ρ0 h0 vs) Q od n E w:=
 od_ok hids hE hA hn od (fl:=none) rfl rfl subL.rfl R0 hsh hsf hcs hle G H hk K
theorem drawn_ok(hids:F.ids=X.ids)(hE: ∀hs,EffOk X F C hs)(hA: ∀st η T e,F.ef st η (.alloc T)=some e→eAlloc F.P st T=some e)(hn:n.n=F.nt){R:Type}{k:Pl→St→List Leaf→Option R}{r:R}{od:Ord}{KK:Option Nat}{pl:Pl}{us:List (List Pa)}{id:Nat}(R0:Rel X η ι β st ρ E hl)(H:Hp C w ρ (hl++hs))(G:GErrs ρ X.T X.ids X.ge)
 (hm:F.P.follows .mixedOrders=true) (ho:dchk all od KK=true) (hk:drawn F all od pl us st η k=some r) (K: ∀pl,KS X C hs (k pl) r (fun E w=>XX Q .normal n E w) η ι β ρ):CW ro F.P (.region id all.toArray true) Q n E w:=by
 obtain⟨a,b,p1,p2,p3⟩:=heapR_perm_part (unst st (us.headD [])) R0
 have H3:Hp C w ρ (a++(b++hs)):=by
  have:=H.perm (p1.append_right hs);rwa[List.append_assoc]at this
 have H4:=H3.drew;obtain⟨vs,v1,v2⟩:=cells0 R0 H.drew (us.headD []);exact R_dr od KK hm ho (S:=Sb ρ b vs) ⟨H4.okS fun h hh=>List.mem_append.2 (.inr (List.mem_append.2 (.inl hh))),v2⟩ (opsD_ok hids hE hA hn p2 p3 (onF_ok R0 H) v1 (View.le_refl ρ) G H4 hk K)
end
end Go.Dn
namespace Go.Dn
open Go Go.Eng
set_option maxRecDepth 100000
section
variable {X:Amb}{F:Cfg}{n:FN}{C:Cx}{hs:List Hl}{η:List Leaf}{ι:List Value}{β:List Nat}{ρ:View}{st:St}{E:Env}{hl:List Hl}{w:World}{ro:Option Nat}
def KE(X:Amb)(n:FN)(C:Cx)(hs:List Hl){R:Type}(k:Ex→Pl→St→List Leaf→Option R)(r:R)(Q:Exit→Act→World→Prop)(η:List Leaf)(ι:List Value)(β:List Nat)(ρ:View):Prop:=
 ∀e pl,KS X C hs (k e pl) r (fun E w=>XX Q e.exit n E w) η ι β ρ
theorem KE.up{R:Type}{k:Ex→Pl→St→List Leaf→Option R}{r:R}{Q:Exit→Act→World→Prop}(h:KE X n C hs k r Q η ι β ρ)(δ:List Leaf)(κ:List Value)(γ:List Nat){ρ':View}(hl:View.le ρ ρ'):KE X n C hs k r Q (η++δ) (ι++κ) (β++γ) ρ':=
 fun e pl=>(h e pl).up δ κ γ hl
theorem co_ok{δ:List Leaf}{κ:List Value}{γ:List Nat}{ρ':View}{s:St}{E':Env}{hl':List Hl}{j:JP}{x:(tupT (j.ts η.length st)).den}{w:World}(R0:Rel X η ι β st ρ E hl)(hρ:View.le ρ ρ')(R1:Rel X (η++δ) (ι++κ) (β++γ) s ρ' E' hl')(H:Hp C w ρ' (hl'++hs))
 (h:co st η s (η++δ) j=some x): ∃κ' γ' M E2 ρ2,View.le ρ' ρ2∧Hp C w ρ2 (M++hs)∧subE E2 E'∧Rel X (η++unT _ x) (ι++κ') (β++γ') (j.st η.length st) ρ2 E2 M:=by
 unfold co at h;obtain⟨ls,h1,h2⟩:=Option.bind_eq_some_iff.1 h;obtain⟨ρ2,hl2,l2,R2,H2⟩:=frz_ok (frzI s s.get j) R1 H;rw[←R0.na,←R0.nb]at h1
 have B:Base η.length ι.length β.length η ι β (η++δ) (ι++κ) (β++γ):=
  ⟨fun i hi=>(List.getElem?_append_left hi).symm,fun i hi=>(List.getElem?_append_left hi).symm,fun i hi=>(List.getElem?_append_left hi).symm,Nat.le_refl _,Nat.le_refl _⟩
 obtain⟨κ',γ',M,E2,a1,a2,a3,_⟩:=coJ_ok B R2 (fun f hf=>by have:=(R0.facts f hf).up [] [] (View.le_trans hρ l2);simpa using this) R0.na R0.nb R0.kn h1;rw[mkT_un _ _ _ h2];exact⟨κ',γ',M,E2,ρ2,l2,a1.go H2,a2,a3⟩
theorem joined_ok{R:Type}{k:St→List Leaf→Option R}{r:R}{Q:Env→World→Prop}{δ:List Leaf}{κ:List Value}{γ:List Nat}{ρ':View}{s:St}{E':Env}{hl':List Hl}{j:JP}{x:(tupT (j.ts η.length st)).den}{w:World}
 (R0:Rel X η ι β st ρ E hl) (hρ:View.le ρ ρ') (R1:Rel X (η++δ) (ι++κ) (β++γ) s ρ' E' hl') (H:Hp C w ρ' (hl'++hs)) (G:GErrs ρ' X.T X.ids X.ge) (h:co st η s (η++δ) j=some x) (hk:joined st η j k x=some r)
 (K:KS X C hs k r Q η ι β ρ) (hQ: ∀{E E':Env},subE E E'→Q E w→Q E' w):Q E' w:=by
 obtain⟨κ',γ',M,E2,ρ2,l2,a1,a2,a3⟩:=co_ok R0 hρ R1 H h;exact hQ a2 (K _ (unT _ x) κ' γ' ρ2 E2 M w (View.le_trans hρ l2) a3 a1 (G.up l2) hk)
def DenOk(X:Amb)(n:FN)(C:Cx)(hs:List Hl)(ro:Option Nat)(P:Program)(c:Code)(d:DenT):Prop:=
 ∀{R:Type} {pl:Pl} {k:Ex→Pl→St→List Leaf→Option R} {r:R} {Q:Exit→Act→World→Prop} {η:List Leaf} {ι:List Value} {β:List Nat} {ρ:View} {st:St} {E:Env} {hl:List Hl} {w:World},
   Rel X η ι β st ρ E hl→Hp C w ρ (hl++hs)→GErrs ρ X.T X.ids X.ge→d pl st η k=some r→KE X n C hs k r Q η ι β ρ→CW ro P c Q n E w
theorem cutW_ok{t:Nat}{c:Code}{d:DenT}(h:DenOk X n C hs ro F.P c d):DenOk X n C hs ro F.P c (cutW t d):=by
 intro R pl k r Q η ι β ρ st E hl w R0 H G hd K;unfold cutW at hd;dsimp only at hd;split at hd
 ·rename_i t' x j0 p q;generalize j0.jp st=j at hd
  cases hb:Nat.beq t t' with
  |false=>rw[hb]at hd;exact h R0 H G hd K
  |true=>
  rw[hb]at hd;cases x
  ·have hd:cutF d j p q st η k=some r:=hd;unfold cutF at hd;obtain⟨x,hx,hj⟩:=Option.bind_eq_some_iff.1 hd;refine C_cutQ (fun a w=>Q .normal a w) (h R0 H G hx fun e pl=>?_) fun _ _ h=>h;intro s δ κ γ ρ' E' hl' w' h1 h2 h3 h4 h5
   cases e with
   |nrm=>exact x_A (joined_ok (Q:=fun E w=>XX Q .normal n E w) R0 h1 h2 h3 h4 h5 hj (K .nrm q) fun hs h=>h.sub hs)
   |ret=>cases h5
   |ex id=>cases h5
  have hd:cutT d j p q st η k=some r:=hd;unfold cutT at hd;obtain⟨z,hz,hj⟩:=Option.bind_eq_some_iff.1 hd;refine C_cutQ (fun a w=>Q .normal a w) (h R0 H G hz fun e pl=>?_) fun _ _ h=>h;intro s δ κ γ ρ' E' hl' w' h1 h2 h3 h4 h5
  cases e with
  |nrm=>
    obtain⟨x,h6,rfl⟩:=Option.map_eq_some_iff.1 h5;exact x_A (joined_ok (Q:=fun E w=>XX Q .normal n E w) R0 h1 h2 h3 h4 h6 hj (K .nrm q) fun hs h=>h.sub hs)
  |ret=>
    obtain⟨x,h6,rfl⟩:=Option.map_eq_some_iff.1 h5;obtain rfl:=oi hj;exact x_then_ret ((K .ret pl) s δ κ γ ρ' E' hl' w' h1 h2 h3 h4 h6)
  |ex id=>
    obtain⟨x,h6,rfl⟩:=Option.map_eq_some_iff.1 h5;obtain rfl:=oi hj;exact x_then_exit ((K (.ex id) pl) s δ κ γ ρ' E' hl' w' h1 h2 h3 h4 h6)
 exact h R0 H G hd K
theorem den_ok(hids:F.ids=X.ids)(hE: ∀hs,EffOk X F C hs)(hA: ∀st η T e,F.ef st η (.alloc T)=some e→eAlloc F.P st T=some e)(hn:n.n=F.nt): ∀c:Code,DenOk X n C hs ro F.P c (den F c):=by
 intro c
 induction c with
 |skip=>intro R pl k r Q η ι β ρ st E hl w R0 H G hd K;exact C_skip ((K .nrm pl).at R0 H G hd)
 |ret=>intro R pl k r Q η ι β ρ st E hl w R0 H G hd K;exact C_ret ((K .ret pl).at R0 H G hd)
 |exit id=>intro R pl k r Q η ι β ρ st E hl w R0 H G hd K;exact C_exit ((K (.ex id) pl).at R0 H G hd)
 |region id l dr=>
   refine cutW_ok ?_;intro R pl k r Q η ι β ρ st E hl w R0 H G hd K;dsimp only at hd;split at hd
   ·split at hd
    ·rename_i hnd;have:=ops_ok (Q:=Q) hids (hE hs) hn R0 H G hd (K .nrm);have h2:=R_nd (ro:=ro) (id:=id) this hnd;simpa using h2
    cases hd
   split at hd
   ·rename_i o KK us p;split at hd
    ·rename_i hc;have h2:=drawn_ok (Q:=Q) (ro:=ro) (id:=id) hids hE hA hn R0 H G hc.1 hc.2 hd (K .nrm);simpa using h2
    cases hd
   cases hd
 |seq a b iha ihb=>
   intro R pl k r Q η ι β ρ st E hl w R0 H G hd K;refine C_seq (iha R0 H G hd fun e pl=>?_);intro s δ κ γ ρ' E' hl' w' h1 h2 h3 h4 h5
   cases e with
   |nrm=>exact x_then (ihb h2 h3 h4 h5 (K.up δ κ γ h1))
   |ret=>exact x_then_ret ((K .ret pl) s δ κ γ ρ' E' hl' w' h1 h2 h3 h4 h5)
   |ex id=>exact x_then_exit ((K (.ex id) pl) s δ κ γ ρ' E' hl' w' h1 h2 h3 h4 h5)
 |cond c a b iha ihb=>
   refine cutW_ok ?_;intro R pl k r Q η ι β ρ st E hl w R0 H G hd K;dsimp only at hd;split at hd
   ·rename_i i hi;obtain⟨u,hu,l,hlf,rfl⟩:=R0.op hi;split at hd
    ·rename_i i' hf;have hi':Nat.beq i' i=true:=by have:=List.find?_some hf;simpa using this
     obtain rfl:=beq_eqN hi';have hm:=R0.kn _ (List.mem_of_find?_eq_some hf);rw[hlf]at hm;cases oi hm;exact C_cond hu (fun _=>iha R0 H G hd K) (fun h=>by cases h)
    ·rename_i i' hf;have hi':Nat.beq i' i=true:=by have:=List.find?_some hf;simpa using this
     obtain rfl:=beq_eqN hi';have hm:=R0.kn _ (List.mem_of_find?_eq_some hf);rw[hlf]at hm;cases oi hm;exact C_cond hu (fun h=>by cases h) (fun _=>ihb R0 H G hd K)
    split at hd
    ·rename_i x p q hx;rw[hlf]at hx;cases oi hx;refine C_cond (b:=x) hu (fun h=>?_) (fun h=>?_)
     ·subst h;exact iha (R0.know hlf) H G hd K
     subst h;exact ihb (R0.know hlf) H G hd K
    cases hd
   ·rename_i hi;obtain⟨u,hu,hr⟩:=R0.op hi;obtain rfl:u= .bool true:=hr;exact C_cond hu (fun _=>iha R0 H G hd K) (fun h=>by cases h)
   ·rename_i hi;obtain⟨u,hu,hr⟩:=R0.op hi;obtain rfl:u= .bool false:=hr;exact C_cond hu (fun h=>by cases h) (fun _=>ihb R0 H G hd K)
   cases hd
 |block id a iha=>
   refine cutW_ok ?_;intro R pl k r Q η ι β ρ st E hl w R0 H G hd K;refine C_block (iha R0 H G hd fun e pl=>?_);intro s δ κ γ ρ' E' hl' w' h1 h2 h3 h4 h5
   cases e with
   |nrm=>exact x_block ((K .nrm pl) s δ κ γ ρ' E' hl' w' h1 h2 h3 h4 h5)
   |ret=>exact x_block_ret ((K .ret pl) s δ κ γ ρ' E' hl' w' h1 h2 h3 h4 h5)
   |ex id'=>
     by_cases hid:id'=id
     ·subst hid;simp only[if_true]at h5;exact x_block_exit ((K .nrm pl) s δ κ γ ρ' E' hl' w' h1 h2 h3 h4 h5)
     have hne:(Ex.ex id'=Ex.ex id)=False:=by simp[hid]
     simp only[hne,if_false]at h5
     have hb:Nat.beq id' id=false:=by
      cases h:Nat.beq id' id with
      |false=>rfl
      |true=>exact absurd (Nat.eq_of_beq_eq_true h) hid
     exact x_block_other hb ((K (.ex id') pl) s δ κ γ ρ' E' hl' w' h1 h2 h3 h4 h5)
 |loop a iha=>
   intro R pl k r Q η ι β ρ st E hl w R0 H G hd K;simp only[den]at hd;split at hd
   ·rename_i j0 p;generalize j0.jp st=j at hd;unfold loopD at hd;obtain⟨s0,h0,hI⟩:=Option.bind_eq_some_iff.1 hd;refine C_iter hI (fun s ac w'=> ∃κ γ M E' ρ',View.le ρ ρ'∧Rel X (η++unT _ s) (ι++κ) (β++γ) (j.st η.length st) ρ' E' M∧Hp C w' ρ' (M++hs)∧GErrs ρ' X.T X.ids X.ge∧Fr n ac E') (fun ac hf=>?_) ?_
    ·have R1:Rel X (η++ []) (ι++ []) (β++ []) st ρ E hl:=by simpa using R0
     have h0':co st η st (η++ []) j=some s0:=by simpa using h0
     obtain⟨κ',γ',M,E2,ρ2,l2,a1,a2,a3⟩:=co_ok R0 (View.le_refl ρ) R1 H h0';exact⟨κ',γ',M,E2,ρ2,l2,a3,a1,G.up l2,hf.sub a2⟩
    rintro s o ac w' ⟨κ,γ,M,E',ρ',h1,R1,H1,G1,hf⟩ hfs ht;refine iha R1 H1 G1 hfs ?_ ac hf;intro e pl;intro s' δ' κ' γ' ρ'' E'' hl'' w'' g1 g2 g3 g4 g5;have R2:Rel X (η++(unT _ s++δ')) (ι++(κ++κ')) (β++(γ++γ')) s' ρ'' E'' hl'':=by simpa[List.append_assoc]using g2
    rw[List.append_assoc]at g5;have hle:=View.le_trans h1 g1
    have out: ∀e,(k e pl s' (η++(unT _ s++δ'))).map Sum.inr=some o→XX Q e.exit n E'' w'':=fun e g5=>by
     obtain⟨z,g6,rfl⟩:=Option.map_eq_some_iff.1 g5;obtain rfl:=ht z rfl;exact(K e pl) s' _ _ _ ρ'' E'' hl'' w'' hle R2 g3 g4 g6
    cases e with
    |nrm=>
      obtain⟨x,g6,rfl⟩:=Option.map_eq_some_iff.1 g5;obtain⟨κ2,γ2,M2,E2,ρ2,l2,a1,a2,a3⟩:=co_ok R0 hle R2 g3 g6;exact x_A fun ac' hf'=>⟨x,rfl,κ2,γ2,M2,E2,ρ2,View.le_trans hle l2,a3,a1,g4.up l2,hf'.sub a2⟩
    |ret=>exact x_then_ret (out .ret g5)
    |ex id=>exact x_then_exit (out (.ex id) g5)
   cases hd
 |_=>intro R pl k r Q η ι β ρ st E hl w R0 H G hd K;cases hd
end
end Go.Dn
namespace Go.Dn
open Go Go.Eng
set_option maxRecDepth 100000
structure Sig where
 n:Nat
 ps:List JI
 nr:Nat
 rs:List JI
def Sig.lay(s:Sig):Lay:=layI ⟨0,0,0,id,id,id⟩ {} s.ps
def Sig.tin(s:Sig):List Tc:=s.lay.ts
def Sig.tout(s:Sig):List Tc:=(layI ⟨0,0,0,id,id,id⟩ {} s.rs).ts
def CP.io(k:Nat):CP→Bool
 | .ar j _=>Nat.beq j k
 | .ao j _=>Nat.beq j k
 |_=>false
def JI.io(k:Nat):JI→Bool
 | .v _ _ l=>l.any (CP.io k)
 | .fn _ _ l=>l.any (CP.io k)
 | .bx _ l=>l.any (CP.io k)
 | .kb _ l=>l.any (CP.io k)
 | .arr j _=>Nat.beq j k
 | .aro j _=>Nat.beq j k
 |_=>false
def Sig.io(s:Sig)(k:Nat):Bool:=Nat.blt k s.lay.na&&s.rs.any (JI.io k)
def AGr(s:Sig)(κ ι:List Value)(α:Nat→Nat):Prop:= ∀i v,s.io i=true→κ[i]? =some v→ι[α i]? =some v
def Sig.st(s:Sig):St:=⟨s.lay.env,s.lay.hx,s.lay.fs,s.lay.na,s.lay.nb,[]⟩
def isEp:CX→Bool
 | .ep .. =>true
 | .pd .. =>true
 |_=>false
def sameR(bl ba bb:Nat)(c d:CX):Bool:=sameC bl ba bb c d&& !isEp c
def SGr(X:Amb)(ls:List Leaf)(κ:List Value)(γ:List Nat)(σ:CX→CX)(η:List Leaf)(ι:List Value)(β:List Nat):Prop:=
 ∀c v,isEp c=false→c.R X ls κ γ v→(σ c).R X η ι β v
def Spec(X:Amb)(P:Program)(f:FuncId)(s:Sig)(G:(tupT s.tin).den→Option (tupT s.tout).den):Prop:=
 ∀{C:Cx} {w:World} {ρ:View} {hs:List Hl} {us:List Value} {ls:List Leaf} {κ:List Value} {γ:List Nat} {A:List Hl} {E':Env} {x:(tupT s.tin).den} {y:(tupT s.tout).den},
   mkT s.tin ls=some x→InvB X [] [] [] ρ s.lay ls κ γ A E'→(∀p∈E',us[p.1]? =some p.2)→us.length=s.n→Hp C w ρ (A++hs)→GErrs ρ X.T X.ids X.ge→G x=some y→
   Calls P f us.toArray w (Rets fun v w'=> ∃ρ' vs M κ' γ' E2,View.le ρ ρ'∧v=packR vs∧vs.length=s.nr∧(∀p∈E2,vs[p.1]? =some p.2)∧Hp C w' ρ' (M++hs)∧
    ∀{η:List Leaf} {ι:List Value} {β:List Nat} {b:Bs},Ov b η ι β→SGr X ls κ γ b.σ η ι β→ST s.lay.nb b.τ β γ→AGr s κ ι b.α→InvB X η ι β ρ' (layI b {} s.rs) (unT s.tout y) κ' γ' M E2)
def outs(st:St):List Operand→Option (List VX)
 | []=>some []
 |x::l=>match st.op x,outs st l with
   |some v,some r=>some (v::r)
   |_,_=>none
def valsR(X:Amb)(η:List Leaf)(ι:List Value)(β:List Nat):List VX→List Value→Prop
 | [],[]=>True
 |x::l,v::vs=>x.R X η ι β v∧valsR X η ι β l vs
 |_,_=>False
theorem valsR.get{X:Amb}{η:List Leaf}{ι:List Value}{β:List Nat}: ∀{l:List VX} {us:List Value} {i:Nat} {x:VX},valsR X η ι β l us→l[i]? =some x→ ∃u,us[i]? =some u∧x.R X η ι β u
 | [],_,i,x,_,h=>by simp at h
 |y::l,v::vs,0,x,hr,h=>by
   obtain rfl:y=x:=by simpa using h
   exact⟨v,rfl,hr.1⟩
 |y::l,v::vs,i+1,x,hr,h=>by
   obtain⟨u,h1,h2⟩:=valsR.get (i:=i) hr.2 (by simpa using h);exact⟨u,by simpa using h1,h2⟩
 |_::_,[],_,_,hr,_=>hr.elim
theorem outs_ok{X:Amb}{η:List Leaf}{ι:List Value}{β:List Nat}{st:St}{ρ:View}{E:Env}{hl:List Hl}(R:Rel X η ι β st ρ E hl): ∀{l:List Operand} {vs:List VX},outs st l=some vs→ ∃us,evs E l=some us∧valsR X η ι β vs us
 | [],vs,h=>by obtain rfl:=oi h;exact⟨[],rfl,trivial⟩
 |x::l,vs,h=>by
   simp only[outs]at h;split at h
   ·rename_i v r h1 h2;obtain rfl:=oi h;obtain⟨u,a1,a2⟩:=R.op h1;obtain⟨us,b1,b2⟩:=outs_ok R h2;exact⟨u::us,by simp[evs,a1,b1],a2,b2⟩
   cases h
theorem evs_length{E:Env}: ∀{l:List Operand} {us:List Value},evs E l=some us→us.length=l.length
 | [],us,h=>by obtain rfl:=oi h;rfl
 |x::l,us,h=>by
   simp only[evs]at h;split at h
   ·rename_i v vs _ h2;obtain rfl:=oi h;simp[evs_length h2]
   cases h
def outsV(P:Program)(st:St):List ResultVar→Option (List VX)
 | []=>some []
 | .tmp t::r=>match st.get t,outsV P st r with
   |some v,some l=>some (v::l)
   |_,_=>none
 | .cell a T::r=>match st.get a,tyI P T,outsV P st r with
   |some (.one (.ptr b o)),some (n,_,_,ag),some vs=>match heapB b st.heap with
     |some l=>if o+n≤l.length then(loadV ag ((l.drop o).take n)).map (· ::vs)else none
     |none=>none
   |_,_,_=>none
theorem outsV_ok{X:Amb}{P:Program}{η:List Leaf}{ι:List Value}{β:List Nat}{st:St}{ρ:View}{E:Env}{hl:List Hl}{w:World}(R:Rel X η ι β st ρ E hl)(hok:Ok w ρ hl): ∀{l:List ResultVar} {vs:List VX},outsV P st l=some vs→ ∃us,RV P w E l us∧us.length=l.length∧valsR X η ι β vs us
 | [],vs,h=>by obtain rfl:=oi h;exact⟨[],trivial,rfl,trivial⟩
 | .tmp t::l,vs,h=>by
   simp only[outsV]at h;split at h
   ·rename_i v r h1 h2;obtain rfl:=oi h;obtain⟨u,a1,a2⟩:=R.env.get h1;obtain⟨us,b1,b2,b3⟩:=outsV_ok R hok h2;exact⟨u::us,⟨a1,b1⟩,by simp[b2],a2,b3⟩
   cases h
 | .cell a T::r,vs,h=>by
   simp only[outsV]at h;split at h
   ·rename_i b o n by_ zz ag ws h1 hty h2;split at h
    ·rename_i l hB;split at h
     ·rename_i hlen;obtain⟨v,hv,rfl⟩:=Option.map_eq_some_iff.1 h;obtain⟨u,a1,blk,a2,rfl⟩:=R.env.get h1;obtain⟨us,b1,b2,b3⟩:=outsV_ok R hok h2;obtain⟨j,blk',cs,c0,c1,c2⟩:=heapB_ok hB R.heap;rw[a2]at c1;cases oi c1;have hcl:=c2.len;obtain⟨d1,d2⟩:=loadV_ok (X:=X) (β:=β) (η:=η) (ι:=ι) hv ((c2.drop o).take n);have hul:((cs.drop o).take n).length=n:=by simp;omega
      exact⟨_::us,⟨⟨_,a1,run_ldv (tyI_ok hty) hul (fun h=>hul▸d2 h) (box_at (hok.get c0) o n)⟩,b1⟩,by simp[b2],d1,b3⟩
     cases h
    cases h
   cases h
def denF(F:Cfg)(s:Sig)(rv:List ResultVar)(pl:Pl)(c:Code)(x:(tupT s.tin).den):Option (tupT s.tout).den:=
 den F c pl s.st (unT s.tin x) fun e _ st η=>match e with
  | .ex _=>none
  |_=>(outsV F.P st rv).bind fun vs=>(matI (sameR s.lay.ts.length s.lay.na s.lay.nb) η (st.frz (frzI st (fun i=>vs[i]?) s.rs)).facts (fun i=>vs[i]?) 0 0 s.lay.nb s.io {hp:=(st.frz (frzI st (fun i=>vs[i]?) s.rs)).heap} s.rs).bind fun M=>mkT s.tout M.ls
theorem arg_look: ∀{us:List Value} {k i:Nat} {u:Value},us[i]? =some u→Eng.look (argE k us) (k+i)=some u
 | [],k,i,u,h=>by simp at h
 |v::us,k,0,u,h=>by
   obtain rfl:v=u:=by simpa using h
   simp[argE,Eng.look]
 |v::us,k,i+1,u,h=>by
   have h1:=arg_look (k:=k+1) (i:=i) (us:=us) (u:=u) (by simpa using h);have e:k+1+i=k+(i+1):=by omega
   rw[e]at h1
   have hne:Nat.beq k (k+(i+1))=false:=by
    cases hb:Nat.beq k (k+(i+1))with
    |false=>rfl
    |true=>have:=Nat.eq_of_beq_eq_true hb;omega
   simp only[argE,Eng.look,hne];exact h1
theorem spec_of{X:Amb}{F:Cfg}{f:FuncId}{fn:Func}{c:Code}{s:Sig}{rv:List ResultVar}{pl:Pl}(hids:F.ids=X.ids)(hE: ∀C hs,EffOk X F C hs)(hA: ∀st η T e,F.ef st η (.alloc T)=some e→eAlloc F.P st T=some e)(hf:F.P.funcs[f]? =some fn)(hb:fn.body=some c)(hnt:fn.ntmps=F.nt)(hrv:fn.results=rv.toArray)(hlen:s.n≤F.nt)(hnr:rv.length=s.nr):
 Spec X F.P f s (denF F s rv pl c):=by
 intro C w ρ hs us ls κ γ A E' x y hx L he hus H G hy;unfold denF at hy;have hun:=mkT_un _ _ _ hx;rw[hun]at hy
 have R0:Rel X ls κ γ s.st ρ E' A:=by
  refine⟨?_,?_,?_,?_,?_,fun p hp=>nomatch hp⟩
  ·have:=L.env;rwa[List.nil_append,List.nil_append,List.nil_append]at this
  ·have:=L.hx;rwa[List.nil_append,List.nil_append,List.nil_append]at this
  ·have:=L.fs;rwa[List.nil_append,List.nil_append]at this
  ·exact L.na
  exact L.nb
 have hsub:subE E' (argE 0 us):=subE_of fun p hp=>by
  have:=arg_look (k:=0) (he p hp);rwa[Nat.zero_add]at this
 refine fn_calls' hf hb hnt Om (CW.sub hsub (den_ok hids (hE C) hA rfl c R0 H G hy fun e pl=>?_));intro st δ κ' γ' ρ' E hl' w' h1 h2 h3 h4 h5
 have fin:(outsV F.P st rv).bind (fun vs=>(matI (sameR s.lay.ts.length s.lay.na s.lay.nb) (ls++δ) (st.frz (frzI st (fun i=>vs[i]?) s.rs)).facts (fun i=>vs[i]?) 0 0 s.lay.nb s.io {hp:=(st.frz (frzI st (fun i=>vs[i]?) s.rs)).heap} s.rs).bind fun M=>mkT s.tout M.ls)=some y→ ∃us,RV F.P w' E rv us∧(∃ρ' vs M κ' γ' E2,View.le ρ ρ'∧packR us=packR vs∧vs.length=s.nr∧(∀p∈E2,vs[p.1]? =some p.2)∧Hp C w' ρ' (M++hs)∧
  ∀{η:List Leaf} {ι:List Value} {β:List Nat} {b:Bs},Ov b η ι β→SGr X ls κ γ b.σ η ι β→ST s.lay.nb b.τ β γ→AGr s κ ι b.α→InvB X η ι β ρ' (layI b {} s.rs) (unT s.tout y) κ' γ' M E2):=fun h5=>by
  obtain⟨vs,h6,h7⟩:=Option.bind_eq_some_iff.1 h5;obtain⟨M',h8,h9⟩:=Option.bind_eq_some_iff.1 h7;obtain⟨us',h10,h12,h11⟩:=outsV_ok h2 (w:=w') ⟨h3.view,fun h hh=>h3.all h (List.mem_append.2 (.inl hh))⟩ h6;obtain⟨ρ2,hl2,l2,g2,g3⟩:=frz_ok (frzI st (fun i=>vs[i]?) s.rs) h2 h3;obtain⟨δ2,κ2,γ2,A2,hl1,E2,I,l1,v1,k1⟩:=matI_ok (val:=fun i=>us'[i]?) (fun t v h=>h11.get h) g2.facts (M:={hp:=(st.frz (frzI st (fun i=>vs[i]?) s.rs)).heap}) (κ:=[]) (γ:=[]) (A:=[]) (hl:=hl2) (hl':=hl2) ⟨HpTo.refl _,g2.heap,trivial,rfl,trivial⟩ h8;simp only[List.nil_append]at I k1;refine⟨us',h10,ρ2,us',A2,κ2,γ2,E2,View.le_trans h1 l2,rfl,h12.trans hnr,v1,(I.to.trans (HpTo.drop _ _)).go g3,fun{η ι β b} O S T AA=>?_⟩;rw[mkT_un _ _ _ h9]
  refine k1 O (fun c d v hs hd=>?_) ⟨fun i h=>absurd h (Nat.not_lt_zero i),fun i h=>absurd h (Nat.not_lt_zero i),fun i h=>absurd h (Nat.not_lt_zero i),Nat.zero_le _,Nat.zero_le _⟩ (fun i v hq hv=>AA i v hq (by
   have hb:i<s.lay.na:=by
    simp only[Sig.io,Bool.and_eq_true,Nat.blt_eq]at hq;exact hq.1
   rwa[List.getElem?_append_left (by rw[L.na];exact hb)]at hv)) (fun k blk hk hb=>?_) InvB.none
  ·simp only[sameR,Bool.and_eq_true,Bool.not_eq_true']at hs;refine S c v hs.2 (sameC_ok (bl:=s.lay.ts.length) (ba:=s.lay.na) (bb:=s.lay.nb) ⟨fun i hi=>?_,fun i hi=>?_,fun i hi=>?_,?_,?_⟩ hs.1 hd)
   ·rw[List.getElem?_append_left];rw[L.len]at hi;exact hi
   ·rw[List.getElem?_append_left];rw[←L.na]at hi;exact hi
   ·rw[List.getElem?_append_left];rw[←L.nb]at hi;exact hi
   ·rw[L.len];exact Nat.le_refl _
   rw[←L.na];exact Nat.le_refl _
  refine T k blk hk ?_;rwa[List.getElem?_append_left (by rw[←L.nb]at hk;exact hk)]at hb
 cases e with
 |ex id=>cases h5
 |ret=>
   obtain⟨vs,g1,g2⟩:=fin h5;exact fn_retV hrv g1 g2
 |nrm=>
   obtain⟨vs,g1,g2⟩:=fin h5;exact fn_endV hrv g1 g2
end Go.Dn
namespace Go.Dn
open Go Go.Eng
set_option maxRecDepth 100000
structure Row where
 f:FuncId
 s:Sig
 G:(tupT s.tin).den→Option (tupT s.tout).den
structure RowOk(X:Amb)(P:Program)(r:Row):Prop where
 has:HasFn P r.f
 spec:Spec X P r.f r.s r.G
def tupC:VX→Option (CX ⊕ List CX)
 | .one c=>some (.inl c)
 | .agg l=>some (.inr l)
 | .tup _=>none
 | .fn _ _=>none
def tupCs:List VX→Option (List (CX ⊕ List CX))
 | []=>some []
 |v::l=>match tupC v,tupCs l with
   |some a,some b=>some (a::b)
   |_,_=>none
def packV:List VX→Option VX
 | [v]=>some v
 |l=>(tupCs l).map .tup
def HX.kept(hp:List HX):HX→Bool
 | .arr k _ _=>(heapA k hp).isSome
 | .box b _=>(heapB b hp).isSome
 | .ow k _ _=>(heapO k hp).isSome
def lentF:List HX→List Fact
 | []=>[]
 | .arr k t i::r=>if Nat.blt 0 t.n=true then .rs k t i::lentF r else lentF r
 | .ow k (.ns e t _) i::r=> .rs k (.pair (.list e) t) i::lentF r
 |_::r=>lentF r
def Mt.sig(M:Mt):CX→CX
 | .lf i=>M.lc.getD i (.cst undef)
 | .at k=>M.ats.getD k (.cst undef)
 | .ptr b o=> .ptr (M.bs.getD b 0) o
 |c=>c
def Mt.alp(M:Mt)(k:Nat):Nat:=match M.ats[k]? with
 |some (.at j)=>j
 |_=>0
def isAt:Option CX→Bool
 |some (.at _)=>true
 |_=>false
def Mt.ioOk(M:Mt)(s:Sig):Bool:=(List.range s.lay.na).all fun k=> !s.io k||isAt (M.ats[k]?)
def resV(env:List (Nat×VX)):Nat→Nat→Option (List VX)
 |0,_=>some []
 |n+1,k=>match St.get.go k env,resV env n (k+1)with
   |some a,some b=>some (a::b)
   |_,_=>none
def matP(st:St)(η:List Leaf)(fs:List Fact)(hp:List HX)(r:Row)(vs:List VX):Option Mt:=matI (sameC 0 0 0) η fs (fun i=>vs[i]?) 0 0 0 (fun _=>false) {hp:=hp} r.s.ps
def layR(st:St)(η:List Leaf)(r:Row)(M:Mt):Lay:=layI ⟨η.length,st.na,st.nb,M.sig,fun k=>M.bs.getD k 0,M.alp⟩ {} r.s.rs
def callR(st:St)(η:List Leaf)(r:Row)(M:Mt)(hp:List HX)(v:VX)(x:(tupT r.s.tin).den):ER:=
 ⟨tupT r.s.tout,r.G x,fun y=>({st with heap:=(layR st η r M).hx++hp,facts:=st.facts++(layR st η r M).fs,na:=st.na+(layR st η r M).na,nb:=st.nb+(layR st η r M).nb},v,unT r.s.tout y)⟩
def callB(st:St)(η:List Leaf)(r:Row)(M:Mt)(hp:List HX):Option ER:=if M.ioOk r.s=false then none else match(resV (layR st η r M).env r.s.nr 0).bind packV with
 |some v=>(mkT r.s.tin M.ls).map (callR st η r M hp v)
 |none=>none
def eCall1(r:Row)(st:St)(η:List Leaf)(vs:List VX):Option ER:=
 if vs.length=r.s.n then match matP st η (st.facts++lentF st.heap) st.heap r vs with
  |some M0=>match matP st η (st.facts++lentF (st.heap.filter (HX.kept M0.hp))) (st.heap.filter fun h=> !h.kept M0.hp) r vs with
    |some M=>if(layR st η r M).fs.isEmpty=true∧(layR st η r M).hx.all HX.vf=true then callB st η r M (st.heap.filter (HX.kept M0.hp))else match matP st η st.facts st.heap r vs with
      |some M=>callB st η r M M.hp
      |none=>none
    |none=>none
  |none=>none
 else none
def eCallR(f:FuncId)(st:St)(η:List Leaf)(vs:List VX):List Row→Option (Row×ER)
 | []=>none
 |r::l=>bif Nat.beq r.f f then(match eCall1 r st η vs with
   |some e=>some (r,e)
   |none=>eCallR f st η vs l)else eCallR f st η vs l
def eCall(rows:List Row)(st:St)(η:List Leaf)(c:Call):Option ER:=match c.callee with
 | .value (.func f)=>match outs st c.args.toList with
   |some vs=>(eCallR f st η vs rows).map (·.2)
   |none=>none
 | .value x=>match st.op x,outs st c.args.toList with
   |some (.fn f l),some vs=>(eCallR f st η (vs++l.map VX.one) rows).map (·.2)
   |_,_=>none
 |_=>none
section
variable {X:Amb}{P:Program}{η:List Leaf}{ι:List Value}{β:List Nat}{ρ:View}{st:St}{E:Env}{hl:List Hl}{C:Cx}{w:World}{hs:List Hl}
theorem eCallR_ok{f:FuncId}{vs:List VX}{r:Row}{e:ER}: ∀{l:List Row},eCallR f st η vs l=some (r,e)→r∈l∧r.f=f∧eCall1 r st η vs=some e
 |a::l,h=>by
   simp only[eCallR]at h
   cases hb:Nat.beq a.f f with
   |true=>
     rw[hb]at h;simp only[cond_true]at h;split at h
     ·rename_i e' h1;simp only[Option.some.injEq,Prod.mk.injEq]at h;obtain⟨rfl,rfl⟩:=h;exact⟨List.mem_cons_self ..,Nat.eq_of_beq_eq_true hb,h1⟩
     obtain⟨h1,h2⟩:=eCallR_ok h;exact⟨List.mem_cons_of_mem _ h1,h2⟩
   |false=>rw[hb]at h;obtain⟨h1,h2⟩:=eCallR_ok h;exact⟨List.mem_cons_of_mem _ h1,h2⟩
theorem tupCs_ok: ∀{l:List VX} {cs:List (CX ⊕ List CX)} {us:List Value},tupCs l=some cs→valsR X η ι β l us→tupR X η ι β cs us
 | [],cs,us,h,hv=>by
   obtain rfl:=oi h
   match us,hv with
   | [],_=>trivial
 |v::l,cs,us,h,hv=>by
   simp only[tupCs]at h;split at h
   ·rename_i a b h1 h2;obtain rfl:=oi h
    match us,hv with
    |u::us,hv=>
      have h3:=tupCs_ok h2 hv.2
      cases v with
      |one c=>obtain rfl:=oi h1;exact⟨hv.1,h3⟩
      |agg l=>obtain rfl:=oi h1;exact⟨hv.1,h3⟩
      |tup l=>cases h1
      |fn f l=>cases h1
    | [],hv=>exact hv.elim
   cases h
theorem packV_ok{l:List VX}{v:VX}{us:List Value}(h:packV l=some v)(hv:valsR X η ι β l us):v.R X η ι β (packR us):=by
 unfold packV at h;split at h
 ·obtain rfl:=oi h
  match us,hv with
  | [u],hv=>exact hv.1
  |_::_::_,hv=>exact hv.2.elim
 rename_i hne;obtain⟨cs,h1,rfl⟩:=Option.map_eq_some_iff.1 h;have h2:=tupCs_ok h1 hv
 match us,l,hv with
 | [],[],_=>exact⟨[],h2,rfl⟩
 | [u],[x],_=>exact absurd rfl (hne x)
 |u::u2::us,_::_::_,_=>exact⟨_,h2,rfl⟩
 | [_],_::_::_,hv=>exact hv.2.elim
 |_::_::_,[_],hv=>exact hv.2.elim
theorem lentF_ok{ρ':View}(hle:View.le ρ ρ'): ∀{l:List HX} {b:List Hl},heapR X η ι β ρ l b→(∀h∈b,h.P ρ')→ ∀f∈lentF l,f.R X η ι ρ'
 | [],_,_,_,f,hf=>nomatch hf
 | .box bb c::r,h::b,hr,hp,f,hf=>lentF_ok hle hr.2 (fun h hh=>hp h (List.mem_cons_of_mem _ hh)) f hf
 | .ow k (.nh ..) i::r,h::b,hr,hp,f,hf=>lentF_ok hle hr.2 (fun h hh=>hp h (List.mem_cons_of_mem _ hh)) f hf
 | .ow k (.mp ..) i::r,h::b,hr,hp,f,hf=>lentF_ok hle hr.2 (fun h hh=>hp h (List.mem_cons_of_mem _ hh)) f hf
 | .ow k (.ns e t g) i::r,h::b,hr,hp,f,hf=>by
   simp only[lentF]at hf;rcases List.mem_cons.1 hf with rfl|hf
   ·obtain⟨v,h1,_,us,xs,_,h2,⟨h3,_,_⟩,rfl⟩:=hr.1;rw[←enc_n X e]at h3;exact⟨v,xs,h1,h2,ns_rd h3 hle (hp _ (List.mem_cons_self ..))⟩
   exact lentF_ok hle hr.2 (fun h hh=>hp h (List.mem_cons_of_mem _ hh)) f hf
 | .ow .. ::_,[],hr,_,_,_=>hr.elim
 | .arr k t i::r,h::b,hr,hp,f,hf=>by
   simp only[lentF]at hf;have hrec:=lentF_ok hle hr.2 (fun h hh=>hp h (List.mem_cons_of_mem _ hh));split at hf
   ·rename_i hn;rcases List.mem_cons.1 hf with rfl|hf
    ·obtain⟨v,c,xs,h1,h2,h3,rfl⟩:=hr.1;have hpp:=hp _ (List.mem_cons_self ..);rw[←enc_n X t]at hpp;have hn':0<(t.enc X).n:=by rw[enc_n];simpa using hn
     exact⟨v,xs,h1,h2,arr_rd hn' hle hpp h3⟩
    exact hrec f hf
   exact hrec f hf
 | .box .. ::_,[],hr,_,_,_=>hr.elim
 | .arr .. ::_,[],hr,_,_,_=>hr.elim
theorem cellsR.get': ∀{l:List CX} {vs:List Value} {i:Nat} {v:Value},cellsR X η ι β l vs→vs[i]? =some v→ ∃c,l[i]? =some c∧c.R X η ι β v
 | [],[],i,v,_,h=>by simp at h
 |x::l,u::vs,0,v,hr,h=>by
   obtain rfl:u=v:=by simpa using h
   exact⟨x,rfl,hr.1⟩
 |x::l,u::vs,i+1,v,hr,h=>by
   obtain⟨c,h1,h2⟩:=cellsR.get' (i:=i) hr.2 (by simpa using h);exact⟨c,by simpa using h1,h2⟩
 | [],_::_,_,_,hr,_=>hr.elim
 |_::_,[],_,_,hr,_=>hr.elim
theorem bs_get{bs:List Nat}{γ:List Nat}{i blk:Nat}(h:bs.map (fun b=>β[b]?)=γ.map some)(hi:γ[i]? =some blk): ∃b,bs[i]? =some b∧β[b]? =some blk:=by
 have h1:(bs.map (fun b=>β[b]?))[i]? =some (some blk):=by rw[h,List.getElem?_map,hi];rfl
 rw[List.getElem?_map]at h1
 cases hb:bs[i]? with
 |none=>rw[hb]at h1;cases h1
 |some b=>rw[hb]at h1;exact⟨b,rfl,by simpa using h1⟩
theorem sig_ok{M:Mt}{κ:List Value}{γ:List Nat}(h1:cellsR X η ι β M.ats κ)(h2:M.bs.map (fun b=>β[b]?)=γ.map some)(h3:cellsR X η ι β M.lc (M.ls.map (lval X))):SGr X M.ls κ γ M.sig η ι β:=by
 intro c v hc hr
 cases c with
 |lf i=>
   obtain⟨l,a1,rfl⟩:=hr;obtain⟨d,b1,b2⟩:=h3.get' (i:=i) (v:=lval X l) (by rw[List.getElem?_map,a1];rfl);show(M.lc.getD i _).R X η ι β _;rw[List.getD_eq_getElem?_getD,b1];exact b2
 | «at» k=>
   obtain⟨d,b1,b2⟩:=h1.get' (i:=k) (v:=v) hr;show(M.ats.getD k _).R X η ι β _;rw[List.getD_eq_getElem?_getD,b1];exact b2
 |cst u=>exact hr
 |ptr b o=>
   obtain⟨blk,a1,rfl⟩:=hr;obtain⟨b',b1,b2⟩:=bs_get h2 a1;refine⟨blk,?_,rfl⟩;rw[List.getD_eq_getElem?_getD,b1];exact b2
 |ep k o=>cases hc
 |pd b o m=>cases hc
 |er c=>exact hr
theorem look_mem{E:Env}{t:Nat}{v:Value}:Eng.look E t=some v→(t,v)∈E:=by
 induction E with
 |nil=>intro h;cases h
 |cons p l ih=>
   obtain⟨j,u⟩:=p;intro h;simp only[Eng.look]at h
   cases hb:Nat.beq j t with
   |true=>rw[hb]at h;obtain rfl:=oi h;obtain rfl:=Nat.eq_of_beq_eq_true hb;exact List.mem_cons_self ..
   |false=>rw[hb]at h;exact List.mem_cons_of_mem _ (ih h)
theorem resV_ok{env:List (Nat×VX)}{E2:Env}{vs:List Value}(he:envR X η ι β env E2)(h2: ∀p∈E2,vs[p.1]? =some p.2): ∀{n k:Nat} {xs:List VX},resV env n k=some xs→vs.length=k+n→valsR X η ι β xs (vs.drop k)
 |0,k,xs,h,hl=>by
   obtain rfl:=oi h;rw[List.drop_eq_nil_of_le Om];trivial
 |n+1,k,xs,h,hl=>by
   simp only[resV]at h;split at h
   ·rename_i a b h3 h4;obtain rfl:=oi h;obtain⟨v,c1,c2⟩:=he.get h3;have c3:=h2 _ (look_mem c1);have hk:k<vs.length:=by omega
    rw[List.drop_eq_getElem_cons hk];rw[List.getElem?_eq_getElem hk]at c3;rw[oi c3];exact⟨c2,resV_ok he h2 h4 Om⟩
   cases h
theorem eCall_ok{rows:List Row}(hrows: ∀r∈rows,RowOk X P r){c:Call}{e:ER}{z:e.t.den}(he:eCall rows st η c=some e)(hz:e.o=some z)(R:Rel X η ι β st ρ E hl)(H:Hp C w ρ (hl++hs))(G:GErrs ρ X.T X.ids X.ge):
 ∀d ty pos af g,Eff P E ⟨d,.call c,ty,pos,af,g⟩ w fun v w'=> ∃κ γ ρ' hl',View.le ρ ρ'∧(e.out z).2.1.R X (η++(e.out z).2.2) (ι++κ) (β++γ) v∧Rel X (η++(e.out z).2.2) (ι++κ) (β++γ) (e.out z).1 ρ' E hl'∧Hp C w' ρ' (hl'++hs):=by
 intro d ty pos af g;obtain⟨callee,args,tys⟩:=c;unfold eCall at he;simp only at he;have base:Base 0 0 0 [] [] [] η ι β:=⟨fun i h=>absurd h (Nat.not_lt_zero i),fun i h=>absurd h (Nat.not_lt_zero i),fun i h=>absurd h (Nat.not_lt_zero i),Nat.zero_le _,Nat.zero_le _⟩
 have call: ∀{r:Row} {f:FuncId} {vs:List VX} {us:List Value} {fs:List Fact} {hp0:List HX} {M:Mt} {a hs1:List Hl} {C1:Cx} {ρ1:View} {hp:List HX},(∀{post:Value→World→Prop},Calls P f us.toArray w (Rets post)→Eff P E ⟨d,.call ⟨callee,args,tys⟩,ty,pos,af,g⟩ w post)→r.f=f→RowOk X P r→valsR X η ι β vs us→vs.length=r.s.n→(∀f∈fs,f.R X η ι ρ1)→heapR X η ι β ρ1 hp0 a→
  matP st η fs hp0 r vs=some M→callB st η r M hp=some e→Hp C1 w ρ1 (a++hs1)→GErrs ρ1 X.T X.ids X.ge→
  Eff P E ⟨d,.call ⟨callee,args,tys⟩,ty,pos,af,g⟩ w fun v w'=> ∃κ γ ρ' A hl',View.le ρ1 ρ'∧heapR X η ι β ρ1 M.hp hl'∧(e.out z).2.1.R X (η++(e.out z).2.2) (ι++κ) (β++γ) v∧Hp C1 w' ρ' (A++(hl'++hs1))∧
   (e.out z).1={st with heap:=(layR st η r M).hx++hp,facts:=st.facts++(layR st η r M).fs,na:=st.na+(layR st η r M).na,nb:=st.nb+(layR st η r M).nb}∧
   ∃E2,InvB X η ι β ρ' (layR st η r M) (e.out z).2.2 κ γ A E2:=by
  intro r f vs us fs hp0 M a hs1 C1 ρ1 hp eff hf hrow hv hn hfs hh hm hcb H1 G1;subst hf;unfold callB at hcb;split at hcb
  ·cases hcb
  rename_i hio;split at hcb
  ·rename_i v hpv;obtain⟨xs,hx1,hx2⟩:=Option.bind_eq_some_iff.1 hpv;obtain⟨x,hx,rfl⟩:=Option.map_eq_some_iff.1 hcb;obtain⟨δ,κ,γ,A,hl1,E1,I,l1,v1,k1⟩:=matI_ok (val:=fun i=>us[i]?) (fun t v h=>hv.get h) hfs (M:={hp:=hp0}) (κ:=[]) (γ:=[]) (A:=[]) (hl:=a) (hl':=a) ⟨HpTo.refl _,hh,trivial,rfl,trivial⟩ hm;have K:=k1 (η:=[]) (ι:=[]) (β:=[]) (b:=⟨0,0,0,id,id,id⟩) (L:={}) (E:=[]) ⟨rfl,rfl,rfl⟩ (fun c d v hs hd=>sameC_ok base hs hd) ⟨base.l,base.a,base.b,base.bl,base.ba⟩ (fun i v hq _=>nomatch hq) (fun k blk hk _=>absurd hk (Nat.not_lt_zero k)) InvB.none;simp only[List.nil_append]at K I
   have H2:Hp C1 w ρ1 (A++(hl1++hs1)):=by
    have:=I.to.go H1;rwa[List.append_assoc]at this
   have hus':us.length=r.s.n:=by
    have: ∀{l:List VX} {us:List Value},valsR X η ι β l us→us.length=l.length:=by
     intro l
     induction l with
     |nil=>intro us h;match us,h with| [],_=>rfl
     |cons y l ih=>
       intro us h
       match us,h with
       |u::us,h=>simp[ih h.2]
       | [],h=>exact h.elim
    rw[this hv,hn]
   have hcall:=hrow.spec hx K v1 hus' H2 G1 hz;refine(eff hcall).mono ?_;rintro u w' ⟨ρ',ws,A',κ',γ',E2,g1,rfl,g2,g3,g4,g5⟩
   have B:=g5 (η:=η) (ι:=ι) (β:=β) (b:=⟨η.length,st.na,st.nb,M.sig,fun k=>M.bs.getD k 0,M.alp⟩) ⟨rfl,R.na,R.nb⟩ (sig_ok I.ats I.bs I.lc) (fun k blk _ hb=>by
    obtain⟨b',b1,b2⟩:=bs_get I.bs hb;show β[M.bs.getD k 0]? =some blk;rw[List.getD_eq_getElem?_getD,b1]
    exact b2) (fun i v hq hv=>by
    obtain⟨d,b1,b2⟩:=I.ats.get' hv
    have hi:i<r.s.lay.na:=by
     simp only[Sig.io,Bool.and_eq_true,Nat.blt_eq]at hq;exact hq.1
    have:=hio;simp only[Mt.ioOk,Bool.not_eq_false,List.all_eq_true,List.mem_range]at this;have h3:=this i hi;rw[hq,b1]at h3;show ι[M.alp i]? =some v;unfold Mt.alp;rw[b1]
    cases d with
    | «at» k=>exact b2
    |_=>cases h3)
   refine⟨κ',γ',ρ',A',hl1,g1,I.hp,?_,g4,rfl,E2,B⟩;have hvv:=resV_ok B.env g3 hx1 (by rw[g2];omega);rw[List.drop_zero]at hvv;exact packV_ok hx2 hvv
  cases hcb
 have main: ∀{f:FuncId} {vs:List VX} {us:List Value},(HasFn P f→ ∀{post:Value→World→Prop},Calls P f us.toArray w (Rets post)→Eff P E ⟨d,.call ⟨callee,args,tys⟩,ty,pos,af,g⟩ w post)→valsR X η ι β vs us→(eCallR f st η vs rows).map (·.2)=some e→
  Eff P E ⟨d,.call ⟨callee,args,tys⟩,ty,pos,af,g⟩ w fun v w'=> ∃κ γ ρ' hl',View.le ρ ρ'∧(e.out z).2.1.R X (η++(e.out z).2.2) (ι++κ) (β++γ) v∧Rel X (η++(e.out z).2.2) (ι++κ) (β++γ) (e.out z).1 ρ' E hl'∧Hp C w' ρ' (hl'++hs):=by
  intro f vs us eff hv he;obtain⟨⟨r,e0⟩,hr,rfl⟩:=Option.map_eq_some_iff.1 he;obtain⟨hmem,hrf,he⟩:=eCallR_ok hr;have hrow:=hrows r hmem;have eff':=fun{post}=>eff (hrf▸hrow.has) (post:=post);unfold eCall1 at he;split at he
  ·rename_i hn;split at he
   ·rename_i M0 hM0;split at he
    ·rename_i M hM;split at he
     ·rename_i hflat;obtain⟨b,a,p1,p2,p3⟩:=heapR_part (HX.kept M0.hp) R.heap
      have H1:Hp C w ρ (a++(b++hs)):=by
       have:=H.perm (p1.append_right hs);rw[List.append_assoc]at this;exact this.perm (List.perm_append_comm_assoc b a hs)
      obtain⟨C',ρ',hle,HA,HL,back⟩:=H1.lend
      have hfs: ∀f∈st.facts++lentF (st.heap.filter (HX.kept M0.hp)),f.R X η ι ρ':=fun f hf=>by
       rcases List.mem_append.1 hf with hf|hf
       ·have:=(R.facts f hf).up [] [] hle;simpa using this
       exact lentF_ok hle p2 HL f hf
      have hh:heapR X η ι β ρ' (st.heap.filter fun h=> !h.kept M0.hp) a:=by
       have:=p3.up [] [] [] hle;rw[List.append_nil,List.append_nil,List.append_nil]at this;exact this
      refine(call eff' hrf hrow hv hn hfs hh hM he (by simpa using HA:Hp C' w ρ' (a++ [])) (G.up hle)).mono ?_;rintro u w' ⟨κ,γ,ρ'',A,hl',g1,_,g3,g4,g5,E2,B⟩
      have H3:=back (by
       have:=g4;rw[List.append_nil]at this;exact(HpTo.drop A hl').go (by simpa using this:Hp C' w' ρ'' ((A++hl')++ [])) |> fun h=>by simpa using h:Hp C' w' ρ'' A)
      refine⟨κ,γ,ρ,A++b,View.le_refl ρ,g3,?_,by rw[List.append_assoc];exact H3⟩;rw[g5];refine⟨R.env.up _ κ γ,(heapR_vf hflat.2 B.hx).app (p2.up _ κ γ (View.le_refl ρ)),fun f hf=>?_,?_,?_,fun p hp=>get_app _ (R.kn p hp)⟩
      ·rcases List.mem_append.1 hf with hf|hf
       ·exact(R.facts f hf).up _ _ (View.le_refl ρ)
       have:=hflat.1;rw[List.isEmpty_iff]at this;rw[this]at hf;cases hf
      ·show(ι++κ).length=st.na+_;rw[List.length_append,R.na,B.na]
      show(β++γ).length=st.nb+_;rw[List.length_append,R.nb,B.nb]
     split at he
     ·rename_i M2 hM2;refine(call eff' hrf hrow hv hn R.facts R.heap hM2 he H G).mono ?_;rintro u w' ⟨κ,γ,ρ',A,hl',g1,g2,g3,g4,g5,E2,B⟩;refine⟨κ,γ,ρ',A++hl',g1,g3,?_,by rw[List.append_assoc];exact g4⟩;rw[g5];refine⟨R.env.up _ κ γ,B.hx.app (g2.up _ κ γ g1),fun f hf=>?_,?_,?_,fun p hp=>get_app _ (R.kn p hp)⟩
      ·rcases List.mem_append.1 hf with hf|hf
       ·exact(R.facts f hf).up _ _ g1
       exact B.fs f hf
      ·show(ι++κ).length=st.na+_;rw[List.length_append,R.na,B.na]
      show(β++γ).length=st.nb+_;rw[List.length_append,R.nb,B.nb]
     cases he
    cases he
   cases he
  cases he
 split at he
 ·rename_i f;split at he
  ·rename_i vs hvs;obtain⟨us,hus,hv⟩:=outs_ok R hvs;have hargs:args=args.toList.toArray:=by simp
   refine main (fun hfn post hc=>?_) hv he;rw[hargs];exact E_call hfn hus hc
  cases he
 ·rename_i x _;split at he
  ·rename_i f l vs hx hvs;obtain⟨us,hus,hv⟩:=outs_ok R hvs;obtain⟨u,hu,cs,hcs,rfl⟩:=R.op hx;have hargs:args=args.toList.toArray:=by simp
   refine main (us:=us++cs) (fun hfn post hc=>?_) ?_ he
   ·rw[hargs];exact E_callV hfn hu hus (by simpa using hc)
   have one: ∀{l:List CX} {cs:List Value},cellsR X η ι β l cs→valsR X η ι β (l.map VX.one) cs:=by
    intro l
    induction l with
    |nil=>intro cs h;match cs,h with| [],_=>exact trivial
    |cons c l ih=>
      intro cs h
      match cs,h with
      |v::cs,h=>exact⟨h.1,ih h.2⟩
      | [],h=>exact h.elim
   have app: ∀{l:List VX} {us:List Value},valsR X η ι β l us→ ∀{m:List VX} {ws:List Value},valsR X η ι β m ws→valsR X η ι β (l++m) (us++ws):=by
    intro l
    induction l with
    |nil=>intro us h m ws hm;match us,h with| [],_=>exact hm
    |cons c l ih=>
      intro us h m ws hm
      match us,h with
      |v::us,h=>exact⟨h.1,ih h.2 hm⟩
      | [],h=>exact h.elim
   exact app hv (one hcs)
  cases he
 cases he
end
end Go.Dn
namespace Go.Dn
open Go Go.Eng
set_option maxRecDepth 100000
section
variable {X:Amb}{P:Program}{η:List Leaf}{ι:List Value}{β:List Nat}{ρ:View}{fs:List Fact}
variable {st:St}{E:Env}{hl:List Hl}{C:Cx}{w:World}{hs:List Hl}
def EPost(X:Amb)(η:List Leaf)(ι:List Value)(β:List Nat)(ρ:View)(E:Env)(C:Cx)(hs:List Hl)(r:St×VX×List Leaf)(v:Value)(w':World):Prop:=
 ∃κ γ ρ' hl',View.le ρ ρ'∧r.2.1.R X (η++r.2.2) (ι++κ) (β++γ) v∧Rel X (η++r.2.2) (ι++κ) (β++γ) r.1 ρ' E hl'∧Hp C w' ρ' (hl'++hs)
theorem eAlloc_ok(R:Rel X η ι β st ρ E hl)(H:Hp C w ρ (hl++hs)){T:TypeId}{e:ER}{z:e.t.den}(h:eAlloc P st T=some e): ∀d ty pos af g,Eff P E ⟨d,.alloc T,ty,pos,af,g⟩ w (EPost X η ι β ρ E C hs (e.out z)):=by
 intro d ty pos af g;unfold eAlloc at h;split at h
 ·rename_i n by_ zz ag hty;obtain rfl:=oi h;refine(E_alloc H (tyI_ok hty) (zs:=zz.cells.toList) Sm).mono ?_;rintro v w' ⟨b,rfl,H'⟩;exact⟨[],[b],ρ,_,View.le_refl ρ,⟨b,by rw[←R.nb];simp,rfl⟩,R.box b (cstR _),H'⟩
 cases h
def eBox(st:St)(η:List Leaf)(x:Operand):Option ER:=match st.op x with
 |some v=>if noTup v=true∧v.cells.all (oneC st η)=true then some ⟨.unit,some (),fun _=>({st with heap:= .box st.nb v.cells::st.heap,nb:=st.nb+1},.one (.ptr st.nb 0),[])⟩else none
 |none=>none
theorem okHl{hl hs:List Hl}(H:Hp C w ρ (hl++hs)):Ok w ρ hl:=⟨H.view,fun h hh=>H.all h (List.mem_append.2 (.inl hh))⟩
theorem eBox_ok(R:Rel X η ι β st ρ E hl)(H:Hp C w ρ (hl++hs))(G:GErrs ρ X.T X.ids X.ge){T:TypeId}{x:Operand}{e:ER}{z:e.t.den}(h:eBox st η x=some e): ∀d ty pos af g,Eff P E ⟨d,.box T x,ty,pos,af,g⟩ w (EPost X η ι β ρ E C hs (e.out z)):=by
 intro d ty pos af g;unfold eBox at h;split at h
 ·rename_i v hv;split at h
  ·rename_i hc;obtain rfl:=oi h;obtain⟨u,h1,h2⟩:=R.op hv;obtain⟨us,h3,h4,_⟩:=cells_ok R G (okHl H) hc.2 hc.1 h2;refine(E_box H h1 h3).mono ?_;rintro v w' ⟨b,rfl,H'⟩;exact⟨[],[b],ρ,_,View.le_refl ρ,⟨b,by rw[←R.nb];simp,rfl⟩,R.box b h4,H'⟩
  cases h
 cases h
def setB(b:Nat)(l:List CX):List HX→List HX
 | []=>[]
 | .box j c::r=>bif Nat.beq j b then .box j l::r else .box j c::setB b l r
 | .arr k t i::r=> .arr k t i::setB b l r
 | .ow k s i::r=> .ow k s i::setB b l r
theorem setB_ok{b:Nat}{l l':List CX}: ∀{hp:List HX} {hl:List Hl},heapB b hp=some l→heapR X η ι β ρ hp hl→ ∃(j:Nat) (blk:Nat) (vs:List Value),hl[j]? =some (Box blk vs)∧β[b]? =some blk∧cellsR X η ι β l vs∧
 ∀vs',cellsR X η ι β l' vs'→heapR X η ι β ρ (setB b l' hp) (hl.set j (Box blk vs'))
 | .box j c::r,h::hs,hk,hr=>by
   simp only[heapB]at hk;simp only[setB]
   cases hb:Nat.beq j b with
   |true=>
     rw[hb]at hk;obtain rfl:=oi hk;obtain rfl:=Nat.eq_of_beq_eq_true hb;obtain⟨blk,vs,h1,h2,rfl⟩:=hr.1;exact⟨0,blk,vs,rfl,h1,h2,fun vs' h'=>⟨⟨blk,vs',h1,h',rfl⟩,hr.2⟩⟩
   |false=>
     rw[hb]at hk;obtain⟨j',blk,vs,h0,h1,h2,h3⟩:=setB_ok hk hr.2;exact⟨j'+1,blk,vs,h0,h1,h2,fun vs' h'=>⟨hr.1,h3 vs' h'⟩⟩
 | .arr .. ::r,h::hs,hk,hr=>by
   obtain⟨j,blk,vs,h0,h1,h2,h3⟩:=setB_ok (hp:=r) hk hr.2;exact⟨j+1,blk,vs,h0,h1,h2,fun vs' h'=>⟨hr.1,h3 vs' h'⟩⟩
 | .ow .. ::r,h::hs,hk,hr=>by
   obtain⟨j,blk,vs,h0,h1,h2,h3⟩:=setB_ok (hp:=r) hk hr.2;exact⟨j+1,blk,vs,h0,h1,h2,fun vs' h'=>⟨hr.1,h3 vs' h'⟩⟩
 | .ow .. ::_,[],_,hr=>hr.elim
 | .arr .. ::_,[],_,hr=>hr.elim
 | .box .. ::_,[],_,hr=>hr.elim
def eStoreB(P:Program)(st:St)(η:List Leaf)(T:TypeId)(x y:Operand):Option ER:=match st.op x,st.op y,tyI P T with
 |some (.one (.ptr b o)),some v,some (n,_,_,_)=>match heapB b st.heap with
   |some l=>if(noTup v=true∧v.cells.all (oneC st η)=true)∧v.cells.length=n∧o+n≤l.length then
    some ⟨.unit,some (),fun _=>({st with heap:=setB b (l.take o++v.cells++l.drop (o+v.cells.length)) st.heap},.one (.cst undef),[])⟩
     else none
   |none=>none
 |_,_,_=>none
end
end Go.Dn
namespace Go.Dn
open Go Go.Eng
set_option maxRecDepth 100000
section
variable {X:Amb}{P:Program}{η:List Leaf}{ι:List Value}{β:List Nat}{ρ:View}{st:St}{E:Env}{hl:List Hl}{C:Cx}{w:World}{hs:List Hl}
theorem set_app{a b:List Hl}{j:Nat}{x y:Hl}(h:a[j]? =some x):(a++b).set j y=a.set j y++b:=by
 rw[List.set_append_left _ _ (List.getElem?_eq_some_iff.1 h).1]
theorem eStoreB_ok(R:Rel X η ι β st ρ E hl)(H:Hp C w ρ (hl++hs))(G:GErrs ρ X.T X.ids X.ge){T:TypeId}{x y:Operand}{e:ER}{z:e.t.den}(h:eStoreB P st η T x y=some e): ∀d ty pos af g,Eff P E ⟨d,.store T x y,ty,pos,af,g⟩ w (EPost X η ι β ρ E C hs (e.out z)):=by
 intro d ty pos af g;unfold eStoreB at h;split at h
 ·rename_i b o v n by_ zz ag hx hy hty;split at h
  ·rename_i l hB;split at h
   ·rename_i hc;obtain⟨⟨hc1,hc2⟩,hc3,hc4⟩:=hc;obtain rfl:=oi h;obtain⟨u,h2,blk,h3,rfl⟩:=R.op hx;obtain⟨uv,h4,h5⟩:=R.op hy;obtain⟨us,c1,c2,c3⟩:=cells_ok R G (okHl H) hc2 hc1 h5;obtain⟨j,blk',vs,a0,a1,a2,a3⟩:=setB_ok (l':=l.take o++v.cells++l.drop (o+v.cells.length)) hB R.heap;rw[h3]at a1;cases oi a1;have hl1:=a2.len;have hl2:=c2.len;refine(E_stBu H (get_app hs a0) (tyI_ok hty) h2 h4 c1 Om c3 Om rfl).mono ?_;rintro v' w' ⟨rfl,H'⟩;rw[set_app a0]at H';refine⟨[],[],ρ,_,View.le_refl ρ,rfl,?_,H'⟩;have he:=R.env.up [] [] [];have hh:=(a3 _ (setC_R o a2 c2)).up [] [] [] (View.le_refl ρ);exact⟨he,hh,fun f hf=>(R.facts f hf).up [] [] (View.le_refl ρ),by simpa using R.na,by simpa using R.nb,fun p hp=>get_app _ (R.kn p hp)⟩
   cases h
  cases h
 cases h
def setA(k k' i':Nat):List HX→List HX
 | []=>[]
 | .box j c::r=> .box j c::setA k k' i' r
 | .ow j s i::r=> .ow j s i::setA k k' i' r
 | .arr j t i::r=>bif Nat.beq j k then .arr k' t i'::r else .arr j t i::setA k k' i' r
theorem setA_ok{k k' i i':Nat}{t:Tc}: ∀{hp:List HX} {hl:List Hl},heapA k hp=some (t,i)→heapR X η ι β ρ hp hl→
 ∃(j:Nat) (v:Value) (c:List Value) (xs:List t.den),hl[j]? =some (Arr v t.n c)∧ι[k]? =some v∧η[i]? =some ⟨.list t,xs⟩∧rdL (t.enc X) ρ xs c∧
   ∀(δ:List Leaf) (κ:List Value) (v':Value) (ys:List t.den) (c':List Value),(ι++κ)[k']? =some v'→(η++δ)[i']? =some ⟨.list t,ys⟩→rdL (t.enc X) ρ ys c'→heapR X (η++δ) (ι++κ) (β++ []) ρ (setA k k' i' hp) (hl.set j (Arr v' t.n c'))
 | .arr j t' i0::r,h::hs,hk,hr=>by
   simp only[heapA]at hk;simp only[setA]
   cases hb:Nat.beq j k with
   |true=>
     rw[hb]at hk;simp only[cond_true,Option.some.injEq,Prod.mk.injEq]at hk;obtain⟨rfl,rfl⟩:=hk;obtain rfl:=Nat.eq_of_beq_eq_true hb;obtain⟨v,c,xs,h1,h2,h3,rfl⟩:=hr.1;exact⟨0,v,c,xs,rfl,h1,h2,h3,fun δ κ v' ys c' hk' hi' h'=>⟨⟨v',c',ys,hk',hi',h',rfl⟩,hr.2.up δ κ [] (View.le_refl ρ)⟩⟩
   |false=>
     rw[hb]at hk;obtain⟨j',v,c,xs,h0,h1,h2,h3,h4⟩:=setA_ok hk hr.2;exact⟨j'+1,v,c,xs,h0,h1,h2,h3,fun δ κ v' ys c' hk' hi' h'=>⟨hr.1.up δ κ [] (View.le_refl ρ),h4 δ κ v' ys c' hk' hi' h'⟩⟩
 | .box b l::r,h::hs,hk,hr=>by
   obtain⟨j',v,c,xs,h0,h1,h2,h3,h4⟩:=setA_ok (hp:=r) hk hr.2;exact⟨j'+1,v,c,xs,h0,h1,h2,h3,fun δ κ v' ys c' hk' hi' h'=>⟨hr.1.up δ κ [] (View.le_refl ρ),h4 δ κ v' ys c' hk' hi' h'⟩⟩
 | .ow b l q::r,h::hs,hk,hr=>by
   obtain⟨j',v,c,xs,h0,h1,h2,h3,h4⟩:=setA_ok (hp:=r) hk hr.2;exact⟨j'+1,v,c,xs,h0,h1,h2,h3,fun δ κ v' ys c' hk' hi' h'=>⟨hr.1.up δ κ [] (View.le_refl ρ),h4 δ κ v' ys c' hk' hi' h'⟩⟩
 | .ow .. ::_,[],_,hr=>hr.elim
 | .arr .. ::_,[],_,hr=>hr.elim
 | .box .. ::_,[],_,hr=>hr.elim
def eStoreA(P:Program)(st:St)(η:List Leaf)(T:TypeId)(x y:Operand):Option ER:=match st.op x,st.op y,tyI P T with
 |some (.one (.ep k 0)),some v,some (n,_,_,_)=>match factE k st.facts with
   |some (h,t,m,_,_)=>match heapA h st.heap,η[m]? with
     |some (t',i'),some ⟨.int _,mm⟩=>if t'=t∧(noTup v=true∧v.cells.all (oneC st η)=true)∧v.cells.length=n∧t.n=n then
      match(η[i']?).bind fun l=>l.as (.list t),closeT st.facts η t v.cells with
      |some xs,some z=>some ⟨.list t,setI xs mm z,fun ys=>({st with heap:=setA h h η.length st.heap},.one (.cst undef),[⟨.list t,ys⟩])⟩
      |_,_=>none
       else none
     |_,_=>none
   |none=>none
 |_,_,_=>none
theorem eStoreA_ok(R:Rel X η ι β st ρ E hl)(H:Hp C w ρ (hl++hs))(G:GErrs ρ X.T X.ids X.ge){T:TypeId}{x y:Operand}{e:ER}{z:e.t.den}(h:eStoreA P st η T x y=some e)(hz:e.o=some z): ∀d ty pos af g,Eff P E ⟨d,.store T x y,ty,pos,af,g⟩ w (EPost X η ι β ρ E C hs (e.out z)):=by
 intro d ty pos af g;unfold eStoreA at h;split at h
 ·rename_i k v n by_ zz ag hx hy hty;split at h
  ·rename_i hh t m i0 x0 hf;split at h
   ·rename_i t' i' kk mm hA hm;split at h
    ·rename_i hc;obtain⟨rfl,⟨hc1,hc2⟩,hc3,hc4⟩:=hc;split at h
     ·rename_i xs zz' hi hcl;obtain rfl:=oi h;have hz:setI xs mm zz'=some z:=hz;obtain⟨s0,s1,s2⟩:=setI_some hz;obtain⟨u,h2,b,a,h3,rfl⟩:=R.op hx;obtain⟨uv,h4,h5⟩:=R.op hy;obtain⟨us,c1,c2,c3⟩:=cells_ok R G (okHl H) hc2 hc1 h5;have hrd:=closeT_ok G R.facts _ hcl c2;obtain⟨v0,b',o',xs0,y0,kk',mm',f1,f2,f3,f4,f5,f6,f7⟩:=R.facts _ (factE_ok hf);rw[h3]at f1;cases oi f1;rw[hm]at f3;cases oi f3;obtain⟨j,v1,cs,xs1,a0,a1,a2,a3,a4⟩:=setA_ok (k':=hh) (i':=η.length) hA R.heap;rw[f2]at a1;cases oi a1;rw[leafAs hi]at a2;cases oi a2;have hl2:=c2.len;refine(E_stAu (j:=0) H (get_app hs a0) (tyI_ok hty) f4 h2 h4 c1 Om c3 Om).mono ?_;rintro v' w' ⟨rfl,H'⟩;rw[set_app a0]at H';refine⟨[],[],ρ,_,View.le_refl ρ,rfl,?_,H'⟩
      have hst:=a4 [⟨.list t',z⟩] [] v0 z (setC cs (mm.toNat*t'.n+0) us) (by simpa using f2) Sm (by
       rw[s2,Nat.add_zero,←enc_n X t'];exact rdL.set a3 s1 hrd)
      exact⟨R.env.up _ [] [],hst,fun f hf=>(R.facts f hf).up _ [] (View.le_refl ρ),by simpa using R.na,by simpa using R.nb,fun p hp=>get_app _ (R.kn p hp)⟩
     cases h
    cases h
   cases h
  cases h
 cases h
def lfs(n N:Nat):List CX:=rowF N n CX.lf
theorem rowF_R{k:IntKind}{f:Nat→Int}: ∀(N n:Nat) (ζ:List Leaf),η.length=n→cellsR X (η++(rowF N 0 fun j=>(⟨.int k,f j⟩:Leaf))++ζ) ι β (lfs n N) (rowF N 0 fun j=> .int k (f j)):=by
 intro N n ζ hn
 have key: ∀(M j:Nat),j+M≤N→cellsR X (η++(rowF N 0 fun j=>(⟨.int k,f j⟩:Leaf))++ζ) ι β (rowF M (n+j) CX.lf) (rowF M j fun j=> .int k (f j)):=by
  intro M
  induction M with
  |zero=>intro j _;exact trivial
  |succ M ih=>
    intro j hj;refine⟨⟨⟨.int k,f j⟩,?_,rfl⟩,ih (j+1) Om⟩;refine get_app _ ?_;rw[List.getElem?_append_right Om,show n+j-η.length=j by omega,rowF_get _ _ _ _ Om,Nat.zero_add]
 exact key N 0 Om
def eStoreX(P:Program)(st:St)(η:List Leaf)(T:TypeId)(x y:Operand):Option ER:=match st.op x,(st.op y).bind (·.leaf η),tyI P T with
 |some (.one (.pd b o m)),some ⟨.int k',v⟩,some (n,_,_,ag)=>match factX m st.facts,heapB b st.heap,η[m]? with
   |some (l,k,_),some cs,some ⟨.int _,mm⟩=>if n=1∧ag=false∧k'=k∧o+l.length≤cs.length then match intsL η k ((cs.drop o).take l.length)with
    |some xs=>some ⟨.list (.int k),setI xs mm v,fun ys=>({st with heap:=setB b (cs.take o++lfs η.length l.length++cs.drop (o+l.length)) st.heap},.one (.cst undef),rowF l.length 0 fun j=>(⟨.int k,ys.getD j 0⟩:Leaf))⟩
    |none=>none
     else none
   |_,_,_=>none
 |_,_,_=>none
theorem eStoreX_ok(R:Rel X η ι β st ρ E hl)(H:Hp C w ρ (hl++hs)){T:TypeId}{x y:Operand}{e:ER}{z:e.t.den}(h:eStoreX P st η T x y=some e)(hz:e.o=some z): ∀d ty pos af g,Eff P E ⟨d,.store T x y,ty,pos,af,g⟩ w (EPost X η ι β ρ E C hs (e.out z)):=by
 intro d ty pos af g;unfold eStoreX at h;split at h
 ·rename_i b o m k' v n by_ zz ag hx hy hty;split at h
  ·rename_i l k x0 cs kk mm hf hB hm;split at h
   ·rename_i hc;obtain⟨rfl,rfl,rfl,hlen⟩:=hc;split at h
    ·rename_i xs hxs;obtain rfl:=oi h;have hz:setI xs mm v=some z:=hz;obtain⟨u,h2,blk,kk',i,h3,h4,rfl⟩:=R.op hx;rw[hm]at h4;cases oi h4;let δ:List Leaf:=rowF l.length 0 fun j=>(⟨.int k',z.getD j 0⟩:Leaf);have hh:=R.heap.up δ [] [] (View.le_refl ρ);obtain⟨j,blk',vs,a0,a1,a2,a3⟩:=setB_ok (l':=cs.take o++lfs η.length l.length++cs.drop (o+l.length)) hB hh;have a1:β[b]? =some blk':=by rw[List.append_nil]at a1;exact a1
     rw[h3]at a1;cases oi a1;have hl1:=a2.len;have e1:=intsL_R (intsL_up δ hxs) ((a2.drop o).take l.length);have e2:=((a2.drop o).take l.length).len;have e3:((cs.drop o).take l.length).length=l.length:=by simp;omega
     rw[e3,e1,List.length_map]at e2;have e4:(vs.drop o).take xs.length=xs.map (.int k'):=by rw[e2];exact e1
     refine(E_stXu H (get_app hs a0) (tyI_ok hty) h2 (R.leaf hy) e4 e2 hz Om rfl).mono ?_;rintro v' w' ⟨rfl,H'⟩;rw[set_app a0]at H';refine⟨[],[],ρ,_,View.le_refl ρ,rfl,?_,H'⟩
     have hrow:cellsR X (η++δ) (ι++ []) (β++ []) (lfs η.length l.length) (rowF l.length 0 fun j=> .int k' (z.getD j 0)):=by
      have:=rowF_R (X:=X) (η:=η) (ι:=ι++ []) (β:=β++ []) (k:=k') (f:=fun j=>z.getD j 0) l.length η.length [] rfl;rwa[List.append_nil]at this
     have hcell:=setC_R o a2 hrow;rw[show(lfs η.length l.length).length=l.length from rowF_len _ _ _]at hcell;exact⟨R.env.up δ [] [],a3 _ hcell,fun f hf=>(R.facts f hf).up δ [] (View.le_refl ρ),by simpa using R.na,by simpa using R.nb,fun p hp=>get_app _ (R.kn p hp)⟩
    cases h
   cases h
  cases h
 cases h
def eStoreP(P:Program)(st:St)(η:List Leaf)(T:TypeId)(x y:Operand):Option ER:=match st.op x,st.op y,tyI P T with
 |some (.one (.ep k o)),some v,some (n,_,_,_)=>match factE k st.facts with
   |some (h,t,m,i,x0)=>match heapA h st.heap,η[m]? with
     |some (t',i'),some ⟨.int _,mm⟩=>if t'=t∧i'=i∧(noTup v=true∧v.cells.all (oneC st η)=true)∧v.cells.length=n∧o+n≤t.n∧0<t.n then
      match(η[i']?).bind fun l=>l.as (.list t),(η[x0]?).bind fun l=>l.as t with
      |some xs,some a=>match closeT (st.facts++(openT st.na t a η).2.2.1) (η++(openT st.na t a η).2.1) t ((openT st.na t a η).1.take o++v.cells++(openT st.na t a η).1.drop (o+v.cells.length))with
        |some z=>some ⟨.list t,setI xs mm z,fun ys=>({st with heap:=setA h h η.length st.heap},.one (.cst undef),[⟨.list t,ys⟩])⟩
        |none=>none
      |_,_=>none
       else none
     |_,_=>none
   |none=>none
 |_,_,_=>none
theorem eStoreP_ok(R:Rel X η ι β st ρ E hl)(H:Hp C w ρ (hl++hs))(G:GErrs ρ X.T X.ids X.ge){T:TypeId}{x y:Operand}{e:ER}{z:e.t.den}(h:eStoreP P st η T x y=some e)(hz:e.o=some z): ∀d ty pos af g,Eff P E ⟨d,.store T x y,ty,pos,af,g⟩ w (EPost X η ι β ρ E C hs (e.out z)):=by
 intro d ty pos af g;unfold eStoreP at h;split at h
 ·rename_i k o v n by_ zz ag hx hy hty;split at h
  ·rename_i hh t m i0 x0 hf;split at h
   ·rename_i t' i' kk mm hA hm;split at h
    ·rename_i hc;obtain⟨rfl,rfl,⟨hc1,hc2⟩,hc3,hc4,hc5⟩:=hc;split at h
     ·rename_i xs a hi ha;split at h
      ·rename_i zz' hcl;obtain rfl:=oi h;have hz:setI xs mm zz'=some z:=hz;obtain⟨s0,s1,s2⟩:=setI_some hz;obtain⟨u,h2,b,a0',h3,rfl⟩:=R.op hx;obtain⟨uv,h4,h5⟩:=R.op hy;obtain⟨us,c1,c2,c3⟩:=cells_ok R G (okHl H) hc2 hc1 h5;obtain⟨v0,b',o',xs0,y0,kk',mm',f1,f2,f3,f4,f5,f6,f7⟩:=R.facts _ (factE_ok hf);rw[h3]at f1;cases oi f1;rw[hm]at f3;cases oi f3;rw[leafAs hi]at f5;cases oi f5;rw[leafAs ha]at f6;cases oi f6;obtain⟨j,v1,cs,xs1,a0,a1,a2,a3,a4⟩:=setA_ok (k':=hh) (i':=η.length) hA R.heap;rw[f2]at a1;cases oi a1;rw[leafAs hi]at a2;cases oi a2;obtain⟨_,_,f8⟩:=idx_some f7;have hel:=a3.get f8;rw[enc_n]at hel;have hcl1:=(t'.enc X).len hel;rw[enc_n]at hcl1;obtain⟨κ,k1,k2,k3⟩:=openT_ok t' R.na hel;have hl2:=c2.len;have c2':=c2.up (openT st.na t' a η).2.1 κ [];rw[List.append_nil]at c2';have hnew:=setC_R o k2 c2'
       have hrd:=closeT_ok G (fun f hf=>by
        rcases List.mem_append.1 hf with hf|hf
        ·exact(R.facts f hf).up _ _ (View.le_refl ρ)
        exact k3 f hf) _ hcl hnew
       have hlen:mm.toNat*t'.n+t'.n≤cs.length:=by
        have:=a3.len;rw[enc_n]at this;rw[this];have:mm.toNat+1≤xs.length:=s1;have:=Nat.mul_le_mul_right t'.n this;rwa[Nat.add_mul,Nat.one_mul]at this
       refine(E_stAu (j:=o) H (get_app hs a0) (tyI_ok hty) f4 h2 h4 c1 Om c3 Om).mono ?_;rintro v' w' ⟨rfl,H'⟩;rw[set_app a0]at H';refine⟨[],[],ρ,_,View.le_refl ρ,rfl,?_,H'⟩
       have hst:=a4 [⟨.list t',z⟩] [] v0 z (setC cs (mm.toNat*t'.n+o) us) (by simpa using f2) Sm (by
        rw[s2,←setC_in Om hlen,←enc_n X t'];rw[←enc_n X t']at hrd;exact rdL.set a3 s1 hrd)
       exact⟨R.env.up _ [] [],hst,fun f hf=>(R.facts f hf).up _ [] (View.le_refl ρ),by simpa using R.na,by simpa using R.nb,fun p hp=>get_app _ (R.kn p hp)⟩
      cases h
     cases h
    cases h
   cases h
  cases h
 cases h
end
end Go.Dn
namespace Go.Dn
open Go Go.Eng
set_option maxRecDepth 100000
section
variable {X:Amb}{P:Program}{η:List Leaf}{ι:List Value}{β:List Nat}{ρ:View}{st:St}{E:Env}{hl:List Hl}{C:Cx}{w:World}{hs:List Hl}
def slT(st:St):VX→Option Tc
 | .one (.at k)=>match factR k st.facts with
   |some p=>some p.1
   |none=>(heapA k st.heap).map (·.1)
 |_=>none
def srcOf(st:St)(η:List Leaf)(t:Tc):VX→Option (List t.den)
 | .one (.cst (.slice none 0 0))=>some []
 | .one (.at k)=>match(match factR k st.facts with|some p=>some p|none=>heapA k st.heap)with
   |some (t',i)=>if t'=t then(η[i]?).bind fun l=>l.as (.list t)else none
   |none=>none
 |_=>none
theorem srcOf_ok(R:Rel X η ι β st ρ E hl){w:World}(hok:Ok w ρ hl){t:Tc}{v:VX}{u:Value}{ys:List t.den}(h:srcOf st η t v=some ys)(hr:v.R X η ι β u): ∃cs,rdL (t.enc X) ρ ys cs∧Eng.Src (hv w) u (t.enc X).n cs:=by
 unfold srcOf at h;split at h
 ·obtain rfl:=oi h;obtain rfl:u= .slice none 0 0:=hr;exact⟨[],rdL.nil,.inl ⟨none,0,rfl,rfl⟩⟩
 ·rename_i k;have hr:ι[k]? =some u:=hr;split at h
  ·rename_i t' i hp;split at h
   ·rename_i ht;subst ht;have h:=leafAs h;split at hp
    ·rename_i p hf;obtain rfl:=oi hp;obtain⟨v,xs,a1,a2,a3⟩:=R.facts _ (factR_ok hf);rw[hr]at a1;obtain rfl:=oi a1;rw[h]at a2;cases oi a2;exact Src.ofRd hok a3
    obtain⟨j,v,c,xs,a0,a1,a2,a3⟩:=heapA_ok hp R.heap;rw[hr]at a1;obtain rfl:=oi a1;rw[h]at a2;cases oi a2;rw[←enc_n X t']at a0;exact⟨c,a3,Src.ofArr hok a0⟩
   cases h
  cases h
 cases h
def eAppend(P:Program)(tc:TypeId→Option Tc)(st:St)(η:List Leaf)(T:TypeId)(x y:Operand):Option ER:=match st.op x,st.op y,sliceE P T with
 |some a,some b,some e=>match tyI P e,(match slT st a with|some t=>some t|none=>match slT st b with|some t=>some t|none=>tc e)with
   |some (n,by_,z,_),some t=>if t.n=n∧0<n∧by_≤32768∧z.cells.size=n then
    match a,srcOf st η t b with
    | .one (.at k),some ys=>match heapA k st.heap with
      |some (t',i)=>if t'=t then match(η[i]?).bind fun l=>l.as (.list t)with
       |some xs=>some ⟨.list t,app xs ys,fun zs=>({st with heap:=setA k st.na η.length st.heap,na:=st.na+1},.one (.at st.na),[⟨.list t,zs⟩])⟩
       |none=>none
        else none
      |none=>none
    | .one (.cst (.slice none 0 0)),some ys=>some ⟨.list t,app [] ys,fun zs=>({st with heap:= .arr st.na t η.length::st.heap,na:=st.na+1},.one (.at st.na),[⟨.list t,zs⟩])⟩
    |_,_=>none
     else none
   |_,_=>none
 |_,_,_=>none
theorem Rel.arr(R:Rel X η ι β st ρ E hl){t:Tc}{v:Value}{cs:List Value}{zs:List t.den}(hr:rdL (t.enc X) ρ zs cs):
 Rel X (η++ [⟨.list t,zs⟩]) (ι++ [v]) (β++ []) {st with heap:= .arr st.na t η.length::st.heap,na:=st.na+1} ρ E (Arr v t.n cs::hl):=by
 refine⟨R.env.up _ _ [],⟨⟨v,cs,zs,by rw[←R.na];simp,by simp,hr,rfl⟩,R.heap.up _ _ [] (View.le_refl ρ)⟩,fun f hf=>(R.facts f hf).up _ _ (View.le_refl ρ),by simp[R.na],by simpa using R.nb,fun p hp=>get_app _ (R.kn p hp)⟩
theorem atR{v:Value}{δ:List Leaf}(hna:ι.length=st.na):(VX.one (.at st.na)).R X (η++δ) (ι++ [v]) (β++ []) v:=by
 show(ι++ [v])[st.na]? =some v;rw[←hna];simp
theorem eAppend_ok{tc:TypeId→Option Tc}(R:Rel X η ι β st ρ E hl)(H:Hp C w ρ (hl++hs)){T:TypeId}{x y:Operand}{e:ER}{z:e.t.den}(h:eAppend P tc st η T x y=some e)(hz:e.o=some z):
 ∀d ty pos af g,Eff P E ⟨d,.call {callee:= .builtin .append,args:= #[x,y],argTypes:= #[T,T]},ty,pos,af,g⟩ w (EPost X η ι β ρ E C hs (e.out z)):=by
 intro d ty pos af g;unfold eAppend at h;split at h
 ·rename_i a b e' hx hy hT;split at h
  ·rename_i n by_ zz ag t hty _;split at h
   ·rename_i hc;obtain⟨hc1,hc2,hc3,hc4⟩:=hc;obtain⟨ua,hxa,hra⟩:=R.op hx;obtain⟨ub,hyb,hrb⟩:=R.op hy;have hT:=sliceE_ok hT;have hty:=tyI_ok hty;split at h
    ·rename_i k ys hsrc _;obtain⟨ds,hd1,hd2⟩:=srcOf_ok R (okHl H) hsrc hrb;split at h
     ·rename_i t' i hA;split at h
      ·rename_i ht;subst ht;split at h
       ·rename_i xs hi;obtain rfl:=oi h;have hz:app xs ys=some z:=hz;obtain⟨s1,s2⟩:=app_some hz;have hra:ι[k]? =some ua:=hra;obtain⟨j,v0,cs,xs0,b0,b1,b2,b3,b4⟩:=setA_ok (k':=st.na) (i':=η.length) hA R.heap;rw[hra]at b1;obtain rfl:=oi b1;rw[leafAs hi]at b2;cases oi b2;have hfit:=app_fit b3 hd1 s1;rw[enc_n,hc1]at hfit;rw[enc_n,hc1]at hd2;have b0':hl[j]? =some (Arr ua n cs):=by rw[b0,hc1]
        refine(E_append H (get_app hs b0') hT hty hc4 hc2 hc3 hxa hyb hd2 (rdL.one hd1) hfit).mono ?_;rintro v' w' ⟨H',_⟩;rw[set_app b0']at H';have hst:=b4 [⟨.list t',z⟩] [v'] v' z (cs++ds) (by rw[←R.na];simp) Sm (by rw[s2];exact rdL.app b3 hd1);rw[hc1]at hst;exact⟨[v'],[],ρ,_,View.le_refl ρ,atR R.na,⟨R.env.up _ _ [],hst,fun f hf=>(R.facts f hf).up _ _ (View.le_refl ρ),by simp[R.na],by simpa using R.nb,fun p hp=>get_app _ (R.kn p hp)⟩,H'⟩
       cases h
      cases h
     cases h
    ·rename_i ys hsrc _;obtain⟨ds,hd1,hd2⟩:=srcOf_ok R (okHl H) hsrc hrb;obtain rfl:=oi h;have hz:app [] ys=some z:=hz;obtain⟨s1,s2⟩:=app_some hz;obtain rfl:ua= .slice none 0 0:=hra;have H0:=H.nilArr n;have hfit:=app_fit (e:=t.enc X) (ρ:=ρ) rdL.nil hd1 s1;rw[enc_n,hc1]at hfit;rw[enc_n,hc1]at hd2;refine(E_append (k:=0) (cs:=[]) H0 rfl hT hty hc4 hc2 hc3 hxa hyb hd2 (rdL.one hd1) hfit).mono ?_;rintro v' w' ⟨H',_⟩;refine⟨[v'],[],ρ,Arr v' t.n ds::hl,View.le_refl ρ,atR R.na,R.arr ?_,?_⟩
     ·rw[s2];simpa using hd1
     rw[hc1];simpa using H'
    cases h
   cases h
  cases h
 cases h
def eSliceO(P:Program)(st:St)(η:List Leaf)(T:TypeId)(x:Operand)(l h m:Option Operand):Option ER:=if m.isSome=true then none else match sliceE P T,st.op x with
 |some e,some (.one (.at k))=>match heapA k st.heap,tyI P e with
   |some (t,i),some (n,_,_,_)=>if t.n=n∧0<n then match(η[i]?).bind fun l=>l.as (.list t)with
    |some xs=>match bound st η 0 l,bound st η (xs.length:Int) h with
      |some lo,some hi=>some ⟨.list t,slc xs lo hi,fun ys=>({st with heap:=setA k st.na η.length st.heap,na:=st.na+1},.one (.at st.na),[⟨.list t,ys⟩])⟩
      |_,_=>none
    |none=>none
     else none
   |_,_=>none
 |_,_=>none
theorem eSliceO_ok(R:Rel X η ι β st ρ E hl)(H:Hp C w ρ (hl++hs)){T:TypeId}{x:Operand}{l h m:Option Operand}{e:ER}{z:e.t.den}(hq:eSliceO P st η T x l h m=some e)(hz:e.o=some z): ∀d ty pos af g,Eff P E ⟨d,.slice T x l h m,ty,pos,af,g⟩ w (EPost X η ι β ρ E C hs (e.out z)):=by
 intro d ty pos af g;unfold eSliceO at hq;split at hq
 ·cases hq
 rename_i hm;obtain rfl:m=none:=by cases m<;>first|rfl|exact absurd rfl hm
 split at hq
 ·rename_i e' k he hx;split at hq
  ·rename_i t i n by_ zz ag hA hty;split at hq
   ·rename_i hc;obtain⟨rfl,hn⟩:=hc;split at hq
    ·rename_i xs hi;split at hq
     ·rename_i lo hi' hlo hhi;obtain rfl:=oi hq;have hz:slc xs lo hi'=some z:=hz;obtain⟨u,h2,h3⟩:=R.op hx;have h3:ι[k]? =some u:=h3;obtain⟨j,v0,cs,xs0,b0,b1,b2,b3,b4⟩:=setA_ok (k':=st.na) (i':=η.length) hA R.heap;rw[h3]at b1;obtain rfl:=oi b1;rw[leafAs hi]at b2;cases oi b2;have b0':hl[j]? =some (Arr u (t.enc X).n cs):=by rw[b0,enc_n]
      obtain⟨v',cs',c1,c2,c3⟩:=sliceW (P:=P) H (get_app hs b0') (by rw[enc_n];exact hn) b3 hz;have hqv:=c3 E w d ty pos af g T e' by_ zz ag x l h (sliceE_ok he) (by rw[enc_n];exact tyI_ok hty) h2 (bound_Bd R hlo) (bound_Bd R hhi);refine(Eff.of_run fun n' a hf=>⟨v',w,hqv n' a hf,(⟨rfl,rfl⟩:v'=v'∧w=w)⟩:Eff P E _ w fun v w'=>v=v'∧w'=w).mono ?_;rintro v w' ⟨rfl,rfl⟩;rw[set_app b0',enc_n]at c1;refine⟨[v],[],ρ,_,View.le_refl ρ,?_,?_,c1⟩
      ·show(ι++ [v])[st.na]? =some v;rw[←R.na];simp
      have hst:=b4 [⟨.list t,z⟩] [v] v z cs' (by rw[←R.na];simp) Sm c2;exact⟨R.env.up _ [v] [],hst,fun f hf=>(R.facts f hf).up _ [v] (View.le_refl ρ),by show(ι++ [v]).length=st.na+1;simp[R.na],by simpa using R.nb,fun p hp=>get_app _ (R.kn p hp)⟩
     cases hq
    cases hq
   cases hq
  cases hq
 cases hq
end
end Go.Dn
namespace Go.Dn
open Go Go.Eng
set_option maxRecDepth 100000
section
variable {X:Amb}{P:Program}{η:List Leaf}{ι:List Value}{β:List Nat}{ρ:View}{st:St}{E:Env}{hl:List Hl}{C:Cx}{w:World}{hs:List Hl}
def closeVs(st:St)(η:List Leaf)(t:Tc)(n:Nat):List VX→Option (List t.den)
 | []=>some []
 |v::l=>if(noTup v=true∧v.cells.all (oneC st η)=true)∧v.cells.length=n then match closeT st.facts η t v.cells,closeVs st η t n l with
     |some x,some r=>some (x::r)
     |_,_=>none
   else none
theorem closeVs_ok(R:Rel X η ι β st ρ E hl)(G:GErrs ρ X.T X.ids X.ge){w:World}(hok:Ok w ρ hl){t:Tc}{n:Nat}: ∀{l:List VX} {us:List Value} {xs:List t.den},closeVs st η t n l=some xs→valsR X η ι β l us→
 (∀u∈us,u.cells.size=n)∧rdL (t.enc X) ρ xs (us.flatMap fun u=>u.cells.toList)
 | [],us,xs,h,hv=>by
   obtain rfl:=oi h
   match us,hv with
   | [],_=>exact⟨(fun _ h=>nomatch h),rdL.nil⟩
 |v::l,us,xs,h,hv=>by
   simp only[closeVs]at h;split at h
   ·rename_i hc;obtain⟨⟨c1,c2⟩,c3⟩:=hc;split at h
    ·rename_i x r h1 h2;obtain rfl:=oi h
     match us,hv with
     |u::us,hv=>
       obtain⟨vs,a1,a2,a3⟩:=cells_ok R G hok c2 c1 hv.1;obtain⟨b1,b2⟩:=closeVs_ok R G hok h2 hv.2;refine⟨fun y hy=>?_,vs,_,?_,closeT_ok G R.facts t h1 a2,b2⟩
       ·rcases List.mem_cons.1 hy with rfl|hy
        ·rw[a1];have:=a2.len;simp;omega
        exact b1 y hy
       simp[a1]
     | [],hv=>exact hv.elim
    cases h
   cases h
theorem parts_eq{α:Type}: ∀{l:List (Nat×α)} (k:Nat),l.map (·.1)=List.range' k l.length→l=((l.map (·.2)).zipIdx k).map fun x=>(x.2,x.1)
 | [],_,_=>rfl
 |(i,x)::l,k,h=>by
   simp only[List.map_cons,List.length_cons,List.range'_succ,List.cons.injEq]at h;obtain⟨rfl,h⟩:=h;simp only[List.map_cons,List.zipIdx_cons,List.map_cons];rw[←parts_eq (i+1) h]
def eBslice(P:Program)(tc:TypeId→Option Tc)(st:St)(η:List Leaf)(T:TypeId)(len:Nat)(parts:Array (Nat×Operand)):Option ER:=match sliceE P T with
 |some e=>match tyI P e,tc e with
   |some (n,_,_,_),some t=>if t.n=n∧0<n∧parts.toList.length=len∧parts.toList.map (·.1)=List.range' 0 len∧len*n≤16777216 then match outs st (parts.toList.map (·.2))with
    |some vs=>match closeVs st η t n vs with
      |some ys=>some ⟨.list t,some ys,fun zs=>({st with heap:= .arr st.na t η.length::st.heap,na:=st.na+1},.one (.at st.na),[⟨.list t,zs⟩])⟩
      |none=>none
    |none=>none
     else none
   |_,_=>none
 |none=>none
theorem eBslice_ok{tc:TypeId→Option Tc}(R:Rel X η ι β st ρ E hl)(H:Hp C w ρ (hl++hs))(G:GErrs ρ X.T X.ids X.ge){T:TypeId}{len:Nat}{parts:Array (Nat×Operand)}{e:ER}{z:e.t.den}(h:eBslice P tc st η T len parts=some e)(hz:e.o=some z):
 ∀d ty pos af g,Eff P E ⟨d,.buildSlice T len parts,ty,pos,af,g⟩ w (EPost X η ι β ρ E C hs (e.out z)):=by
 intro d ty pos af g;unfold eBslice at h;split at h
 ·rename_i e' hT;split at h
  ·rename_i n by_ zz ag t hty _;split at h
   ·rename_i hc;obtain⟨hc1,hc2,hc3,hc4,hc5⟩:=hc;split at h
    ·rename_i vs hvs;split at h
     case h_2=>cases h
     rename_i ys hys;obtain rfl:=oi h
     have hz:closeVs st η t n vs=some z:=by
      have:some ys=some z:=hz;rw[hys];exact this
     obtain⟨us,h1,h2⟩:=outs_ok R hvs;obtain⟨g1,g2⟩:=closeVs_ok R G (okHl H) hz h2;have hT:=sliceE_ok hT;have hty:=tyI_ok hty
     have hlen:us.length=len:=by
      have:=evs_length h1;rw[this,List.length_map,hc3]
     by_cases h0:len=0
     ·subst h0
      have hp:parts= #[]:=by
       apply Array.toList_inj.1;simpa using List.eq_nil_of_length_eq_zero hc3
      subst hp;obtain rfl:us= []:=List.eq_nil_of_length_eq_zero hlen;refine(E_bslice0 (n:=n) H hT hty).mono ?_;rintro v' w' ⟨b,rfl,H'⟩;refine⟨[_],[],ρ,Arr _ t.n []::hl,View.le_refl ρ,atR R.na,R.arr (by simpa using g2),?_⟩;rw[hc1];exact H'
     refine(E_bslice H hT hty hc2 h1 g1 rfl Om (by rw[hlen];exact hc5) hlen ?_).mono ?_
     ·have:=parts_eq (l:=parts.toList) 0 (by rw[hc3];exact hc4);exact this
     rintro v' w' ⟨b,rfl,H'⟩;refine⟨[_],[],ρ,Arr _ t.n _::hl,View.le_refl ρ,atR R.na,R.arr g2,?_⟩;rw[hc1];exact H'
    cases h
   cases h
  cases h
 cases h
def sameOp:Operand→Operand→Bool
 | .tmp a,.tmp b=>Nat.beq a b
 | .const a,.const b=>eqV a b
 |_,_=>false
theorem sameOp_ok{a b:Operand}(h:sameOp a b=true):a=b:=by
 unfold sameOp at h;split at h
 ·rw[beq_eqN h]
 ·rw[eqV_ok h]
 cases h
def eMake(P:Program)(tc:TypeId→Option Tc)(st:St)(η:List Leaf)(T:TypeId)(x y:Operand):Option ER:=match sliceE P T with
 |some e=>match tyI P e,tc e,(st.op x).bind (·.leaf η)with
   |some (n,by_,z,_),some t,some ⟨.int _,m⟩=>if t.n=n∧0<n∧by_≤32768∧z.cells.size=n∧sameOp x y=true then match closeT [] [] t (z.cells.toList.map CX.cst)with
    |some zz=>some ⟨.list t,mk zz m,fun zs=>({st with heap:= .arr st.na t η.length::st.heap,na:=st.na+1},.one (.at st.na),[⟨.list t,zs⟩])⟩
    |none=>none
     else none
   |_,_,_=>none
 |none=>none
theorem eMake_ok{tc:TypeId→Option Tc}(R:Rel X η ι β st ρ E hl)(H:Hp C w ρ (hl++hs))(G:GErrs ρ X.T X.ids X.ge){T:TypeId}{x y:Operand}{e:ER}{z:e.t.den}(h:eMake P tc st η T x y=some e)(hz:e.o=some z):
 ∀d ty pos af g,Eff P E ⟨d,.makeSlice T x y,ty,pos,af,g⟩ w (EPost X η ι β ρ E C hs (e.out z)):=by
 intro d ty pos af g;unfold eMake at h;split at h
 ·rename_i e' hT;split at h
  ·rename_i n by_ zz ag t k m hty _ hx;split at h
   ·rename_i hc;obtain⟨hc1,hc2,hc3,hc4,hc5⟩:=hc;obtain rfl:=sameOp_ok hc5;split at h
    ·rename_i z0 hcl;obtain rfl:=oi h;have hz:mk z0 m=some z:=hz;obtain⟨s1,s2,s3⟩:=mk_some hz;have hev:=R.leaf hx;have hrd:=closeT_ok (ι:=[]) (β:=[]) G (fs:=[]) (fun f h=>absurd h (List.not_mem_nil)) t hcl (cstR zz.cells.toList);refine(E_make H (sliceE_ok hT) (tyI_ok hty) (zs:=zz.cells.toList) Sm (by simpa using hc4) hc2 hc3 hev s1 s2).mono ?_;rintro v' w' ⟨b,rfl,H'⟩;refine⟨[_],[],ρ,Arr _ t.n _::hl,View.le_refl ρ,atR R.na,R.arr (by rw[s3];exact rdL_rep hrd _),?_⟩;rw[hc1];exact H'
    cases h
   cases h
  cases h
 cases h
end
end Go.Dn
namespace Go.Dn
open Go Go.Eng
set_option maxRecDepth 100000
section
variable {P:Program}{E:Env}{w:World}{C:Cx}{ρ:View}{hs:List Hl}{d:Option Tmp}{ty:TypeId}{pos:String}{af:Array Edge}{g:Option (Nat×Bool)}
variable {α β:Type}{e:Enc α}{r:Enc β}{v v2:Value}{us us2 cs:List Value}{xs ys zs:List (List α×β)}
theorem E_appN2{t et:TypeId}{x y:Operand}{by_:Nat}{z:Value}{ag:Bool}(H:Hp C w ρ (NS e r v us xs::NS e r v2 us2 ys::hs))(ht:P.underlying t=some (.slice et))(hty:Ty P et (1+r.n) by_ z ag)(hzs:z.cells.size=1+r.n)(hby:by_≤32768)
 (hx:ev E x=some v) (hy:ev E y=some v2) (ha:app xs ys=some zs):
 Eff P E ⟨d,.call {callee:= .builtin .append,args:= #[x,y],argTypes:= #[t,t]},ty,pos,af,g⟩ w (fun u w'=>Hp C w' ρ (NS e r u (us++us2) zs::hs)∧u.oneCell'=true):=by
 obtain⟨hfit,rfl⟩:=app_some ha;obtain⟨cs,c1,c2,c3⟩:=H.head;obtain⟨ds,d1,d2,d3⟩:=H.tail.head
 have H2:Hp C w ρ (Arr v (1+r.n) cs::Arr v2 (1+r.n) ds::Fm e us (xs.map (·.1))::Fm e us2 (ys.map (·.1))::hs):=H.conv (by
  simp only[fps_cons,NS,Arr,Fm,List.append_assoc];refine List.Perm.append_left _ ?_
  exact(List.perm_append_comm_assoc _ _ _)) fun h hh=>by
   rcases List.mem_cons.1 hh with rfl|hh
   ·exact c1
   rcases List.mem_cons.1 hh with rfl|hh
   ·exact d1
   rcases List.mem_cons.1 hh with rfl|hh
   ·exact c2
   rcases List.mem_cons.1 hh with rfl|hh
   ·exact d2
   exact H.all h (by simp[hh])
 have l1:=c2.len;have l2:=d2.len;have lc:=c3.len;have ld:=d3.len;have hn:(eP eH r).n=1+r.n:=rfl;rw[hn]at lc ld;have z1:(us.zip (xs.map (·.2))).length=xs.length:=by simp at l1 ⊢;omega
 have z2:(us2.zip (ys.map (·.2))).length=ys.length:=by simp at l2 ⊢;omega
 refine(E_append (k:=0) H2 rfl ht hty hzs Om hby hx hy (Src.ofArr (k:=1) H2.ok rfl) d3.one ?_).mono fun u w' Hw=>?_
 ·rw[lc,ld,z1,z2,←Nat.add_mul];exact Nat.mul_le_mul_right _ hfit
 have Hw1:Hp C w' ρ (Arr u (1+r.n) (cs++ds)::Arr v2 (1+r.n) ds::Fm e us (xs.map (·.1))::Fm e us2 (ys.map (·.1))::hs):=Hw.1;have Hw2:Hp C w' ρ (Arr u (1+r.n) (cs++ds)::Fm e us (xs.map (·.1))::Fm e us2 (ys.map (·.1))::hs):=(Hw1.perm (List.Perm.swap _ _ _)).tail;refine⟨Hw2.conv (by simp only[fps_cons,NS,Arr,Fm,List.append_assoc,List.flatMap_append];exact List.Perm.refl _) fun h hh=>?_,(arr_cells Hw2.head).2⟩;rcases List.mem_cons.1 hh with rfl|hh
 ·refine⟨_,Hw2.head,?_,?_⟩
  ·rw[List.map_append];exact FamP.app Hw2.tail.head Hw2.tail.tail.head
  rw[List.map_append,List.zip_append (by simpa using l1)];exact rdL.app c3 d3
 exact Hw2.all h (by simp[hh])
end
section
variable {P:Program}{E:Env}{w:World}{C:Cx}{ρ:View}{hs:List Hl}{d:Option Tmp}{ty:TypeId}{pos:String}{af:Array Edge}{g:Option (Nat×Bool)}
theorem E_cvO{s e:TypeId}{x:Operand}{xs:LI}{v:Value}{cs:List Value}(H:Hp C w ρ (Arr v 1 cs::hs))(hr:rdL (eI .u8) ρ xs cs)(hne:xs≠ [])
 (hs':P.underlying s=some (.slice e)) (he:P.underlying e=some (.int .u8)) (hx:ev E x=some v):
 Eff P E ⟨d,.convert s s x,ty,pos,af,g⟩ w (fun u w'=>u=v∧ ∃ρ',View.le ρ ρ'∧RdSl ρ' (eI .u8) v xs∧Hp C w' ρ' hs):=by
 rcases H.head with⟨rfl,rfl⟩|⟨b,o,len,cap,cur,T,rfl,h1,h2,h3,h4,h5⟩
 ·exact(hne (rdL.nil_of (en:=eI .u8) (by decide) hr)).elim
 have hheap:w.heap[b]? =some (.cells cur T (0,0)):=h4;have hsh:w.shape? b=some (T,cur.size):=by unfold World.shape?;rw[hheap]
 have H2:Hp C (w.freeze ⟨b,cur.size,none⟩ 1) ρ (Mk b cur.toList::hs):=
  H.upd (k:=0) rfl (by unfold World.freeze;rw[if_neg (by decide)]) ⟨by unfold World.freeze;rw[if_neg (by decide)],by unfold World.freeze;rw[if_neg (by decide)];exact Nat.le_refl _⟩ (by unfold World.freeze;rw[if_neg (by decide)]) (Nat.le_of_eq freeze_size.symm)
   (fun j _ hj=>freeze_other (by simpa[Arr,vblk]using hj)) (by simp[Mk]) (fun j hj=> .inl (by simpa[Mk,Arr,vblk]using hj)) (fun j hj=>by
    simp[Mk]at hj;subst hj;rw[freeze_size];exact lt_of_hv (by assumption)) ⟨cur,T,_,freeze_at hheap,rfl⟩
 obtain⟨ρ',hl,H4,hp⟩:=H2.freeze;refine Eff.of_run fun n' a hf=>⟨.slice (some ⟨b,o,none⟩) len cap,_,?_,rfl,ρ',hl,?_,H4⟩
 ·simp only[execOp,hf.eval hx];simp[convert,run_underlying hs',run_underlying he,markStringish,hsh]
 obtain⟨c',T',fr,hb,hc'⟩:=hp;have hlen:=hr.len
 have hn:len=xs.length:=by
  have e1:(eI .u8).n=1:=rfl;rw[h1,e1,Nat.mul_one,Nat.mul_one]at hlen;exact hlen
 subst hn;refine .inr ⟨b,o,cap,cs,rfl,h2,rdL.up hl hr,fun j u hj=>?_⟩;unfold View.cell;rw[hb];rw[←h5,List.getElem?_take]at hj;split at hj
 ·rw[List.getElem?_drop,←hc']at hj;simpa using hj
 cases hj
end
section
variable {X:Amb}{P:Program}{η:List Leaf}{ι:List Value}{β:List Nat}{ρ:View}{st:St}{E:Env}{hl:List Hl}{C:Cx}{w:World}{hs:List Hl}
theorem Rel.own(R:Rel X η ι β st ρ E hl){rest:List HX}{hl':List Hl}(hr:heapR X η ι β ρ rest hl'){δ:List Leaf}{κ:List Value}{k:Nat}{s:Ow}{i:Nat}{v:Value}{h:Hl}{na:Nat}(hk:(ι++κ)[k]? =some v)(h1:v.oneCell'=true)(hs:s.R X (η++δ) (ι++κ) ρ v i h)(hna:(ι++κ).length=na):
 Rel X (η++δ) (ι++κ) (β++ []) {st with heap:= .ow k s i::rest,na:=na} ρ E (h::hl'):=
 ⟨R.env.up _ _ [],⟨⟨v,hk,h1,hs⟩,hr.up _ _ [] (View.le_refl ρ)⟩,fun f hf=>(R.facts f hf).up _ _ (View.le_refl ρ),hna,by simpa using R.nb,fun p hp=>get_app _ (R.kn p hp)⟩
def eMakeM(P:Program)(tc:TypeId→Option Tc)(st:St)(η:List Leaf)(T:TypeId):Option ER:=match P.underlying T with
 |some (.map _ vt)=>match tc vt with
   |some t=>some ⟨.unit,some (),fun _=>({st with heap:= .ow st.na (.mp t) η.length::st.heap,na:=st.na+1},.one (.at st.na),[⟨.list (.pair .str t),([]:List (BA×t.den))⟩])⟩
   |none=>none
 |_=>none
theorem eMakeM_ok{tc:TypeId→Option Tc}(R:Rel X η ι β st ρ E hl)(H:Hp C w ρ (hl++hs)){T:TypeId}{e:ER}{z:e.t.den}(h:eMakeM P tc st η T=some e): ∀d ty pos af g,Eff P E ⟨d,.makeMap T none,ty,pos,af,g⟩ w (EPost X η ι β ρ E C hs (e.out z)):=by
 intro d ty pos af g;unfold eMakeM at h;split at h
 ·split at h
  ·rename_i t _;obtain rfl:=oi h;refine(E_makeMap kS (fun v:Value=>v) H).mono ?_;rintro v w' ⟨r,rfl,H'⟩;refine⟨[.map (some r)],[],ρ,_,View.le_refl ρ,atR R.na,R.own R.heap (by rw[←R.na];exact List.getElem?_concat_length ..) rfl ⟨r,[],[],rfl,List.getElem?_concat_length ..,MR.nil,rfl⟩ (by simp[R.na]),H'⟩
  cases h
 cases h
def eMset(P:Program)(st:St)(η:List Leaf)(T:TypeId)(x y u:Operand):Option ER:=match P.underlying T,st.op x,(st.op y).bind (·.leaf η),st.op u with
 |some (.map kt _),some (.one (.at k)),some ⟨.str,s⟩,some (.agg l)=>if isStr P kt=true then match takeO k st.heap with
  |some (.mp t,i,rest)=>match(η[i]?).bind fun l=>l.as (.list (.pair .str t)),closeT st.facts η t l with
    |some m,some v=>some ⟨.unit,some (),fun _=>({st with heap:= .ow k (.mp t) η.length::rest},.one (.cst undef),[⟨.list (.pair .str t),mset m s v⟩])⟩
    |_,_=>none
  |_=>none
   else none
 |_,_,_,_=>none
theorem eMset_ok(R:Rel X η ι β st ρ E hl)(H:Hp C w ρ (hl++hs))(G:GErrs ρ X.T X.ids X.ge){T:TypeId}{x y u:Operand}{e:ER}{z:e.t.den}(h:eMset P st η T x y u=some e): ∀d ty pos af g,Eff P E ⟨d,.mapUpdate T x y u,ty,pos,af,g⟩ w (EPost X η ι β ρ E C hs (e.out z)):=by
 intro d ty pos af g;unfold eMset at h;split at h
 ·rename_i kt vt k s l hm hx hy hu;split at h
  ·rename_i hks;split at h
   ·rename_i t i rest hT;split at h
    ·rename_i m v hi hc;obtain rfl:=oi h;obtain⟨hh,hl',p,⟨mv,a1,a2,r,c,m',rfl,a3,a4,rfl⟩,hr⟩:=takeO_ok hT R.heap;rw[leafAs hi]at a3;cases oi a3;obtain⟨xv,h2,h3⟩:=R.op hx;have h3:ι[k]? =some xv:=h3;rw[a1]at h3;obtain rfl:=oi h3;obtain⟨uv,h4,us,h5,rfl⟩:=R.op hu;have hrd:=closeT_ok G R.facts _ hc h5;have H1:Hp C w ρ (Mp kS (fun v:Value=>v) r c::(hl'++hs)):=H.perm (p.append_right hs);refine(E_msetu (k:=0) H1 rfl hm (kOk_S (und_str hks)) trivial h2 (R.leaf hy) h4).mono ?_;rintro v' w' ⟨rfl,H'⟩;have H':Hp C w' ρ ((Mp kS (fun v:Value=>v) r (mset c s (.agg us.toArray))::hl')++hs):=H';refine⟨[],[],ρ,_,View.le_refl ρ,rfl,?_,H'⟩;exact R.own hr (by simpa using a1) a2 ⟨r,_,_,rfl,List.getElem?_concat_length ..,MR.set hrd a4,rfl⟩ (by simpa using R.na)
    cases h
   cases h
  cases h
 cases h
def eAppendO(P:Program)(st:St)(η:List Leaf)(T:TypeId)(x y:Operand):Option ER:=match st.op x,st.op y,sliceE P T with
 |some (.one (.at k)),some (.one (.at k2)),some e'=>match takeO k st.heap,tyI P e' with
   |some (.ns e r _,i,rest),some (n,by_,z,_)=>match takeO k2 rest with
     |some (.ns e2 r2 _,i2,rest2)=>if e2=e∧r2=r∧1+r.n=n∧by_≤32768∧z.cells.size=n then
      match(η[i]?).bind fun l=>l.as (.list (.pair (.list e) r)),(η[i2]?).bind fun l=>l.as (.list (.pair (.list e) r))with
      |some xs,some ys=>some ⟨.list (.pair (.list e) r),app xs ys,fun zs=>({st with heap:= .ow st.na (.ns e r (st.na+1)) η.length::rest2,na:=st.na+2},.one (.at st.na),[⟨.list (.pair (.list e) r),zs⟩])⟩
      |_,_=>none
       else none
     |_=>none
   |_,_=>none
 |_,_,_=>none
theorem eAppendO_ok(R:Rel X η ι β st ρ E hl)(H:Hp C w ρ (hl++hs)){T:TypeId}{x y:Operand}{e:ER}{z:e.t.den}(h:eAppendO P st η T x y=some e)(hz:e.o=some z):
 ∀d ty pos af g,Eff P E ⟨d,.call {callee:= .builtin .append,args:= #[x,y],argTypes:= #[T,T]},ty,pos,af,g⟩ w (EPost X η ι β ρ E C hs (e.out z)):=by
 intro d ty pos af g;unfold eAppendO at h;split at h
 ·rename_i k k2 e' hx hy hT;split at h
  ·rename_i e r g0 i rest n by_ zz ag h1 hty;split at h
   ·rename_i e2 r2 g2 i2 rest2 h2;split at h
    ·rename_i hc;obtain⟨rfl,rfl,rfl,hc4,hc5⟩:=hc;split at h
     ·rename_i xs ys hi hi2;obtain rfl:=oi h;have hz:app xs ys=some z:=hz;obtain⟨h',hl1,p1,⟨v,a1,a2,us,xs',a3,a4,a5,rfl⟩,hr1⟩:=takeO_ok h1 R.heap;obtain⟨h'',hl2,p2,⟨v2,b1,b2,us2,ys',b3,b4,b5,rfl⟩,hr2⟩:=takeO_ok h2 hr1;rw[leafAs hi]at a4;cases oi a4;rw[leafAs hi2]at b4;cases oi b4;obtain⟨u,q1,q2⟩:=R.op hx;have q2:ι[k]? =some u:=q2;rw[a1]at q2;obtain rfl:=oi q2;obtain⟨u,q3,q4⟩:=R.op hy;have q4:ι[k2]? =some u:=q4;rw[b1]at q4;obtain rfl:=oi q4;have H1:Hp C w ρ (NS (e2.enc X) (r2.enc X) v us xs::NS (e2.enc X) (r2.enc X) v2 us2 ys::(hl2++hs)):=H.perm ((p1.trans (p2.cons _)).append_right hs);rw[←enc_n X r2]at hty hc5;refine(E_appN2 H1 (sliceE_ok hT) (tyI_ok hty) hc5 hc4 q1 q3 hz).mono ?_;rintro v' w' ⟨H',hone⟩;refine⟨[v',.agg (us++us2).toArray],[],ρ,_,View.le_refl ρ,?_,R.own hr2 (v:=v') (by rw[←R.na];simp) hone ⟨us++us2,z,?_,List.getElem?_concat_length ..,a5,rfl⟩ (by simp[R.na]),H'⟩
      ·show(ι++ [v',_])[st.na]? =some v';rw[←R.na];simp
      rw[List.getElem?_append_right (by have:=R.na;omega),←R.na];simp
     cases h
    cases h
   cases h
  cases h
 cases h
def eAppendI(P:Program)(st:St)(η:List Leaf)(T:TypeId)(x y:Operand):Option ER:=match st.op x,st.op y,sliceE P T with
 |some (.one (.at a)),some b,some e'=>match factH a st.facts,tyI P e' with
   |some (h,g,m,i,xl,j,e,r),some (n,by_,z,_)=>match takeO h st.heap with
     |some (s',i',rest)=>if s'= .ns e r g∧i'=i∧e.n=n∧by_≤32768∧z.cells.size=n then
      match(η[j]?).bind fun l=>l.as (.list e),srcOf st η e b with
      |some l,some ys=>some ⟨.list e,app l ys,fun zs=>({st with heap:= .arr st.na e η.length:: .ow h (.nh e r g m xl) i::rest,na:=st.na+1},.one (.at st.na),[⟨.list e,zs⟩])⟩
      |_,_=>none
       else none
     |none=>none
   |_,_=>none
 |_,_,_=>none
theorem eAppendI_ok(R:Rel X η ι β st ρ E hl)(H:Hp C w ρ (hl++hs)){T:TypeId}{x y:Operand}{e:ER}{z:e.t.den}(h:eAppendI P st η T x y=some e)(hz:e.o=some z):
 ∀d ty pos af g,Eff P E ⟨d,.call {callee:= .builtin .append,args:= #[x,y],argTypes:= #[T,T]},ty,pos,af,g⟩ w (EPost X η ι β ρ E C hs (e.out z)):=by
 intro d ty pos af g;unfold eAppendI at h;split at h
 ·rename_i a b e' hx hy hT;split at h
  ·rename_i h0 g0 m i xl j e r n by_ zz ag hf hty;split at h
   ·rename_i s' i' rest h1;split at h
    ·rename_i hc;obtain⟨rfl,rfl,rfl,hc4,hc5⟩:=hc;split at h
     ·rename_i l ys hj hsrc;obtain rfl:=oi h;have hz:app l ys=some z:=hz;obtain⟨h',hl1,p1,⟨v,a1,a2,us,xs',a3,a4,a5,rfl⟩,hr1⟩:=takeO_ok h1 R.heap;obtain⟨us',u,kk,mm,xs,y',f1,f2,f3,f4,f5,f6,f7,f8⟩:=R.facts _ (factH_ok hf);rw[a3]at f1;have:=oi f1;simp only[Value.agg.injEq]at this;obtain rfl:us=us':=by simpa using congrArg Array.toList this
      rw[a4]at f5;cases oi f5;rw[leafAs hj]at f8;cases oi f8;obtain⟨xv,q1,q2⟩:=R.op hx;have q2:ι[a]? =some xv:=q2;rw[f2]at q2;obtain rfl:=oi q2;obtain⟨yv,q3,q4⟩:=R.op hy;obtain⟨ds,d1,d2⟩:=srcOf_ok R (okHl H) hsrc q4;have H1:Hp C w ρ (NS (e.enc X) (r.enc X) v us xs'::(hl1++hs)):=H.perm (p1.append_right hs);obtain⟨c,c1,H2⟩:=H1.stake f4 (idx_some f7).2.2;rw[←enc_n X e]at hty hc5 a5;obtain⟨s1,s2⟩:=app_some hz;refine(E_append (k:=0) H2 rfl (sliceE_ok hT) (tyI_ok hty) hc5 a5.1 hc4 q1 q3 d2 (rdL.one d1) (app_fit c1 d1 s1)).mono ?_;rintro v' w' ⟨H',_⟩;rw[enc_n]at a5;have H':Hp C w' ρ ((Arr v' (e.enc X).n (c++ds)::NSH (e.enc X) (r.enc X) v us xs' mm.toNat::hl1)++hs):=H';refine⟨[v'],[],ρ,_,View.le_refl ρ,atR R.na,?_,H'⟩;refine⟨R.env.up _ _ [],⟨⟨v',c++ds,z,by rw[←R.na];simp,List.getElem?_concat_length ..,by rw[s2];exact rdL.app c1 d1,by rw[enc_n]⟩,⟨v,get_app _ a1,a2,us,xs',kk,mm,y',get_app _ a3,get_app _ a4,get_app _ f3,get_app _ f6,f7,a5,rfl⟩,hr1.up _ _ [] (View.le_refl ρ)⟩,fun f hf=>(R.facts f hf).up _ _ (View.le_refl ρ),by simp[R.na],by simpa using R.nb,fun p hp=>get_app _ (R.kn p hp)⟩
     cases h
    cases h
   cases h
  cases h
 cases h
def eStoreH(P:Program)(st:St)(η:List Leaf)(T:TypeId)(x y:Operand):Option ER:=match st.op x,st.op y,tyI P T with
 |some (.one (.ep k 0)),some (.one (.at c)),some (n,_,_,ag)=>match factE k st.facts with
   |some (h,t,m,i,_)=>match takeO h st.heap with
     |some (.nh e r g m' x',i',rest)=>match takeA c rest with
       |some (e',ic,rest2)=>if(n=1∧ag=false)∧t= .pair (.list e) r∧i'=i∧m'=m∧e'=e then
        match(η[i]?).bind fun l=>l.as (.list (.pair (.list e) r)),(η[x']?).bind fun l=>l.as (.pair (.list e) r),(η[ic]?).bind fun l=>l.as (.list e),η[m]? with
        |some xs,some a,some zs,some ⟨.int _,mm⟩=>some ⟨.list (.pair (.list e) r),setI xs mm (zs,a.2),fun ys=>({st with heap:= .ow h (.ns e r st.na) η.length::rest2,na:=st.na+1},.one (.cst undef),[⟨.list (.pair (.list e) r),ys⟩])⟩
        |_,_,_,_=>none
         else none
       |none=>none
     |_=>none
   |none=>none
 |_,_,_=>none
theorem eStoreH_ok(R:Rel X η ι β st ρ E hl)(H:Hp C w ρ (hl++hs)){T:TypeId}{x y:Operand}{e:ER}{z:e.t.den}(h:eStoreH P st η T x y=some e)(hz:e.o=some z): ∀d ty pos af g,Eff P E ⟨d,.store T x y,ty,pos,af,g⟩ w (EPost X η ι β ρ E C hs (e.out z)):=by
 intro d ty pos af g;unfold eStoreH at h;split at h
 ·rename_i k c n by_ zz ag hx hy hty;split at h
  ·rename_i hh t m i x0 hf;split at h
   ·rename_i e r g0 m' x' i' rest h1;split at h
    ·rename_i e' ic rest2 h2;split at h
     ·rename_i hc;obtain⟨⟨rfl,rfl⟩,rfl,rfl,rfl,rfl⟩:=hc;split at h
      ·rename_i xs a zs kk mm hi hx' hic hm;obtain rfl:=oi h;have hz:setI xs mm (zs,a.2)=some z:=hz;obtain⟨h',hl1,p1,⟨v,a1,a2,us,xs',kk2,mm2,y',a3,a4,a5,a6,a7,a8,rfl⟩,hr1⟩:=takeO_ok h1 R.heap;obtain⟨h'',hl2,p2,⟨u,cc,zs',b1,b2,b3,rfl⟩,hr2⟩:=takeA_ok h2 hr1;rw[leafAs hi]at a4;cases oi a4;rw[hm]at a5;cases oi a5;rw[leafAs hx']at a6;cases oi a6;rw[leafAs hic]at b2;cases oi b2;obtain⟨v0,b,o,xs0,y0,k1,m1,f1,f2,f3,f4,f5,f6,f7⟩:=R.facts _ (factE_ok hf);rw[a1]at f2;obtain rfl:=oi f2;rw[hm]at f3;cases oi f3;obtain⟨xv,q1,b',o',q2,rfl⟩:=R.op hx;rw[f1]at q2;cases oi q2;obtain⟨yv,q3,q4⟩:=R.op hy;have q4:ι[c]? =some yv:=q4;rw[b1]at q4;obtain rfl:=oi q4
       have H1:Hp C w ρ (Arr u (e'.enc X).n cc::NSH (e'.enc X) (r.enc X) v us xs mm.toNat::(hl2++hs)):=by
        rw[enc_n];exact H.perm (((p1.trans (p2.cons _)).trans (List.Perm.swap _ _ _)).append_right hs)
       refine(E_stSu (y':=zs) (flat_of a8.2.1) H1 a7 (tyI_ok hty) (by rw[enc_n];exact f4) q1 q3 b3 hz).mono ?_;rintro v' w' ⟨rfl,H'⟩;have H':Hp C w' ρ ((NS (e'.enc X) (r.enc X) v (us.set mm.toNat u) z::hl2)++hs):=H';exact⟨[.agg (us.set mm.toNat u).toArray],[],ρ,_,View.le_refl ρ,rfl,R.own hr2 (v:=v) (get_app _ a1) a2 ⟨_,z,by rw[←R.na];exact List.getElem?_concat_length ..,List.getElem?_concat_length ..,a8,rfl⟩ (by simp[R.na]),H'⟩
      cases h
     cases h
    cases h
   cases h
  cases h
 cases h
def eStoreN(P:Program)(st:St)(η:List Leaf)(T:TypeId)(x y:Operand):Option ER:=match st.op x,st.op y,tyI P T with
 |some (.one (.ep k (o+1))),some v,some (n,_,_,_)=>match factE k st.facts with
   |some (h,t,m,i,x0)=>match takeO h st.heap with
     |some (.ns e r g,i',rest)=>if t= .pair (.list e) r∧i'=i∧(noTup v=true∧v.cells.all (oneC st η)=true)∧v.cells.length=n∧o+n≤r.n then
      match(η[i]?).bind fun l=>l.as (.list (.pair (.list e) r)),(η[x0]?).bind fun l=>l.as (.pair (.list e) r),η[m]? with
      |some xs,some a,some ⟨.int _,mm⟩=>match closeT (st.facts++(openT st.na r a.2 η).2.2.1) (η++(openT st.na r a.2 η).2.1) r ((openT st.na r a.2 η).1.take o++v.cells++(openT st.na r a.2 η).1.drop (o+v.cells.length))with
        |some z=>some ⟨.list (.pair (.list e) r),setI xs mm (a.1,z),fun ys=>({st with heap:= .ow h (.ns e r g) η.length::rest},.one (.cst undef),[⟨.list (.pair (.list e) r),ys⟩])⟩
        |none=>none
      |_,_,_=>none
       else none
     |_=>none
   |none=>none
 |_,_,_=>none
theorem eStoreN_ok(R:Rel X η ι β st ρ E hl)(H:Hp C w ρ (hl++hs))(G:GErrs ρ X.T X.ids X.ge){T:TypeId}{x y:Operand}{e:ER}{z:e.t.den}(h:eStoreN P st η T x y=some e)(hz:e.o=some z): ∀d ty pos af g,Eff P E ⟨d,.store T x y,ty,pos,af,g⟩ w (EPost X η ι β ρ E C hs (e.out z)):=by
 intro d ty pos af g;unfold eStoreN at h;split at h
 ·rename_i k o v n by_ zz ag hx hy hty;split at h
  ·rename_i hh t m i x0 hf;split at h
   ·rename_i e r g0 i' rest h1;split at h
    ·rename_i hc;obtain⟨rfl,rfl,⟨hc1,hc2⟩,hc3,hc4⟩:=hc;split at h
     ·rename_i xs a kk mm hi hx0 hm;split at h
      ·rename_i zc hcl;obtain rfl:=oi h;have hz:setI xs mm (a.1,zc)=some z:=hz;obtain⟨h',hl1,p1,⟨v1,a1,a2,us,xs',a3,a4,a5,rfl⟩,hr1⟩:=takeO_ok h1 R.heap;rw[leafAs hi]at a4;cases oi a4;obtain⟨v0,b,o',xs0,y0,k1,m1,f1,f2,f3,f4,f5,f6,f7⟩:=R.facts _ (factE_ok hf);rw[a1]at f2;obtain rfl:=oi f2;rw[hm]at f3;cases oi f3;rw[leafAs hi]at f5;cases oi f5;rw[leafAs hx0]at f6;cases oi f6;obtain⟨xv,q1,b',o2,q2,rfl⟩:=R.op hx;rw[f1]at q2;cases oi q2;obtain⟨yv,q3,q4⟩:=R.op hy;obtain⟨cs,c1,c2,c3⟩:=cells_ok R G (okHl H) hc2 hc1 q4;have hl2:=c2.len;have H1:Hp C w ρ (NS (e.enc X) (r.enc X) v1 us xs::(hl1++hs)):=H.perm (p1.append_right hs);refine(E_stSru1 (j:=o) (c:=cs) (a':=zc) (flat_of a5.2.2) H1 f7 (tyI_ok hty) (by rw[enc_n];exact f4) (by rw[Nat.add_comm 1 o];exact q1) q3 c1 Om c3 (by rw[enc_n];exact hc4) (fun rc hrc=>?_) hz).mono ?_
       ·obtain⟨κ,k1,k2,k3⟩:=openT_ok (X:=X) (β:=β) (ρ:=ρ) r (η:=η) R.na ((r.enc X).up (nov_le ρ) hrc);have c2':=c2.up (openT st.na r a.2 η).2.1 κ [];rw[List.append_nil]at c2';have hnew:=setC_R o k2 c2'
        exact enc_flat a5.2.2 (closeT_ok G (fun f hf=>by
         rcases List.mem_append.1 hf with hf|hf
         ·exact(R.facts f hf).up _ _ (View.le_refl ρ)
         exact k3 f hf) _ hcl hnew)
       rintro v' w' ⟨rfl,H'⟩;have H':Hp C w' ρ ((NS (e.enc X) (r.enc X) v1 us z::hl1)++hs):=H';exact⟨[],[],ρ,_,View.le_refl ρ,rfl,R.own hr1 (v:=v1) (by simpa using a1) a2 ⟨us,z,by simpa using a3,List.getElem?_concat_length ..,a5,rfl⟩ (by simpa using R.na),H'⟩
      cases h
     cases h
    cases h
   cases h
  cases h
 cases h
def closeVsN(st:St)(η:List Leaf)(e r:Tc)(n:Nat):List VX→Option (List (Tc.pair (.list e) r).den)
 | []=>some []
 |v::l=>match v with
   | .agg (.cst (.slice none 0 0)::c)=>if c.all (oneC st η)=true∧1+c.length=n then match closeT st.facts η r c,closeVsN st η e r n l with
    |some x,some q=>some (([],x)::q)
    |_,_=>none
     else none
   |_=>none
theorem closeVsN_ok(R:Rel X η ι β st ρ E hl)(G:GErrs ρ X.T X.ids X.ge){w:World}(hok:Ok w ρ hl){e r:Tc}(hf:r.flat=true){n:Nat}: ∀{l:List VX} {us:List Value} {xs:List (Tc.pair (.list e) r).den},closeVsN st η e r n l=some xs→valsR X η ι β l us→
 (∀u∈us,u.cells.size=n)∧us.length=xs.length∧xs.map (·.1)=List.replicate xs.length []∧rdL (eP eH (r.enc X)) nov ((List.replicate xs.length (Value.slice none 0 0)).zip (xs.map (·.2))) (us.flatMap fun u=>u.cells.toList)
 | [],us,xs,h,hv=>by
   obtain rfl:=oi h
   match us,hv with
   | [],_=>exact⟨(fun _ h=>nomatch h),rfl,rfl,rdL.nil⟩
 |v::l,us,xs,h,hv=>by
   simp only[closeVsN]at h;split at h
   ·rename_i c;split at h
    ·rename_i hc;obtain⟨c1,c2⟩:=hc;split at h
     ·rename_i x q h1 h2;obtain rfl:=oi h
      match us,hv with
      |u::us,hv=>
        obtain⟨b0,b1,b2,b3⟩:=closeVsN_ok R G hok hf h2 hv.2;obtain⟨vs,a1,rfl⟩:=hv.1
        match vs,a1 with
        |v0::vs,a1=>
          obtain⟨rfl,a1⟩:=a1;have a2:=a1.len;refine⟨fun y hy=>?_,by simp[b1],by simp only[List.map_cons,List.length_cons,List.replicate_succ,b2],?_⟩
          ·rcases List.mem_cons.1 hy with rfl|hy
           ·show(Value.slice none 0 0::vs).toArray.size=n;simp;omega
           exact b0 y hy
          exact⟨Value.slice none 0 0::vs,_,by simp[Value.cells],⟨[_],vs,rfl,⟨rfl,rfl⟩,enc_flat hf (closeT_ok G R.facts r h1 a1)⟩,b3⟩
        | [],a1=>exact a1.elim
      | [],hv=>exact hv.elim
     cases h
    cases h
   cases h
def eBsliceO(P:Program)(tc:TypeId→Option Tc)(st:St)(η:List Leaf)(T:TypeId)(len:Nat)(parts:Array (Nat×Operand)):Option ER:=match sliceE P T with
 |some e'=>match tyI P e',tc e' with
   |some (n,_,_,_),some (.pair .unit (.pair (.list e) r))=>if(0<e.n∧e.flat=true∧r.flat=true)∧1+r.n=n∧0<len∧parts.toList.length=len∧parts.toList.map (·.1)=List.range' 0 len∧len*n≤16777216 then match outs st (parts.toList.map (·.2))with
    |some vs=>match closeVsN st η e r n vs with
      |some ys=>some ⟨.list (.pair (.list e) r),some ys,fun zs=>({st with heap:= .ow st.na (.ns e r (st.na+1)) η.length::st.heap,na:=st.na+2},.one (.at st.na),[⟨.list (.pair (.list e) r),zs⟩])⟩
      |none=>none
    |none=>none
     else none
   |_,_=>none
 |none=>none
theorem eBsliceO_ok{tc:TypeId→Option Tc}(R:Rel X η ι β st ρ E hl)(H:Hp C w ρ (hl++hs))(G:GErrs ρ X.T X.ids X.ge){T:TypeId}{len:Nat}{parts:Array (Nat×Operand)}{e:ER}{z:e.t.den}(h:eBsliceO P tc st η T len parts=some e)(hz:e.o=some z):
 ∀d ty pos af g,Eff P E ⟨d,.buildSlice T len parts,ty,pos,af,g⟩ w (EPost X η ι β ρ E C hs (e.out z)):=by
 intro d ty pos af g;unfold eBsliceO at h;split at h
 ·rename_i e' hT;split at h
  ·rename_i n by_ zz ag e r hty _;split at h
   ·rename_i hc;obtain⟨hc0,hc1,hc2,hc3,hc4,hc5⟩:=hc;split at h
    ·rename_i vs hvs;split at h
     case h_2=>cases h
     rename_i ys hys;obtain rfl:=oi h
     have hz:closeVsN st η e r n vs=some z:=by
      have:some ys=some z:=hz;rw[hys];exact this
     obtain⟨us,h1,h2⟩:=outs_ok R hvs;obtain⟨g1,g2,g3,g4⟩:=closeVsN_ok R G (okHl H) hc0.2.2 hz h2
     have hlen:us.length=len:=by
      have:=evs_length h1;rw[this,List.length_map,hc3]
     refine(E_bslice H (sliceE_ok hT) (tyI_ok hty) Om h1 g1 rfl Om (by rw[hlen];exact hc5) hlen ?_).mono ?_
     ·have:=parts_eq (l:=parts.toList) 0 (by rw[hc3];exact hc4);exact this
     rintro v' w' ⟨b,rfl,H'⟩
     have H2:Hp C w' ρ (NS (e.enc X) (r.enc X) (.slice (some ⟨b,0,none⟩) len len) (List.replicate z.length (.slice none 0 0)) z::(hl++hs)):=H'.conv (by
      simp only[fps_cons,NS,Arr];refine List.Perm.append_right _ ?_
      have: ∀k,(List.replicate k (Value.slice none 0 0)).flatMap vblk= []:=fun k=>by
       induction k with
       |zero=>rfl
       |succ k ih=>rw[List.replicate_succ,List.flatMap_cons,ih];rfl
      rw[this,List.append_nil]) fun h hh=>by
       rcases List.mem_cons.1 hh with rfl|hh
       ·refine⟨_,?_,?_,g4⟩
        ·rw[enc_n,hc1];exact H'.head
        rw[g3];exact FamP.nils _
       exact H'.all h (by simp[hh])
     refine⟨[.slice (some ⟨b,0,none⟩) len len,.agg (List.replicate z.length (Value.slice none 0 0)).toArray],[],ρ,_,View.le_refl ρ,?_,R.own R.heap (v:= .slice (some ⟨b,0,none⟩) len len) (by rw[←R.na];simp) rfl ⟨_,z,?_,List.getElem?_concat_length ..,hc0,rfl⟩ (by simp[R.na]),H2⟩
     ·show(ι++ [_,_])[st.na]? =some _;rw[←R.na];simp
     rw[List.getElem?_append_right (by have:=R.na;omega),←R.na];simp
    cases h
   cases h
  cases h
 cases h
def eConvB(P:Program)(st:St)(η:List Leaf)(s t:TypeId)(x:Operand):Option ER:=match sliceE P s,st.op x with
 |some e,some (.one (.at k))=>match P.underlying e,takeA k st.heap with
   |some (.int .u8),some (.int .u8,i,rest)=>if t=s then some ⟨.unit,((η[i]?).bind fun l=>l.as (.list (.int .u8))).bind fun xs=>if xs.isEmpty=true then none else some (),fun _=>({st with heap:=rest,facts:= .rs k (.int .u8) i::st.facts},.one (.at k),[])⟩else none
   |_,_=>none
 |_,_=>none
theorem eConvB_ok(R:Rel X η ι β st ρ E hl)(H:Hp C w ρ (hl++hs)){s t:TypeId}{x:Operand}{e:ER}{z:e.t.den}(h:eConvB P st η s t x=some e)(hz:e.o=some z):
 ∀d ty pos af g,Eff P E ⟨d,.convert s t x,ty,pos,af,g⟩ w (EPost X η ι β ρ E C hs (e.out z)):=by
 intro d ty pos af g;unfold eConvB at h;split at h
 ·rename_i e' k h1 h2;split at h
  ·rename_i i rest h3 h4;split at h
   ·rename_i hst;subst hst;obtain rfl:=oi h;obtain⟨hh,hl',p1,⟨v,c,xs,a1,a2,a3,rfl⟩,p3⟩:=takeA_ok h4 R.heap;have H1:Hp C w ρ (Arr v 1 c::(hl'++hs)):=H.perm (p1.append_right hs);obtain⟨v',q1,q2⟩:=R.op h2;have q2:ι[k]? =some v':=q2;rw[a1]at q2;obtain rfl:=oi q2
    have hne:xs≠ []:=by
     rintro rfl;obtain⟨ys,y1,y2⟩:=Option.bind_eq_some_iff.1 hz;rw[leafAs y1]at a2;cases oi a2;cases y2
    refine(E_cvO H1 a3 hne (sliceE_ok h1) h3 q1).mono ?_;rintro u w' ⟨rfl,ρ',l1,r1,H2⟩;refine⟨[],[],ρ',hl',l1,?_,⟨?_,?_,fun f hf=>?_,?_,?_,fun p hp=>?_⟩,H2⟩
    ·show(ι++ [])[k]? =some _;rw[List.append_nil];exact a1
    ·exact R.env.up [] [] []
    ·exact p3.up [] [] [] l1
    ·rcases List.mem_cons.1 hf with rfl|hf
     ·refine⟨u,xs,?_,?_,r1⟩
      ·rw[List.append_nil];exact a1
      exact get_app _ a2
     exact(R.facts f hf).up [] [] l1
    ·simpa using R.na
    ·simpa using R.nb
    exact get_app _ (R.kn p hp)
   cases h
  cases h
 cases h
end
end Go.Dn
namespace Go.Dn
open Go Go.Eng
set_option maxRecDepth 100000
section
variable {X:Amb}{P:Program}{η:List Leaf}{ι:List Value}{β:List Nat}{ρ:View}{st:St}{E:Env}{hl:List Hl}{C:Cx}{w:World}{hs:List Hl}
theorem Qv_eff{o:Oper}{v:Value}(h:Qv P E o v w):Eff P E o w fun u w'=>u=v∧w'=w:=
 Eff.of_run fun n a hf=>⟨v,w,h n a hf,rfl,rfl⟩
end
def ownIn(st:St)(xs:List Operand):List Nat:=xs.flatMap fun x=>match st.op x with
 |some v=>v.cells.filterMap fun c=>match c with
   | .at k=>if((heapA k st.heap).isSome||(heapO k st.heap).isSome)=true then some k else none
   |_=>none
 |none=>[]
structure Exts where
 ib:FuncId
 cs:FuncId
 so:Option FuncId
structure SortC(P:Program)(f:FuncId):Prop where
 has:HasFn P f
 sort: ∀{C:Cx} {w:World} {ρ:View} {hs:List Hl} {v:Value} {c:List Value} {xs ys:LI},Hp C w ρ (Arr v 1 c::hs)→rdL (eI .i64) ρ xs c→sortI xs=some ys→
  Calls P f [v].toArray w (Rets fun u w'=>u= .tuple [].toArray∧rdL (eI .i64) ρ ys (ys.map (Value.int .i64))∧Hp C w' ρ (Arr v 1 (ys.map (Value.int .i64))::hs))
structure ExtOk(P:Program)(x:Exts):Prop where
 so: ∀f,x.so=some f→SortC P f
 ib:HasExt P x.ib Extern.BytealgIndexByte.indexByte
 cs:HasExt P x.cs Extern.BytealgCount.count
def eSort(x:Exts)(st:St)(η:List Leaf)(c:Call):Option ER:=match c.callee,c.args.toList,x.so with
 | .value (.func f),[a],some g=>bif Nat.beq f g then(match st.op a with
   |some (.one (.at k))=>match takeA k st.heap with
     |some (.int .i64,i,rest)=>match(η[i]?).bind fun l=>l.as (.list (.int .i64))with
       |some xs=>some ⟨.list (.int .i64),sortI xs,fun ys=>({st with heap:= .arr k (.int .i64) η.length::rest},.tup [],[⟨.list (.int .i64),ys⟩])⟩
       |none=>none
     |_=>none
   |_=>none)else none
 |_,_,_=>none
def eExt(x:Exts)(st:St)(η:List Leaf)(c:Call):Option ER:=match c.callee,c.args.toList with
 | .value (.func f),[a,b]=>match(st.op a).bind (·.leaf η),(st.op b).bind (·.leaf η)with
   |some ⟨.str,s⟩,some ⟨.int .u8,m⟩=>
     bif Nat.beq f x.ib then some ⟨.unit,some (),fun _=>(st,.one (.lf η.length),[⟨.int .i64,sfind s m⟩])⟩else
     bif Nat.beq f x.cs then some ⟨.unit,some (),fun _=>(st,.one (.lf η.length),[⟨.int .i64,scount s m⟩])⟩else none
   |_,_=>none
 |_,_=>none
def effs0(P:Program)(tc:TypeId→Option Tc)(xt:Exts)(rows:List Row)(st:St)(η:List Leaf):Op→Option ER
 | .call c=>match c.callee with
   | .builtin .append=>match c.args.toList,c.argTypes.toList with
     | [x,y],[T,T']=>if T'=T then(match eAppend P tc st η T x y with
      |some e=>some e
      |none=>match eAppendO P st η T x y with
        |some e=>some e
        |none=>eAppendI P st η T x y)else none
     |_,_=>none
   |_=>match eCall rows st η c with
     |some e=>some e
     |none=>match eExt xt st η c with
       |some e=>some e
       |none=>eSort xt st η c
 | .alloc T=>eAlloc P st T
 | .box _ x=>eBox st η x
 | .store T x y=>match eStoreB P st η T x y with
   |some e=>some e
   |none=>match eStoreA P st η T x y with
     |some e=>some e
     |none=>match eStoreP P st η T x y with
       |some e=>some e
       |none=>match eStoreX P st η T x y with
         |some e=>some e
         |none=>match eStoreH P st η T x y with
           |some e=>some e
           |none=>eStoreN P st η T x y
 | .buildSlice T len parts=>match eBsliceO P tc st η T len parts with
   |some e=>some e
   |none=>eBslice P tc st η T len parts
 | .makeMap T none=>eMakeM P tc st η T
 | .mapUpdate T x y u=>eMset P st η T x y u
 | .makeSlice T x y=>eMake P tc st η T x y
 | .slice T x l h m=>eSliceO P st η T x l h m
 | .convert s t x=>eConvB P st η s t x
 |_=>none
def effs(P:Program)(tc:TypeId→Option Tc)(xt:Exts)(rows:List Row):Effs:=fun st η op=>match effs0 P tc xt rows st η op with
 |some e=>some e
 |none=>match ownIn st op.operands.toList with
   | []=>none
   |ks=>effs0 P tc xt rows (st.frz ks) η op
section
variable {X:Amb}{P:Program}{η:List Leaf}{ι:List Value}{β:List Nat}{ρ:View}{st:St}{E:Env}{hl:List Hl}{C:Cx}{w:World}{hs:List Hl}
theorem arr2{α:Type}{a:Array α}{l:List α}(h:a.toList=l):a=l.toArray:=by subst h;simp
theorem eExt_ok{xt:Exts}(hxt:ExtOk P xt)(R:Rel X η ι β st ρ E hl)(H:Hp C w ρ (hl++hs)){c:Call}{e:ER}{z:e.t.den}(h:eExt xt st η c=some e): ∀d ty pos af g,Eff P E ⟨d,.call c,ty,pos,af,g⟩ w (EPost X η ι β ρ E C hs (e.out z)):=by
 intro d ty pos af g;obtain⟨callee,args,tys⟩:=c
 have fin: ∀{m:Int} {o:Oper},Qv P E o (.int .i64 m) w→Eff P E o w (EPost X η ι β ρ E C hs (st,.one (.lf η.length),[⟨.int .i64,m⟩])):=fun{m o} hq=>(Qv_eff hq).mono fun v w' hp=>by
  obtain⟨rfl,rfl⟩:=hp;refine⟨[],[],ρ,hl,View.le_refl ρ,⟨⟨.int .i64,m⟩,by simp,rfl⟩,⟨R.env.up _ [] [],R.heap.up _ [] [] (View.le_refl ρ),fun f hf=>(R.facts f hf).up _ [] (View.le_refl ρ),by simpa using R.na,by simpa using R.nb,fun p hp=>get_app _ (R.kn p hp)⟩,H⟩
 unfold eExt at h;simp only at h;split at h
 ·rename_i f a b ha;obtain rfl:args= #[a,b]:=Array.toList_inj.1 (by simpa using ha);split at h
  ·rename_i s m h1 h2
   cases hb:Nat.beq f xt.ib with
   |true=>
     rw[hb]at h;obtain rfl:=Nat.eq_of_beq_eq_true hb;obtain rfl:=oi h;exact fin (Q_idxByte hxt.ib (R.leaf h1) (R.leaf h2))
   |false=>
     rw[hb]at h
     cases hb2:Nat.beq f xt.cs with
     |true=>
       rw[hb2]at h;obtain rfl:=Nat.eq_of_beq_eq_true hb2;obtain rfl:=oi h;exact fin (Q_count hxt.cs (R.leaf h1) (R.leaf h2))
     |false=>rw[hb2]at h;cases h
  cases h
 cases h
theorem eSort_ok{xt:Exts}(hxt:ExtOk P xt)(R:Rel X η ι β st ρ E hl)(H:Hp C w ρ (hl++hs)){c:Call}{e:ER}{z:e.t.den}(h:eSort xt st η c=some e)(hz:e.o=some z): ∀d ty pos af g,Eff P E ⟨d,.call c,ty,pos,af,g⟩ w (EPost X η ι β ρ E C hs (e.out z)):=by
 intro d ty pos af g;obtain⟨callee,args,tys⟩:=c;unfold eSort at h;simp only at h;split at h
 ·rename_i f a g' ha hso;obtain rfl:args= [a].toArray:=Array.toList_inj.1 (by simpa using ha)
  cases hb:Nat.beq f g' with
  |false=>rw[hb]at h;cases h
  |true=>
    rw[hb]at h;obtain rfl:=Nat.eq_of_beq_eq_true hb;simp only[cond_true]at h;split at h
    ·rename_i k hk;split at h
     ·rename_i i rest hT;split at h
      ·rename_i xs hi;obtain rfl:=oi h;have hz:sortI xs=some z:=hz;have SC:=hxt.so f hso;obtain⟨h',hl',p,⟨v,c,xs',a1,a2,a3,rfl⟩,hr⟩:=takeA_ok hT R.heap;rw[leafAs hi]at a2;cases oi a2;obtain⟨u,q1,q2⟩:=R.op hk;have q2:ι[k]? =some u:=q2;rw[a1]at q2;obtain rfl:=oi q2;have H1:Hp C w ρ (Arr v 1 c::(hl'++hs)):=H.perm (p.append_right hs);refine(E_call SC.has (vs:=[v]) (by simp[evs,q1]) (SC.sort H1 a3 hz)).mono ?_;rintro u w' ⟨rfl,hrd,H2⟩;refine⟨[],[],ρ,Arr v 1 _::hl',View.le_refl ρ,⟨[],trivial,rfl⟩,⟨R.env.up _ [] [],⟨⟨v,_,z,get_app _ a1,List.getElem?_concat_length ..,hrd,rfl⟩,hr.up _ [] [] (View.le_refl ρ)⟩,fun f hf=>(R.facts f hf).up _ [] (View.le_refl ρ),by simpa using R.na,by simpa using R.nb,fun p hp=>get_app _ (R.kn p hp)⟩,H2⟩
      cases h
     cases h
    cases h
 cases h
theorem effs0_ok{tc:TypeId→Option Tc}{xt:Exts}(hxt:ExtOk P xt){rows:List Row}(hrows: ∀r∈rows,RowOk X P r){op:Op}{e:ER}{z:e.t.den}(h:effs0 P tc xt rows st η op=some e)(hz:e.o=some z)(R:Rel X η ι β st ρ E hl)(H:Hp C w ρ (hl++hs))(G:GErrs ρ X.T X.ids X.ge):
 ∀d ty pos af g,Eff P E ⟨d,op,ty,pos,af,g⟩ w (EPost X η ι β ρ E C hs (e.out z)):=by
 cases op with
 |call c=>
   obtain⟨callee,args,tys⟩:=c;unfold effs0 at h;simp only at h;split at h
   ·split at h
    ·rename_i x y T T' ha ht;split at h
     ·rename_i hT;subst hT;obtain rfl:=arr2 ha;obtain rfl:=arr2 ht;split at h
      ·rename_i e' h';obtain rfl:=oi h;exact eAppend_ok R H h' hz
      split at h
      ·rename_i e' h';obtain rfl:=oi h;exact eAppendO_ok R H h' hz
      exact eAppendI_ok R H h hz
     cases h
    cases h
   split at h
   ·rename_i e' h';obtain rfl:=oi h;exact eCall_ok hrows h' hz R H G
   split at h
   ·rename_i e' h';obtain rfl:=oi h;exact eExt_ok hxt R H h'
   exact eSort_ok hxt R H h hz
 |alloc T=>exact eAlloc_ok R H h
 |box T x=>exact eBox_ok R H G h
 |store T x y=>
   simp only[effs0]at h;split at h
   ·rename_i e' h';obtain rfl:=oi h;exact eStoreB_ok R H G h'
   split at h
   ·rename_i e' h';obtain rfl:=oi h;exact eStoreA_ok R H G h' hz
   split at h
   ·rename_i e' h';obtain rfl:=oi h;exact eStoreP_ok R H G h' hz
   split at h
   ·rename_i e' h';obtain rfl:=oi h;exact eStoreX_ok R H h' hz
   split at h
   ·rename_i e' h';obtain rfl:=oi h;exact eStoreH_ok R H h' hz
   exact eStoreN_ok R H G h hz
 |buildSlice T len parts=>
   simp only[effs0]at h;split at h
   ·rename_i e' h';obtain rfl:=oi h;exact eBsliceO_ok R H G h' hz
   exact eBslice_ok R H G h hz
 |makeMap T x=>
   cases x with
   |none=>exact eMakeM_ok R H h
   |some x=>cases h
 |mapUpdate T x y u=>exact eMset_ok R H G h
 |makeSlice T x y=>exact eMake_ok R H G h hz
 |slice T x l h0 m=>exact eSliceO_ok R H h hz
 |convert s t x=>exact eConvB_ok R H h hz
 |_=>cases h
theorem effs_ok{F:Cfg}{tc:TypeId→Option Tc}{xt:Exts}(hxt:ExtOk F.P xt){rows:List Row}(hF:F.ef=effs F.P tc xt rows)(hrows: ∀r∈rows,RowOk X F.P r):EffOk X F C hs:=by
 intro st η op e z ι β ρ E hl w he hz R H G;rw[hF]at he;unfold effs at he;split at he
 ·rename_i e' h';obtain rfl:=oi he;exact effs0_ok hxt hrows h' hz R H G
 split at he
 ·cases he
 rename_i ks _;obtain⟨ρ1,hl1,l1,R1,H1⟩:=frz_ok (ownIn st op.operands.toList) R H;intro d ty pos af g;refine(effs0_ok hxt hrows he hz R1 H1 (G.up l1) d ty pos af g).mono ?_;rintro v w' ⟨κ,γ,ρ',hl',l2,a1,a2,a3⟩;exact⟨κ,γ,ρ',hl',View.le_trans l1 l2,a1,a2,a3⟩
theorem effs_alloc{tc:TypeId→Option Tc}{xt:Exts}{rows:List Row}(st:St)(η:List Leaf)(T:TypeId)(e:ER)(h:effs P tc xt rows st η (.alloc T)=some e):eAlloc P st T=some e:=by
 unfold effs at h;split at h
 ·rename_i e' h';obtain rfl:=oi h;exact h'
 have:ownIn st (Op.alloc T).operands.toList= []:=rfl;rw[this]at h;cases h
end
end Go.Dn
namespace Go.Dn
open Go Go.Eng
set_option maxRecDepth 100000
abbrev PR(X:Amb)(P:Program):={r:Row // RowOk X P r}
structure Con(X:Amb)(P:Program)(f:FuncId)(s:Sig)(G:(tupT s.tin).den→Option (tupT s.tout).den):Prop where
 ok:Spec X P f s G
theorem mkS{X:Amb}{P:Program}{xt:Exts}(hxt:ExtOk P xt){f:FuncId}{fn:Func}{c:Code}{s:Sig}{G:(tupT s.tin).den→Option (tupT s.tout).den}(rows:List (PR X P))(tc:TypeId→Option Tc)(pl:Pl)(N:Nat){rv:List ResultVar}
 (hf:P.funcs[f]? =some fn) (hb:fn.body=some c) (hrv:fn.results=rv.toArray) (hlen:s.n≤fn.ntmps) (hnr:rv.length=s.nr)
 (hG: ∀x,denF ⟨P,X.ids,fn.ntmps,effs P tc xt (rows.map (·.1)),N⟩ s rv pl c x=G x):Con X P f s G:=by
 have h:Spec X P f s (denF ⟨P,X.ids,fn.ntmps,effs P tc xt (rows.map (·.1)),N⟩ s rv pl c):=spec_of (X:=X) (F:=⟨P,X.ids,fn.ntmps,effs P tc xt (rows.map (·.1)),N⟩) (pl:=pl) (s:=s) (rv:=rv) rfl (fun C hs=>effs_ok hxt rfl (fun r hr=>by
  obtain⟨p,_,rfl⟩:=List.mem_map.1 hr;exact p.2)) (fun st η T e h=>effs_alloc st η T e h) hf hb rfl hrv hlen hnr
 rw[show denF ⟨P,X.ids,fn.ntmps,effs P tc xt (rows.map (·.1)),N⟩ s rv pl c=G from funext hG]at h;exact⟨@h⟩
theorem hasFn{P:Program}{f:FuncId}{fn:Func}{c:Code}(hf:P.funcs[f]? =some fn)(hn:(fn.name== "runtime.NumGoroutine")=false)(hb:fn.body=some c):HasFn P f:=⟨fn,c,hf,hn,hb⟩
theorem Con.none{X:Amb}{P:Program}{f:FuncId}{s:Sig}:Con X P f s fun _=>none:=by
 refine⟨?_⟩;intro C w ρ hs us ls κ γ A E' x y _ _ _ _ _ _ h;cases h
def pr{X:Amb}{P:Program}{f:FuncId}{s:Sig}{G:(tupT s.tin).den→Option (tupT s.tout).den}(hf:HasFn P f)(h:Con X P f s G):PR X P:=⟨⟨f,s,G⟩,hf,h.ok⟩
def cloneC(T TB:TypeId):Code:=
 .seq (.region 0 #[⟨some 2,.assign (.const (.slice none 0 0)),T, "slices.go:355", #[],none⟩] false)
 (.seq (.seq (.region 1 #[⟨some 3,.move (.tmp 0),T, "slices.go:357", #[],none⟩,⟨some 4,.binOp .eql T (.tmp 3) (.const (.slice none 0 0)) T,TB, "slices.go:357", #[⟨0,.data⟩],none⟩] false)
  (.cond (.tmp 4) (.seq (.region 2 #[⟨some 2,.assign (.const (.slice none 0 0)),T, "slices.go:358", #[],none⟩] false) .ret) .skip))
 (.seq (.region 3 #[⟨some 5,.buildSlice T 0 #[],T, "slices.go:362", #[],none⟩,⟨some 6,.move (.tmp 0),T, "slices.go:362", #[],none⟩,
  ⟨some 7,.call ⟨.builtin .append, #[.tmp 5,.tmp 6], #[T,T]⟩,T, "slices.go:362", #[⟨0,.data⟩,⟨1,.data⟩],none⟩,⟨some 2,.assign (.tmp 7),T, "slices.go:362", #[⟨2,.data⟩,⟨2,.chain⟩,⟨0,.phase⟩,⟨1,.phase⟩,⟨2,.phase⟩],none⟩] false) .ret))
theorem clone_calls{X:Amb}{P:Program}{f:FuncId}{fn:Func}{T TB e:TypeId}{t:Tc}{by_:Nat}{z:Value}{ag:Bool}(hf:P.funcs[f]? =some fn)(hb:fn.body=some (cloneC T TB))(hnt:fn.ntmps=8)(hrv:fn.results= #[.tmp 2])(hT:P.underlying T=some (.slice e))(hty:tyI P e=some (t.n,by_,z,ag))(hn:0<t.n)(hby:by_≤32768)(hz:z.cells.size=t.n)
 {C:Cx} {w:World} {ρ:View} {hs:List Hl} {v:Value} {x r:List t.den} (H:Hp C w ρ hs) (r3:RdSl ρ (t.enc X) v x) (hF:app [] x=some r):
 Calls P f [v].toArray w (Rets fun v w'=> ∃(v1:Value) (c1:List Value),v=v1∧rdL (t.enc X) ρ r c1∧Hp C w' ρ (Arr v1 t.n c1::hs)):=by
 have hty':=tyI_ok hty;have hn':0<(t.enc X).n:=by rw[enc_n];exact hn
 refine fn_calls' (args:=[v]) hf hb (n:=8) hnt Sm ?_;refine C_seq ?_;refine R_nd ?_;refine nq (v:= .slice none 0 0) (Q_assign rfl) rfl rfl ?_;refine WL_nil ?_;refine x_then ?_;refine C_seq ?_;refine C_seq ?_;refine R_nd ?_;refine nq (v:=v) (Q_move rfl) rfl rfl ?_
 obtain⟨o,c,news,rfl,hnw,hs3⟩: ∃o c news,v= .slice o x.length c∧rdL (t.enc X) ρ x news∧(o=none→x= [])∧ ∀h',View.le ρ h'→Eng.Src h' v (t.enc X).n news:=by
  rcases r3 with⟨ad,cap,rfl,rfl⟩|⟨b,o,cap,cs,rfl,_,h2,h3⟩
  ·exact⟨ad,cap,[],rfl,rdL.nil,fun _=>rfl,fun _ _=> .inl ⟨ad,cap,rfl,rfl⟩⟩
  exact⟨_,cap,cs,rfl,h2,fun h=>(nomatch h),fun _ hl=> .inr ⟨b,o,_,cap,rfl,h2.len,h3.up hl⟩⟩
 obtain⟨hs3,hs4⟩:=hs3
 cases o with
 |none=>
   obtain rfl:=hs3 rfl;refine nq (v:= .bool true) (Q_eqlS (o:=none) hT rfl) rfl rfl ?_;refine WL_nil ?_;refine x_then ?_;refine C_cond rfl (fun _=>?_) (fun h=>nomatch h);refine C_seq ?_;refine R_nd ?_;refine nq (v:= .slice none 0 0) (Q_assign rfl) rfl rfl ?_;refine WL_nil ?_;refine x_then ?_;refine C_ret ?_;refine x_then_ret ?_;obtain⟨_,rfl⟩:=app_some hF;exact fn_ret (l:=[.tmp 2]) (vs:=[.slice none 0 0]) hrv rfl rfl ⟨_,[],rfl,rdL.nil,H.nilArr t.n⟩
 |some a=>
   refine nq (v:= .bool false) (Q_eqlS (o:=some a) hT rfl) rfl rfl ?_;refine WL_nil ?_;refine x_then ?_;refine C_cond rfl (fun h=>nomatch h) (fun _=>?_);refine C_skip ?_;refine x_then ?_;obtain⟨ha,rfl⟩:=app_some hF;refine C_seq ?_;refine R_nd ?_;refine ne (E_bslice0 H hT hty') rfl rfl ?_;rintro _ w1 ⟨b1,rfl,H1⟩;refine nq (Q_move rfl) rfl rfl ?_;have hs5:=hs4 _ H1.view;rw[enc_n]at hs5;have hfit:=app_fit (e:=t.enc X) (ρ:=ρ) rdL.nil hnw ha;rw[enc_n]at hfit;refine ne (E_append (k:=0) (cs:=[]) (news:=news) H1 rfl hT hty' hz hn hby rfl rfl hs5 (rdL.one hnw) hfit) rfl rfl ?_;rintro v2 w2 ⟨H2,_⟩;refine nq (v:=v2) (Q_assign rfl) rfl rfl ?_;refine WL_nil ?_;refine x_then ?_;refine C_ret ?_;exact fn_ret (l:=[.tmp 2]) (vs:=[v2]) hrv rfl rfl ⟨v2,_,rfl,rdL.app rdL.nil hnw,H2⟩
theorem cloneS{X:Amb}{P:Program}{f:FuncId}{fn:Func}(T TB:TypeId)(t:Tc){e:TypeId}{by_:Nat}{z:Value}{ag:Bool}(hf:P.funcs[f]? =some fn)(hb:fn.body=some (cloneC T TB))(hnt:fn.ntmps=8)(hrv:fn.results= #[.tmp 2])(hT:P.underlying T=some (.slice e))(hty:tyI P e=some (t.n,by_,z,ag))(hn:0<t.n)(hby:by_≤32768)(hz:z.cells.size=t.n):
 Con X P f ⟨1,[.v 0 false [.sl t]],1,[.v 0 false [.own t]]⟩ fun x=>app [] x:=by
 refine⟨?_⟩;intro C w ρ hs us ls κ γ A E' x y hx L he hus H G hy;have hun:=mkT_un _ _ _ hx;have hls:ls= [⟨.list t,x⟩]:=hun.symm;subst hls
 have hA:A= []:=by
  have:=L.hx
  match A,this with
  | [],_=>rfl
 subst hA;obtain⟨v,xs,h1,h2,h3⟩:=L.fs (.rs 0 t 0) (List.mem_singleton.2 rfl);have h2:some (⟨.list t,x⟩:Leaf)=some ⟨.list t,xs⟩:=h2;cases oi h2;have hE:=L.env
 match E',hE,he with
 | [(k,u)],hE,he=>
   obtain⟨e1,e2,_⟩:=hE;have e1:0=k:=e1;subst e1;have e2:([]++κ)[0]? =some u:=e2;rw[h1]at e2;obtain rfl:=oi e2;have h5:=he _ (List.mem_singleton.2 rfl)
   match us,hus,h5 with
   | [v0],_,h5=>
     obtain rfl:v0=v:=by simpa using h5
     refine(clone_calls (t:=t) hf hb hnt hrv hT hty hn hby hz (by simpa using H) h3 hy).mono ?_;rintro e w' ⟨v1,rfl,v2,c1,rfl,g1,g2⟩;refine⟨v1,rfl,ρ,[v1],[Arr v1 t.n c1],[v1],[],[(0,v1)],View.le_refl ρ,rfl,rfl,fun p hp=>by rw[List.mem_singleton.1 hp];rfl,g2,fun{η ι β b} O _ _ _=>?_⟩;obtain⟨o1,o2,o3⟩:=O;refine⟨rfl,rfl,rfl,(fun f hf=>nomatch hf),⟨⟨v1,c1,y,?_,?_,g1,rfl⟩,trivial⟩,⟨rfl,?_,trivial⟩⟩
     ·show(ι++ [v1])[b.na+0]? =some v1;rw[←o2];simp
     ·show(η++ [(⟨.list t,y⟩:Leaf)])[b.nl+0]? =some ⟨.list t,y⟩;rw[←o1];simp
     show(ι++ [v1])[b.na+0]? =some v1;rw[←o2];simp
 | [],hE,_=>exact hE.elim
 |_::_::_,hE,_=>exact hE.2.2.elim
def clOk(P:Program)(T:TypeId)(t:Tc):Bool:=match sliceE P T with
 |some e=>match tyI P e with
   |some (n,by_,z,_)=>decide (n=t.n∧0<n∧by_≤32768∧z.cells.size=n)
   |none=>false
 |none=>false
theorem cloneC_ok{X:Amb}{P:Program}{f:FuncId}{fn:Func}(T TB:TypeId)(t:Tc)(hf:P.funcs[f]? =some fn)(hb:fn.body=some (cloneC T TB))(hnt:fn.ntmps=8)(hrv:fn.results= #[.tmp 2])(hc:clOk P T t=true):
 Con X P f ⟨1,[.v 0 false [.sl t]],1,[.v 0 false [.own t]]⟩ fun x=>app [] x:=by
 unfold clOk at hc;split at hc
 ·rename_i e he;split at hc
  ·rename_i n by_ z ag hty;simp only[decide_eq_true_eq]at hc;obtain⟨rfl,h1,h2,h3⟩:=hc;exact cloneS T TB t hf hb hnt hrv (sliceE_ok he) hty h1 h2 h3
  cases hc
 cases hc
end Go.Dn
namespace Go.Proofs.YtnkednnnkifenaaGreatDoor
open Go Go.Eng Go.Dn
set_option maxRecDepth 100000
variable {N:Nat}{rows:List Go.Eng.LI}{rule entry:Go.Eng.LI}
def am(ge:Nat→Value):Amb:=⟨383,errIds,ge⟩
section
variable {X:Amb}{ls:List Leaf}{κ:List Value}{γ:List Nat}
theorem br_leaf{i:Nat}{u:Value}{l:Leaf}(h:(CX.lf i).R X ls κ γ u)(hl:ls[i]? =some l):u=lval X l:=by
 obtain⟨l',h1,h2⟩:=h;rw[hl]at h1;cases oi h1;exact h2
theorem br_tree{k f:FuncId}{rs:List JI}{G:(tupT (Sig.mk 1 [.v 0 true [.leaf (.int .i64),.leaf (.int .u64),.leaf (.int .u64),.leaf (.int .u64),.leaf (.int .u64),.sl .nd,.leaf (.int .i64),.leaf (.int .i64),.leaf .str]] 1 rs).tin).den→Option (tupT (Sig.mk 1 [.v 0 true [.leaf (.int .i64),.leaf (.int .u64),.leaf (.int .u64),.leaf (.int .u64),.leaf (.int .u64),.sl .nd,.leaf (.int .i64),.leaf (.int .i64),.leaf .str]] 1 rs).tout).den}{P:Program}(_hk:k=f)
 (h: ∀{C:Cx} {w:World} {ρ:View} {hs:List Hl} {v6:Value} {x1 x2 x3 x4 x5:Int} {x7:List Nd} {x9 x10:Int} {x11:BA} {y},Hp C w ρ hs→GErrs ρ X.T X.ids X.ge→RdSl ρ eN v6 x7→G (x1,x2,x3,x4,x5,x7,x9,x10,x11)=some y→
  Calls P f [.agg #[.int .i64 x1,.int .u64 x2,.int .u64 x3,.int .u64 x4,.int .u64 x5,v6,.int .i64 x9,.int .i64 x10,.string x11]].toArray w (Rets fun v w'=> ∃ρ',View.le ρ ρ'∧Hp C w' ρ' hs∧
   ∀{η:List Leaf} {ι:List Value} {β:List Nat} {b:Bs},Ov b η ι β→InvB X η ι β ρ' (layI b {} rs) (unT _ y) [] [] [] [(0,v)])):
 Con X P f ⟨1,[.v 0 true [.leaf (.int .i64),.leaf (.int .u64),.leaf (.int .u64),.leaf (.int .u64),.leaf (.int .u64),.sl .nd,.leaf (.int .i64),.leaf (.int .i64),.leaf .str]],1,rs⟩ G:=by
 refine⟨?_⟩;intro C w ρ hs us ls κ γ A E' x y hx L he hus H G' hy;have hun:=mkT_un _ _ _ hx;obtain⟨x1,x2,x3,x4,x5,x7,x9,x10,x11⟩:=x;have hls:ls= [⟨.int .i64,x1⟩,⟨.int .u64,x2⟩,⟨.int .u64,x3⟩,⟨.int .u64,x4⟩,⟨.int .u64,x5⟩,⟨.list .nd,x7⟩,⟨.int .i64,x9⟩,⟨.int .i64,x10⟩,⟨.str,x11⟩]:=hun.symm;subst hls
 have hA:A= []:=by
  have:=L.hx
  match A,this with
  | [],_=>rfl
 subst hA;obtain⟨v,xs,h1,h2,h3⟩:=L.fs (.rs 0 .nd 5) (List.mem_singleton.2 rfl);have h2:some (⟨.list .nd,x7⟩:Leaf)=some ⟨.list .nd,xs⟩:=h2;cases oi h2;have hE:=L.env
 match E',hE,he with
 | [(q,u)],hE,he=>
   obtain⟨e1,e2,_⟩:=hE;have e1:0=q:=e1;subst e1;obtain⟨us',e3,rfl⟩:=e2
   match us',e3 with
   | [u1,u2,u3,u4,u5,u6,u7,u8,u9],e3=>
     obtain⟨a1,a2,a3,a4,a5,a6,a7,a8,a9,_⟩:=e3;obtain rfl:=br_leaf a1 (l:=⟨.int .i64,x1⟩) rfl;obtain rfl:=br_leaf a2 (l:=⟨.int .u64,x2⟩) rfl;obtain rfl:=br_leaf a3 (l:=⟨.int .u64,x3⟩) rfl;obtain rfl:=br_leaf a4 (l:=⟨.int .u64,x4⟩) rfl;obtain rfl:=br_leaf a5 (l:=⟨.int .u64,x5⟩) rfl;have a6:([]++κ)[0]? =some u6:=a6;rw[h1]at a6;obtain rfl:=oi a6;obtain rfl:=br_leaf a7 (l:=⟨.int .i64,x9⟩) rfl;obtain rfl:=br_leaf a8 (l:=⟨.int .i64,x10⟩) rfl;obtain rfl:=br_leaf a9 (l:=⟨.str,x11⟩) rfl;have h5:=he _ (List.mem_singleton.2 rfl)
     match us,hus,h5 with
     | [v0],_,h5=>
       obtain rfl:=oi h5;refine(h (by simpa using H) G' h3 hy).mono ?_;rintro e w' ⟨v1,rfl,ρ',g1,g2,g3⟩;exact⟨v1,rfl,ρ',[v1],[],[],[],[(0,v1)],g1,rfl,rfl,fun p hp=>by rw[List.mem_singleton.1 hp];rfl,by simpa using g2,fun O _ _ _=>g3 O⟩
   | [],e3=>exact e3.elim
   | [_],e3=>exact e3.2.elim
   | [_,_],e3=>exact e3.2.2.elim
   | [_,_,_],e3=>exact e3.2.2.2.elim
   | [_,_,_,_],e3=>exact e3.2.2.2.2.elim
   | [_,_,_,_,_],e3=>exact e3.2.2.2.2.2.elim
   | [_,_,_,_,_,_],e3=>exact e3.2.2.2.2.2.2.elim
   | [_,_,_,_,_,_,_],e3=>exact e3.2.2.2.2.2.2.2.elim
   | [_,_,_,_,_,_,_,_],e3=>exact e3.2.2.2.2.2.2.2.2.elim
   |_::_::_::_::_::_::_::_::_::_::_,e3=>exact e3.2.2.2.2.2.2.2.2.2.elim
 | [],hE,_=>exact hE.elim
 |_::_::_,hE,_=>exact hE.2.2.elim
theorem br_one{ρ:View}{l:Leaf}{v:Value}{t:Tc}(ht:l.1=t)(hn: ∀t',t≠ .list t')(hv:v=lval X l){η:List Leaf}{ι:List Value}{β:List Nat}{b:Bs}(O:Ov b η ι β):InvB X η ι β ρ (layI b {} [.v 0 false [.leaf t]]) [l] [] [] [] [(0,v)]:=by
 obtain⟨o1,o2,o3⟩:=O;refine⟨by rw[←ht];rfl,rfl,rfl,(fun f hf=>nomatch hf),trivial,⟨rfl,⟨l,?_,hv⟩,trivial⟩⟩;show(η++ [l])[b.nl+0]? =some l;rw[←o1];simp
end
theorem s_tree_Right(ge:Nat→Value)(N:Nat):Con (am ge) Tryz.prog 71 ⟨1,[.v 0 true [.leaf (.int .i64),.leaf (.int .u64),.leaf (.int .u64),.leaf (.int .u64),.leaf (.int .u64),.sl .nd,.leaf (.int .i64),.leaf (.int .i64),.leaf .str]],1,[.v 0 false [.leaf .bool]]⟩ (fun x=>F_24 N x.1 x.2.1 x.2.2.1 x.2.2.2.1 x.2.2.2.2.1 x.2.2.2.2.2.1 x.2.2.2.2.2.2.1 x.2.2.2.2.2.2.2.1 x.2.2.2.2.2.2.2.2):=
 br_tree (k:=71) rfl fun{_ _ _ _ _ _ _ _ _ _ _ _ _ _ y} H G r hy=>(c_71 H G r hy).mono (by
  rintro e w' ⟨v,rfl,ρ',x,rfl,rfl,g1,g2⟩;exact⟨_,rfl,ρ',g1,g2,fun O=>br_one (l:=⟨.bool,x⟩) rfl (fun _ h=>nomatch h) rfl O⟩)
theorem s_tree_Depth(ge:Nat→Value)(N:Nat):Con (am ge) Tryz.prog 197 ⟨1,[.v 0 true [.leaf (.int .i64),.leaf (.int .u64),.leaf (.int .u64),.leaf (.int .u64),.leaf (.int .u64),.sl .nd,.leaf (.int .i64),.leaf (.int .i64),.leaf .str]],1,[.v 0 false [.leaf (.int .i64)]]⟩ (fun x=>F_57 N x.1 x.2.1 x.2.2.1 x.2.2.2.1 x.2.2.2.2.1 x.2.2.2.2.2.1 x.2.2.2.2.2.2.1 x.2.2.2.2.2.2.2.1 x.2.2.2.2.2.2.2.2):=
 br_tree (k:=197) rfl fun{_ _ _ _ _ _ _ _ _ _ _ _ _ _ y} H G r hy=>(c_197 H G r hy).mono (by
  rintro e w' ⟨v,rfl,ρ',x,rfl,rfl,g1,g2⟩;exact⟨_,rfl,ρ',g1,g2,fun O=>br_one (l:=⟨.int .i64,x⟩) rfl (fun _ h=>nomatch h) rfl O⟩)
theorem s_tree_Count(ge:Nat→Value)(N:Nat):Con (am ge) Tryz.prog 198 ⟨1,[.v 0 true [.leaf (.int .i64),.leaf (.int .u64),.leaf (.int .u64),.leaf (.int .u64),.leaf (.int .u64),.sl .nd,.leaf (.int .i64),.leaf (.int .i64),.leaf .str]],1,[.v 0 false [.leaf (.int .i64)]]⟩ (fun x=>F_56 N x.1 x.2.1 x.2.2.1 x.2.2.2.1 x.2.2.2.2.1 x.2.2.2.2.2.1 x.2.2.2.2.2.2.1 x.2.2.2.2.2.2.2.1 x.2.2.2.2.2.2.2.2):=
 br_tree (k:=198) rfl fun{_ _ _ _ _ _ _ _ _ _ _ _ _ _ y} H G r hy=>(c_198 H G r hy).mono (by
  rintro e w' ⟨v,rfl,ρ',x,rfl,rfl,g1,g2⟩;exact⟨_,rfl,ρ',g1,g2,fun O=>br_one (l:=⟨.int .i64,x⟩) rfl (fun _ h=>nomatch h) rfl O⟩)
def sgList:Sig:=⟨1,[.bx (.slot 0 0) [.leaf .str,.leaf (.int .i64),.leaf (.int .i64),.same (.cst (.nilIface))],.v 0 false [.pt 0 0]],1,[.kb 0 [.same (.lf 0),.same (.lf 1),.leaf (.int .i64),.leaf .err],.v 0 false [.own .str]]⟩
theorem s_rulefile_line_list(ge:Nat→Value)(N:Nat):Con (am ge) Tryz.prog 143 sgList (fun x=>F_44 N x.1 x.2.1 x.2.2):=by
 refine⟨?_⟩;intro C w ρ hs us ls κ γ A E' x y hx L he hus H G' hy;have hun:=mkT_un _ _ _ hx;obtain⟨x2,x3,x4⟩:=x;have hls:ls= [⟨.str,x2⟩,⟨.int .i64,x3⟩,⟨.int .i64,x4⟩]:=hun.symm;subst hls
 match γ,L.nb,L with
 | [b1],_,L=>
 match κ,L.na,L with
 | [],_,L=>
 have hh:=L.hx
 match A,hh with
 | [h1],hh=>
   obtain⟨⟨blk,vs,p1,p2,rfl⟩,_⟩:=hh;have p1:some b1=some blk:=p1;obtain rfl:=oi p1
   match vs,p2 with
   | [u1,u2,u3,u4],p2=>
     obtain⟨a1,a2,a3,a4,_⟩:=p2;obtain rfl:=br_leaf a1 (l:=⟨.str,x2⟩) rfl;obtain rfl:=br_leaf a2 (l:=⟨.int .i64,x3⟩) rfl;obtain rfl:=br_leaf a3 (l:=⟨.int .i64,x4⟩) rfl;obtain rfl:u4= .nilIface:=a4;have hE:=L.env
     match E',hE,he with
     | [(q,u)],hE,he=>
       obtain⟨e1,⟨b2,e2,e3⟩,_⟩:=hE;have e1:0=q:=e1;subst e1;have e2:some b1=some b2:=e2;obtain rfl:=oi e2;subst e3;have h5:=he _ (List.mem_singleton.2 rfl)
       match us,hus,h5 with
       | [v0],_,h5=>
         obtain rfl:=oi h5;refine(c_143 H G' hy).mono ?_;rintro e w' ⟨v,rfl,ρ',v1,c1,z1,z2,z3,rfl,rfl,g1,g2,g3⟩;refine⟨_,rfl,ρ',[v1],[Box b1 [.string x2,.int .i64 x3,.int .i64 z1,errV errIds ge z2],Arr v1 1 c1],[v1],[],[(0,v1)],g1,rfl,rfl,fun p hp=>by rw[List.mem_singleton.1 hp];rfl,g3,fun{η ι β b} O S T _=>?_⟩;obtain⟨o1,o2,o3⟩:=O;have s0:=S (.lf 0) (.string x2) rfl ⟨_,rfl,rfl⟩;have s1:=S (.lf 1) (.int .i64 x3) rfl ⟨_,rfl,rfl⟩;have t0:=T 0 b1 (by decide) rfl;have i0:(η++ [(⟨.int .i64,z1⟩:Leaf),⟨.err,z2⟩,⟨.list .str,z3⟩])[b.nl+0]? =some ⟨.int .i64,z1⟩:=by rw[←o1];simp
         have i1:(η++ [(⟨.int .i64,z1⟩:Leaf),⟨.err,z2⟩,⟨.list .str,z3⟩])[b.nl+1]? =some ⟨.err,z2⟩:=by rw[←o1,List.getElem?_append_right Om];simp
         have i2:(η++ [(⟨.int .i64,z1⟩:Leaf),⟨.err,z2⟩,⟨.list .str,z3⟩])[b.nl+2]? =some ⟨.list .str,z3⟩:=by rw[←o1,List.getElem?_append_right Om];simp
         have k0:(ι++ [v1])[b.na+0]? =some v1:=by rw[←o2];simp
         have n1:=CX.R.up (X:=am ge) [(⟨.int .i64,z1⟩:Leaf),⟨.err,z2⟩,⟨.list .str,z3⟩] [v1] [] s0;have n2:=CX.R.up (X:=am ge) [(⟨.int .i64,z1⟩:Leaf),⟨.err,z2⟩,⟨.list .str,z3⟩] [v1] [] s1;exact⟨rfl,rfl,rfl,(fun f hf=>nomatch hf),⟨⟨b1,[.string x2,.int .i64 x3,.int .i64 z1,errV errIds ge z2],get_app _ t0,⟨n1,n2,⟨_,i0,rfl⟩,⟨_,i1,rfl⟩,trivial⟩,rfl⟩,⟨v1,c1,z3,k0,i2,g2,rfl⟩,trivial⟩,⟨rfl,k0,trivial⟩⟩
     | [],hE,_=>exact hE.elim
     |_::_::_,hE,_=>exact hE.2.2.elim
   | [],p2=>exact p2.elim
   | [_],p2=>exact p2.2.elim
   | [_,_],p2=>exact p2.2.2.elim
   | [_,_,_],p2=>exact p2.2.2.2.elim
   |_::_::_::_::_::_,p2=>exact p2.2.2.2.2.elim
 | [],hh=>exact hh.elim
 |_::_::_,hh=>exact hh.2.elim
open Go.RowKit Go.Extern.Stop Go.Stop Go.Extern
set_option maxRecDepth 20000
theorem Is.size:(Tryz.prog.info? 406).map (·.size)=some 1:=by kernel_rfl
open Go Go.Proofs Go.Shelf
def sortInts_ren:Go.Shelf.Ren:=⟨fun|189=>148|125=>176|257=>175|128=>210|129=>211|294=>201|295=>202|296=>203|297=>204|298=>205|299=>206|216=>207|300=>208|301=>209|328=>231|329=>232|330=>233|331=>234|332=>235|215=>236|343=>246|n=>n,fun|28=>33|3=>3|46=>69|0=>0|51=>331|53=>57|4=>4|183=>323|182=>322|131=>328|5=>5|9=>9|218=>350|222=>354|228=>363|229=>77|n=>n,fun|n=>n⟩
theorem sortInts:Go.Proofs.Lays.n189 Tryz.prog sortInts_ren:={
 mixed:=by kernel_rfl
 f125:=Tryz.func176.trans (congrArg some (by kernel_rfl))
 f128:=Tryz.func210.trans (congrArg some (by kernel_rfl))
 f129:=Tryz.func211.trans (congrArg some (by kernel_rfl))
 f189:=Tryz.func148.trans (congrArg some (by kernel_rfl))
 f215:=Tryz.func236.trans (congrArg some (by kernel_rfl))
 f216:=Tryz.func207.trans (congrArg some (by kernel_rfl))
 f257:=Tryz.func175.trans (congrArg some (by kernel_rfl))
 f294:=Tryz.func201.trans (congrArg some (by kernel_rfl))
 f295:=Tryz.func202.trans (congrArg some (by kernel_rfl))
 f296:=Tryz.func203.trans (congrArg some (by kernel_rfl))
 f297:=Tryz.func204.trans (congrArg some (by kernel_rfl))
 f298:=Tryz.func205.trans (congrArg some (by kernel_rfl))
 f299:=Tryz.func206.trans (congrArg some (by kernel_rfl))
 f300:=Tryz.func208.trans (congrArg some (by kernel_rfl))
 f301:=Tryz.func209.trans (congrArg some (by kernel_rfl))
 f328:=Tryz.func231.trans (congrArg some (by kernel_rfl))
 f329:=Tryz.func232.trans (congrArg some (by kernel_rfl))
 f330:=Tryz.func233.trans (congrArg some (by kernel_rfl))
 f331:=Tryz.func234.trans (congrArg some (by kernel_rfl))
 f332:=Tryz.func235.trans (congrArg some (by kernel_rfl))
 f343:=Tryz.func246.trans (congrArg some (by kernel_rfl))
 t0:=Tryz.underlying0
 a0:=Tryz.isAgg0
 z0:=Tryz.sizeOf0
 v0:=Tryz.zeroValue0
 t3:=Tryz.underlying3
 a3:=Tryz.isAgg3
 z3:=Tryz.sizeOf3
 v3:=Tryz.zeroValue3
 t4:=Tryz.underlying4
 a4:=Tryz.isAgg4
 z4:=Tryz.sizeOf4
 v4:=Tryz.zeroValue4
 t5:=Tryz.underlying5
 a5:=Tryz.isAgg5
 z5:=Tryz.sizeOf5
 v5:=Tryz.zeroValue5
 t9:=Tryz.underlying9
 a9:=Tryz.isAgg9
 z9:=Tryz.sizeOf9
 v9:=Tryz.zeroValue9
 t28:=Tryz.underlying33
 a28:=Tryz.isAgg33
 z28:=Tryz.sizeOf33
 v28:=Tryz.zeroValue33
 t46:=Tryz.underlying69
 a46:=Tryz.isAgg69
 z46:=Tryz.sizeOf69
 v46:=Tryz.zeroValue69
 t51:=Tryz.underlying331
 a51:=Tryz.isAgg331
 z51:=Tryz.sizeOf331
 v51:=Tryz.zeroValue331
 t53:=Tryz.underlying57
 a53:=Tryz.isAgg57
 z53:=Tryz.sizeOf57
 v53:=Tryz.zeroValue57
 t131:=Tryz.underlying328
 a131:=Tryz.isAgg328
 z131:=Tryz.sizeOf328
 v131:=Tryz.zeroValue328
 t182:=Tryz.underlying322
 a182:=Tryz.isAgg322
 z182:=Tryz.sizeOf322
 v182:=Tryz.zeroValue322
 t183:=Tryz.underlying323
 a183:=Tryz.isAgg323
 z183:=Tryz.sizeOf323
 v183:=Tryz.zeroValue323
 t218:=Tryz.underlying350
 a218:=Tryz.isAgg350
 z218:=Tryz.sizeOf350
 v218:=Tryz.zeroValue350
 t222:=Tryz.underlying354
 a222:=Tryz.isAgg354
 z222:=Tryz.sizeOf354
 v222:=Tryz.zeroValue354
 t228:=Tryz.underlying363
 a228:=Tryz.isAgg363
 z228:=Tryz.sizeOf363
 v228:=Tryz.zeroValue363
 t229:=Tryz.underlying77
 a229:=Tryz.isAgg77
 z229:=Tryz.sizeOf77
 v229:=Tryz.zeroValue77}
end Go.Proofs.YtnkednnnkifenaaGreatDoor
