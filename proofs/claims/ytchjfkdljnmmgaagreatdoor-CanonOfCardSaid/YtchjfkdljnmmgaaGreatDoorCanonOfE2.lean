import Derived.Test.YtchjfkdljnmmgaaGreatDoorCanonOfE1
namespace Go.Eng
open Go
def Star(L:List Hl):Hl where
 fp:=fps L
 P h:= ∀x∈L,x.P h
 loc he hp:=fun x hx=>x.loc (fun b hb=>he b (mem_fps.2 ⟨x,hx,hb⟩)) (hp x hx)
def Yd(l:Nat)(o:Loop)(A:Hl):Hl where
 fp:=l::A.fp
 P h:=h l=some (.loop o)∧A.P h
 loc he hp:=⟨(he l (by simp)).symm.trans hp.1,A.loc (fun b hb=>he b (by simp[hb])) hp.2⟩
def Dfr(D:Nat):Hl where
 fp:=[D]
 P h:=h D=some (.deferred (some []))
 loc he hp:=(he D (by simp)).symm.trans hp
section
variable {C:Cx}{w:World}{ρ:View}{hs L:List Hl}
theorem fps_app(L hs:List Hl):fps (L++hs)=fps L++fps hs:=by simp[fps]
theorem Hp.star(H:Hp C w ρ (L++hs)):Hp C w ρ (Star L::hs):=by
 have e:fps (Star L::hs)=fps (L++hs):=by rw[fps_cons,fps_app];rfl
 refine⟨H.os,H.tape,H.out,H.size,H.old,by rw[e];exact H.fresh,by rw[e];exact H.lt,by rw[e];exact H.nodup,H.view,by rw[e];exact H.apart,fun x hx=>?_⟩;rcases List.mem_cons.1 hx with rfl|hx
 ·exact fun y hy=>H.all y (List.mem_append.2 (.inl hy))
 exact H.all x (List.mem_append.2 (.inr hx))
theorem Hp.unstar(H:Hp C w ρ (Star L::hs)):Hp C w ρ (L++hs):=by
 have e:fps (Star L::hs)=fps (L++hs):=by rw[fps_cons,fps_app];rfl
 refine⟨H.os,H.tape,H.out,H.size,H.old,by rw[←e];exact H.fresh,by rw[←e];exact H.lt,by rw[←e];exact H.nodup,H.view,by rw[←e];exact H.apart,fun x hx=>?_⟩;rcases List.mem_append.1 hx with hx|hx
 ·exact H.all (Star L) (by simp) x hx
 exact H.all x (by simp[hx])
theorem putObj_hv_same{l:Nat}{o:Obj}(h:l<w.heap.size):hv (w.putObj l o) l=some o:=World.putObj_heap_same h
theorem putObj_hv_other{l k:Nat}{o:Obj}(h:k≠l):hv (w.putObj l o) k=hv w k:=World.putObj_heap_other h
theorem Hp.turn{l:Nat}{o:Loop}{A:Hl}(H:Hp C w ρ (Yd l o A::hs))(o':Loop):Hp C (w.putObj l (.loop o')) ρ (Yd l o' A::hs):=by
 have hl:l<w.heap.size:=H.lt l (by simp[fps_cons,Yd]);have hn:=H.nodup;rw[fps_cons]at hn;have hA:l∉A.fp:=(List.nodup_cons.1 (List.nodup_append.1 hn).1).1;have hp:=H.all (Yd l o A) (by simp)
 exact H.upd (k:=0) (h:=Yd l o A) (h':=Yd l o' A) rfl rfl (Tp.rfl _) rfl (Nat.le_of_eq (by simp)) (fun b _ hb=>World.putObj_heap_other (fun e=>hb (by simp[Yd,e])))
  (List.nodup_append.1 hn).1 (fun b hb=> .inl hb) (fun b hb=>by rw[World.putObj_size];exact H.lt b (by rw[fps_cons];exact List.mem_append.2 (.inl hb)))
  ⟨putObj_hv_same hl,A.loc (fun b hb=>(putObj_hv_other (k:=b) (by rintro rfl;exact hA hb)).symm) hp.2⟩
theorem Hp.unYd{l:Nat}{o:Loop}{A:Hl}(H:Hp C w ρ (Yd l o A::hs)):Hp C w ρ (A::hs):=by
 have hn:=H.nodup;rw[fps_cons]at hn;have e:fps (Yd l o A::hs)=l::fps (A::hs):=by rw[fps_cons,fps_cons];rfl
 refine⟨H.os,H.tape,H.out,H.size,H.old,fun b hb=>H.fresh b (by rw[e];exact .tail _ hb),fun b hb=>H.lt b (by rw[e];exact .tail _ hb),(List.nodup_cons.1 (by have:=H.nodup;rwa[e]at this)).2,H.view,fun b hb=>H.apart b (by rw[e];exact .tail _ hb),fun x hx=>?_⟩;rcases List.mem_cons.1 hx with rfl|hx
 ·exact(H.all (Yd l o x) (by simp)).2
 exact H.all x (by simp[hx])
theorem Hp.allocYd{A:Hl}(H:Hp C w ρ (A::hs))(o:Loop):Hp C (w.alloc (.loop o)) ρ (Yd w.heap.size o A::hs):=by
 have H4:=H.alloc (.loop o) (h:=⟨[w.heap.size],fun h=>h w.heap.size=some (.loop o),fun he hp=>(he _ (by simp)).symm.trans hp⟩) rfl (hv_alloc_new w _);refine⟨H4.os,H4.tape,H4.out,H4.size,H4.old,?_,?_,?_,H4.view,?_,fun x hx=>?_⟩
 ·simpa[fps_cons,Yd]using H4.fresh
 ·simpa[fps_cons,Yd]using H4.lt
 ·simpa[fps_cons,Yd]using H4.nodup
 ·simpa[fps_cons,Yd]using H4.apart
 rcases List.mem_cons.1 hx with rfl|hx
 ·exact⟨hv_alloc_new w _,H4.all A (by simp)⟩
 exact H4.all x (by simp at hx ⊢;right;right;exact hx)
theorem Hp.taken{P:Program}{D:Nat}(H:Hp C w ρ (Dfr D::hs)):(Instr.takeDeferred D).run P w= .ok [] (w.putObj D (.deferred none))∧Hp C (w.putObj D (.deferred none)) ρ hs:=by
 have hD:D<w.heap.size:=H.lt D (by simp[fps_cons,Dfr]);refine⟨run_takeDeferred (H.all (Dfr D) (by simp)),?_⟩
 have:=H.upd (w':=w.putObj D (.deferred none)) (k:=0) (h:=Dfr D) (h':=⟨[D],fun _=>True,fun _ _=>trivial⟩) rfl rfl (Tp.rfl _) rfl (Nat.le_of_eq (by simp)) (fun b _ hb=>World.putObj_heap_other (fun e=>hb (by simp[Dfr,e])))
  (by simp) (fun b hb=> .inl hb) (fun b hb=>by rw[World.putObj_size];simp at hb;subst hb;exact hD) trivial
 exact this.tail
end
theorem bnT{b:Bool}(h:(!b)=true):b=false:=by cases b<;>simp_all
theorem bnF{b:Bool}(h:(!b)=false):b=true:=by cases b<;>simp_all
section
variable {C:Cx}{w:World}{ρ:View}{hs L:List Hl}
theorem Hp.ydOpen{l:Nat}{O:Loop}(H:Hp C w ρ (Yd l O (Star L)::hs)): ∃o,o=O∧Hp C w ρ (Yd l o (Star [])::(L++hs)):=by
 have e:fps (Yd l O (Star [])::(L++hs))=fps (Yd l O (Star L)::hs):=by rw[fps_cons,fps_cons,fps_app];simp[Yd,Star,fps]
 refine⟨O,rfl,H.os,H.tape,H.out,H.size,H.old,by rw[e];exact H.fresh,by rw[e];exact H.lt,by rw[e];exact H.nodup,H.view,by rw[e];exact H.apart,fun x hx=>?_⟩;have h0:=H.all _ (List.mem_cons_self ..);rcases List.mem_cons.1 hx with rfl|hx
 ·exact⟨h0.1,fun y hy=>by cases hy⟩
 rcases List.mem_append.1 hx with hx|hx
 ·exact h0.2 x hx
 exact H.all x (by simp[hx])
theorem Hp.ydClose{l:Nat}{o:Loop}(H:Hp C w ρ (Yd l o (Star [])::(L++hs))):Hp C w ρ (Yd l o (Star L)::hs):=by
 have e:fps (Yd l o (Star [])::(L++hs))=fps (Yd l o (Star L)::hs):=by rw[fps_cons,fps_cons,fps_app];simp[Yd,Star,fps]
 refine⟨H.os,H.tape,H.out,H.size,H.old,by rw[←e];exact H.fresh,by rw[←e];exact H.lt,by rw[←e];exact H.nodup,H.view,by rw[←e];exact H.apart,fun x hx=>?_⟩;rcases List.mem_cons.1 hx with rfl|hx
 ·exact⟨(H.all _ (List.mem_cons_self ..)).1,fun y hy=>H.all y (by simp[hy])⟩
 exact H.all x (by simp[hx])
end
structure YC{σ α:Type}(P:Program)(l:Nat)(rec:Bool→σ→Loop)(I:View→σ→Hl→Prop)(R:View→α→Array Value→Prop)(Y:α→σ→Option (σ×Bool))(ρ0:View):Prop where
 go: ∀{C:Cx} {w:World} {ρ:View} {hs:List Hl} {s:σ} {A:Hl} {x:α} {args:Array Value} {r:σ×Bool},View.le ρ0 ρ→I ρ s A→R ρ x args→Hp C w ρ (Yd l (rec true s) A::hs)→Y x s=some r→
  YieldAt Fence.wide 0 P l args w (Rets fun v w'=>v= .bool r.2∧ ∃(ρ':View) (A':Hl),View.le ρ ρ'∧I ρ' r.1 A'∧Hp C w' ρ' (Yd l (rec r.2 r.1) A'::hs))
def IS{σ1 σ2:Type}(I1:View→σ1→Hl→Prop)(I2:View→σ2→Hl→Prop):View→σ1 ⊕ σ2→Hl→Prop
 |ρ,.inl s,A=>I1 ρ s A
 |ρ,.inr s,A=>I2 ρ s A
theorem IS.l{σ1 σ2:Type}{I1:View→σ1→Hl→Prop}{I2:View→σ2→Hl→Prop}{ρ:View}{s:σ1}{A:Hl}(h:I1 ρ s A):IS I1 I2 ρ (.inl s) A:=h
theorem IS.r{σ1 σ2:Type}{I1:View→σ1→Hl→Prop}{I2:View→σ2→Hl→Prop}{ρ:View}{s:σ2}{A:Hl}(h:I2 ρ s A):IS I1 I2 ρ (.inr s) A:=h
theorem IS.unl{σ1 σ2:Type}{I1:View→σ1→Hl→Prop}{I2:View→σ2→Hl→Prop}{ρ:View}{s:σ1}{A:Hl}(h:IS I1 I2 ρ (.inl s) A):I1 ρ s A:=h
theorem IS.unr{σ1 σ2:Type}{I1:View→σ1→Hl→Prop}{I2:View→σ2→Hl→Prop}{ρ:View}{s:σ2}{A:Hl}(h:IS I1 I2 ρ (.inr s) A):I2 ρ s A:=h
theorem IS.mono{σ1 σ2:Type}{I1:View→σ1→Hl→Prop}{I2:View→σ2→Hl→Prop}(h1: ∀{ρ1 ρ2:View} {s:σ1} {A:Hl},View.le ρ1 ρ2→I1 ρ1 s A→I1 ρ2 s A)(h2: ∀{ρ1 ρ2:View} {s:σ2} {A:Hl},View.le ρ1 ρ2→I2 ρ1 s A→I2 ρ2 s A)
 {ρ1 ρ2:View} {s:σ1 ⊕ σ2} {A:Hl} (hl:View.le ρ1 ρ2) (h:IS I1 I2 ρ1 s A):IS I1 I2 ρ2 s A:=by
 cases s with
 |inl s=>exact h1 hl h
 |inr s=>exact h2 hl h
def YS{σ1 σ2 α:Type}(F:α→σ1→Option ((σ1 ⊕ σ2)×Bool)):α→σ1 ⊕ σ2→Option ((σ1 ⊕ σ2)×Bool)
 |x,.inl s=>F x s
 |_,.inr _=>none
theorem YC.of2{σ1 σ2 α:Type}{P:Program}{l:Nat}{rec:Bool→σ1 ⊕ σ2→Loop}{I1:View→σ1→Hl→Prop}{I2:View→σ2→Hl→Prop}{R:View→α→Array Value→Prop}{F:α→σ1→Option ((σ1 ⊕ σ2)×Bool)}{ρ0:View}
 (h: ∀{C:Cx} {w:World} {ρ:View} {hs:List Hl} {s:σ1} {A:Hl} {x:α} {args:Array Value} {r:(σ1 ⊕ σ2)×Bool},View.le ρ0 ρ→I1 ρ s A→R ρ x args→Hp C w ρ (Yd l (rec true (.inl s)) A::hs)→F x s=some r→
  YieldAt Fence.wide 0 P l args w (Rets fun v w'=>v= .bool r.2∧ ∃(ρ':View) (A':Hl),View.le ρ ρ'∧IS I1 I2 ρ' r.1 A'∧Hp C w' ρ' (Yd l (rec r.2 r.1) A'::hs))):YC P l rec (IS I1 I2) R (YS F) ρ0:=
 ⟨fun{C w ρ hs s A x args r} h1 h2 h3 h4 h5=>by
  cases s with
  |inl s=>exact h h1 h2 h3 h4 h5
  |inr s=>cases h5⟩
theorem YC.up{σ α:Type}{P:Program}{l:Nat}{rec:Bool→σ→Loop}{I:View→σ→Hl→Prop}{R:View→α→Array Value→Prop}{Y:α→σ→Option (σ×Bool)}{ρ0 ρ1:View}(hl:View.le ρ0 ρ1)(h:YC P l rec I R Y ρ0):YC P l rec I R Y ρ1:=
 ⟨fun h1 h2 h3 h4 h5=>h.go (View.le_trans hl h1) h2 h3 h4 h5⟩
section
variable {P:Program}{E:Env}{w:World}{d:Option Tmp}{ty:TypeId}{pos:String}{af:Array Edge}{g:Option (Nat×Bool)}{C:Cx}{ρ ρ0:View}{hs:List Hl}
theorem E_yield{σ α:Type}{l:Nat}{rec:Bool→σ→Loop}{I:View→σ→Hl→Prop}{R:View→α→Array Value→Prop}{Y:α→σ→Option (σ×Bool)}{s:σ}{A:Hl}{x:α}{r:σ×Bool}{f:Operand}{xs:List Operand}{vs:List Value}{ats:Array TypeId}
 (hY:YC P l rec I R Y ρ0) (hl:View.le ρ0 ρ) (hI:I ρ s A) (H:Hp C w ρ (Yd l (rec true s) A::hs)) (hR:R ρ x vs.toArray) (hF:Y x s=some r) (hf:ev E f=some (.func (.yield l) #[] #[])) (hx:evs E xs=some vs):
 EffI P E ⟨d,.call {callee:= .value f,args:=xs.toArray,argTypes:=ats},ty,pos,af,g⟩ w (fun v w'=>v= .bool r.2∧ ∃(ρ':View) (A':Hl),View.le ρ ρ'∧I ρ' r.1 A'∧Hp C w' ρ' (Yd l (rec r.2 r.1) A'::hs)):=by
 intro n a hfr K Q hK;obtain⟨fn,tmps,assign,body,hy,hr⟩:=hY.go hl hI hR H hF;refine⟨fun _ _=>trivial,?_⟩;have hev:=hfr.evals hx
 have hrun:(execOp a.eval ⟨d,.call {callee:= .value f,args:=xs.toArray,argTypes:=ats},ty,pos,af,g⟩).run P w= .ok (.round l fn tmps assign body) w:=by
  simp only[execOp,resolve,hfr.eval hf,Deferred.ofValue,List.map_toArray,hev,Sem.run_bind,Sem.run_pure,Result.andThen_ok,invoke,Array.empty_append,hy]
 have hrun':(Oper.semAt Fence.wide.round a.eval ⟨d,.call {callee:= .value f,args:=xs.toArray,argTypes:=ats},ty,pos,af,g⟩).run P w= .ok (.round l fn tmps assign body) w:=hrun;rw[hrun'];refine⟨fun hd=>by simp[Fence.wide]at hd,hr.mono fun e w' he=>?_⟩;obtain⟨v,rfl,h1⟩:=he;exact hK v w' h1
end
def beg(P:Program)(l:Nat)(body:Code)(Q:Exit→Act→World→Prop)(a:Act)(w:World):Prop:= ∃w2,(Instr.beginRound l).run P w= .ok () w2∧body.wpIn (Fx (some l)) 0 P Q a w2
section
variable {P:Program}{n:FN}{E:Env}{w:World}{C:Cx}{ρ:View}{hs:List Hl}{l:Nat}{o:Loop}{A:Hl}{post:Value→World→Prop}
theorem x_begin{Q:Exit→Act→World→Prop}{body:Code}(hst:o.state= .ready)(H:Hp C w ρ (Yd l o A::hs))(h: ∀w2,Hp C w2 ρ (Yd l {o with state:= .busy} A::hs)→CW (some l) P body Q n E w2):
 XX (Exit.then (beg P l body Q) (fun _ _ _=>False)) .normal n E w:=
 fun a hf=>⟨_,run_beginRound (H.all (Yd l o A) (by simp)).1 hst,h _ (H.turn _) a hf⟩
theorem x_round(H:Hp C w ρ (Yd l o A::hs))(h: ∀w',Hp C w' ρ (Yd l {o with state:= .ready,pending:=none} A::hs)→post (.bool true) w'):XX (roundPost P l (Rets post)) .normal n E w:=
 fun _ _=>⟨_,_,run_endRound none (H.all (Yd l o A) (by simp)).1,_,rfl,h _ (H.turn _)⟩
theorem x_round_ret(H:Hp C w ρ (Yd l o A::hs))(h: ∀w',Hp C w' ρ (Yd l {o with state:= .done,pending:=some .ret} A::hs)→post (.bool false) w'):XX (roundPost P l (Rets post)) .ret n E w:=
 fun _ _=>⟨_,_,run_endRound (some .ret) (H.all (Yd l o A) (by simp)).1,_,rfl,h _ (H.turn _)⟩
theorem yieldAt{args:Array Value}{body assign:Code}{tmps:Array Value}{ps:List Tmp}{vs:List Value}(H:Hp C w ρ (Yd l o A::hs))(hargs:args=vs.toArray)(hp:o.params=ps.toArray)(hn:vs.length=ps.length)(ha:o.assign=assign)(hb:o.body=body)(ht:o.tmps=tmps)
 (_hk:n.ds= []) (h: ∀a,Fr n a E→assign.wpIn (Fx (some l)) 0 P (Exit.then (beg P l body (roundPost P l (Rets post))) (fun _ _ _=>False)) a w)
 (hfr:Fr n {tmps:=((ps.zip vs).foldl (fun t (p,v)=>t.setIfInBounds p v) tmps),defers:=[]} E):
 YieldAt Fence.wide 0 P l args w (Rets post):=by
 subst ha hb ht hargs;refine⟨o.fn,_,o.assign,o.body,run_yield (H.all (Yd l o A) (by simp)).1 (by rw[hp];simp[hn]),roundIn_of_wpIn trivial ?_⟩;have e:(Array.zip o.params vs.toArray).foldl (fun t (p,v)=>t.setIfInBounds p v) o.tmps=(ps.zip vs).foldl (fun t (p,v)=>t.setIfInBounds p v) o.tmps:=by rw[hp];simp
 rw[e];exact h _ hfr
end
theorem Fr.params{n:FN}: ∀{ps:List Tmp} {vs:List Value} {tmps:Array Value} {E:Env},Fr n {tmps:=tmps,defers:=[]} E→(∀p∈ps,p<n.n)→ps.length=vs.length→
 Fr n {tmps:=((ps.zip vs).foldl (fun t (p,v)=>t.setIfInBounds p v) tmps),defers:=[]} ((ps.zip vs).foldl (fun E (p,v)=>(p,v)::E) E)
 | [],_,_,_,h,_,_=>by simpa using h
 |p::ps,[],_,_,_,_,hl=>by simp at hl
 |p::ps,v::vs,tmps,E,h,hp,hl=>by
   simp only[List.zip_cons_cons,List.foldl_cons];exact Fr.params (h.put (hp p (by simp)) v) (fun q hq=>hp q (by simp[hq])) (by simpa using hl)
section
variable {P:Program}{n:FN}{E:Env}{w:World}{C:Cx}{ρ:View}{hs:List Hl}{Q:Exit→Act→World→Prop}
theorem C_range{σ α:Type}{g:Operand}{gf:Nat}{lb:List Value}{ps:List Tmp}{assign body:Code}{A0:Hl}{s0:σ}{r:σ×Bool}{I:View→σ→Hl→Prop}{R:View→α→Array Value→Prop}{Y:α→σ→Option (σ×Bool)}(K:List Hl)(jump:σ→Code)
 (hg:ev E g=some (.func (.func gf) #[] lb.toArray)) (hfn:HasFn P gf) (H:Hp C w ρ (A0::(K++hs))) (_hI:I ρ s0 A0) (hnd:n.ds= [])
 (hY: ∀(a:Act),Fr n a E→ ∀(l fn D:Nat),YC P l (fun b s=>⟨if b then .ready else .done,if b then none else some (jump s),fn,a.tmps,ps.toArray,assign,body,D⟩) I R Y ρ)
 (hit: ∀{l:Nat} {rec:Bool→σ→Loop} {W:World} {hs':List Hl},YC P l rec I R Y ρ→Hp C W ρ (Yd l (rec true s0) A0::(K++hs'))→Calls P gf ((.func (.yield l) #[] #[]::lb).toArray) W (Rets fun _ w'=> ∃(ρ':View) (A':Hl),View.le ρ ρ'∧I ρ' r.1 A'∧Hp C w' ρ' (Yd l (rec r.2 r.1) A'::hs')))
 (hk: ∀(D:Nat) (w4:World) (ρ':View) (A':Hl),View.le ρ ρ'→I ρ' r.1 A'→Hp C w4 ρ' (A'::Dfr D::hs)→(r.2=true→XX Q .normal ⟨n.n,[D]⟩ E w4)∧(r.2=false→CW none P (jump r.1) Q ⟨n.n,[D]⟩ E w4)):
 CW none P (.rangeFunc g ps.toArray assign body) Q n E w:=by
 intro a hf;refine wpIn_rangeFunc fun fn _=>?_;have hfr: ∀D,Fr ⟨n.n,[D]⟩ {a with defers:=({target:= .collected D,args:= #[]}:Deferred)::a.defers} E:=fun D=>⟨hf.size,by show _=marks [D];rw[hf.defers,hnd];rfl,hf.slots⟩;have hd0:a.defers= []:=by rw[hf.defers,hnd];rfl
 have H1:Hp C (w.alloc (.deferred (some []))) ρ (Dfr w.heap.size::A0::(K++hs)):=H.alloc _ rfl (hv_alloc_new w _);have hsz:(w.alloc (.deferred (some []))).heap.size=w.heap.size+1:=by simp
 have H3:=(H1.perm ((List.Perm.swap _ _ _).trans (List.perm_middle.symm.cons _))).allocYd ⟨.ready,none,fn,a.tmps,ps.toArray,assign,body,w.heap.size⟩;rw[hsz]at H3;have hen:=run_enterLoop_outer (P:=P) (w:=w) fn a.tmps ps.toArray assign body;generalize(w.alloc (.deferred (some []))).alloc (.loop ⟨.ready,none,fn,a.tmps,ps.toArray,assign,body,w.heap.size⟩)=W1 at H3 hen;have hY':=hY a hf (w.heap.size+1) fn w.heap.size;have hc:=hit hY' H3;refine⟨w.heap.size+1,[{target:= .collected w.heap.size,args:= #[]}],W1,{target:= .fn (.func gf) lb.toArray,args:= #[.func (.yield (w.heap.size+1)) #[] #[]]},W1,gf,(.func (.yield (w.heap.size+1)) #[] #[]::lb).toArray,W1,hen,?_,fun _ _=>trivial,?_,⟨fun hd=>by simp at hd,?_⟩⟩
 ·simp only[resolve,hf.eval hg];simp[go_sem]
 ·simp only[invoke,hfn.enter];simp
 refine callsIn_wide.2 (hc.mono fun e w' he=>?_);obtain⟨v,rfl,ρ',A',hle,hI',H5⟩:=he;have hpt:=(H5.all _ (List.mem_cons_self ..)).1;have H6:=(H5.turn (o':=⟨.exhausted,if r.2 then none else some (jump r.1),fn,a.tmps,ps.toArray,assign,body,w.heap.size⟩)).unYd;have key:=hk w.heap.size _ ρ' A' hle hI' H6;refine⟨_,_,run_endLoop hpt (by cases r.2<;>simp),?_⟩
 cases hr2:r.2 with
 |true=>
   rw[hr2]at key;have:=key.1 rfl _ (hfr w.heap.size);simpa[hr2]using this
 |false=>
   rw[hr2]at key;have:=key.2 rfl _ (hfr w.heap.size);simpa[hr2]using this
end
@[reducible] def bodyM(P:Program)(fn:Func)(R:Ending→World→Prop):Exit→Act→World→Prop:=bodyPostM Fence.wide 0 P fn R
section
variable {P:Program}{n:FN}{E:Env}{w:World}{C:Cx}{ρ:View}{hs:List Hl}{fn:Func}{post:Value→World→Prop}
theorem fn_callsM{f:FuncId}{c:Code}{args:List Value}{R:Ending→World→Prop}{n:Nat}(hf:P.funcs[f]? =some fn)(hb:fn.body=some c)(hnt:fn.ntmps=n)(hn:args.length≤n)
 (h:CW none P c (bodyM P fn R) (FN.of n) (argE 0 args) w):Calls P f args.toArray w R:=by
 subst hnt;refine(callsIn_wide (n:=0)).1 (callsIn_of_wp_marks hf hb trivial (h _ ⟨?_,rfl,?_⟩))
 ·simp;omega
 intro k v hk;have:=look_argE args 0 k v hk;have h2:args[k]? =some v:=by simpa using this.2
 have hlt:k<args.length:=(List.getElem?_eq_some_iff.1 h2).1;simpa[Array.getElem?_append,hlt]using(List.getElem?_eq_some_iff.1 h2).2
theorem fn_retM{rs:List ResultVar}{vs:List Value}(hrs:fn.results=rs.toArray)(hv:RV P w E rs vs)(h:post (packR vs) w)(hn:n.ds= []:=by rfl):XX (bodyM P fn (Rets post)) .ret n E w:=
 fun a hf=>by
  show LeavesInM Fence.wide 0 P fn a.tmps _ a.defers .returning w;rw[hf.defers,hn];exact⟨_,results_runV hrs hf hv,_,rfl,h⟩
theorem x_take{D k:Nat}{R:Ending→World→Prop}(H:Hp C w ρ (Dfr D::hs))(h: ∀w',Hp C w' ρ hs→XX (bodyM P fn R) .ret ⟨k,[]⟩ E w'):XX (bodyM P fn R) .ret ⟨k,[D]⟩ E w:=
 fun a hf=>by
  obtain⟨h1,h2⟩:=H.taken (P:=P);show LeavesInM Fence.wide 0 P fn a.tmps R a.defers .returning w;rw[hf.defers];refine⟨by simp,.inl ⟨_,_,rfl,h1,?_⟩⟩;have:=h _ h2 {a with defers:=[]} ⟨hf.size,rfl,hf.slots⟩;exact this
end
open Go
variable {P:Program}{E:Env}{w:World}{ρ:View}{hs:List Hl}{C:Cx}{d:Option Tmp}{ty:TypeId}{pos:String}{af:Array Edge}{g:Option (Nat×Bool)}
def rowF{α:Type}:Nat→Nat→(Nat→α)→List α
 |0,_,_=>[]
 |n+1,k,f=>f k::rowF n (k+1) f
theorem rowF_len{α:Type}(f:Nat→α): ∀(n k:Nat),(rowF n k f).length=n
 |0,_=>rfl
 |n+1,k=>by simp[rowF,rowF_len f n (k+1)]
theorem rowF_get{α:Type}(f:Nat→α): ∀(n k j:Nat),j<n→(rowF n k f)[j]? =some (f (k+j))
 |0,_,_,h=>by omega
 |n+1,k,0,_=>by simp[rowF]
 |n+1,k,j+1,h=>by
   simp only[rowF,List.getElem?_cons_succ];rw[rowF_get f n (k+1) j (by omega)]
   congr 2;omega
theorem rowF_map{α β:Type}(f:Nat→α)(q:α→β): ∀(n k:Nat),(rowF n k f).map q=rowF n k (fun j=>q (f j))
 |0,_=>rfl
 |n+1,k=>by simp[rowF,rowF_map f q n (k+1)]
theorem rowF_eq{ys:List Int}{n:Nat}(h:ys.length=n):rowF n 0 (fun j=>ys.getD j 0)=ys:=by
 refine List.ext_getElem? fun j=>?_;by_cases hj:j<n
 ·rw[rowF_get _ _ _ _ hj,Nat.zero_add,List.getD,List.getElem?_eq_getElem (by omega)];rfl
 rw[List.getElem?_eq_none (by rw[rowF_len];omega),List.getElem?_eq_none (by omega)]
theorem box_ix{b o:Nat}{vs:List Value}{h:View}{k:IntKind}{xs:List Int}{i y:Int}(hp:(Box b vs).P h)(hs:(vs.drop o).take xs.length=xs.map (.int k))(hx:idx xs i=some y):cellsAt h b (o+i.toNat*1) [.int k y]:=by
 obtain⟨_,h1,h2⟩:=idx_some hx;have:=box_at hp o xs.length;rw[hs]at this;intro j u hj;have hj0:j=0:=by have:=(List.getElem?_eq_some_iff.1 hj).1;simp at this;omega
 subst hj0;obtain rfl:Value.int k y=u:=by simpa using hj
 have:=this i.toNat (.int k y) (by rw[List.getElem?_map,h2];rfl);simpa using this
theorem Q_ldX{T:TypeId}{x:Operand}{by_ b o j:Nat}{z:Value}{vs:List Value}{k:IntKind}{xs:List Int}{i y:Int}(hok:Ok w ρ hs)(hk:hs[j]? =some (Box b vs))(hty:Ty P T 1 by_ z false)
 (hx:ev E x=some (.pointer (some ⟨b,o+i.toNat*1,none⟩))) (hsub:(vs.drop o).take xs.length=xs.map (.int k)) (hi:idx xs i=some y):Qv P E ⟨d,.load T x,ty,pos,af,g⟩ (.int k y) w:=
 Q_ld (box_ix (hok.get hk) hsub hi) hty rfl (fun _=>rfl) hx rfl
theorem E_stX(H:Hp C w ρ hs){j:Nat}{T:TypeId}{x y:Operand}{by_ b o N:Nat}{z:Value}{vs vs':List Value}{k:IntKind}{xs ys:List Int}{i v:Int}(hk:hs[j]? =some (Box b vs))(hty:Ty P T 1 by_ z false)
 (hx:ev E x=some (.pointer (some ⟨b,o+i.toNat*1,none⟩))) (hy:ev E y=some (.int k v)) (hsub:(vs.drop o).take xs.length=xs.map (.int k)) (hN:xs.length=N) (hset:setI xs i v=some ys) (hfit:o+N≤vs.length)
 (hs':setC vs o (rowF N 0 fun j=> .int k (ys.getD j 0))=vs'):
 Eff P E ⟨d,.store T x y,ty,pos,af,g⟩ w (fun _ w'=>Hp C w' ρ (hs.set j (Box b vs'))):=by
 obtain⟨_,h1,rfl⟩:=setI_some hset;refine E_stB H hk hty hx hy (cs:=[.int k v]) rfl rfl (by simp[Value.oneCell']) (by omega) ?_;rw[←hs',←rowF_map (fun j=>(xs.set i.toNat v).getD j 0) (Value.int k),rowF_eq (by simp[hN])];refine List.ext_getElem? fun q=>?_;have hl:(xs.map (Value.int k)).length=xs.length:=List.length_map _
 have hv: ∀q,q<xs.length→vs[o+q]? =(xs.map (Value.int k))[q]? :=fun q hq=>by
  rw[←hsub,List.getElem?_take,if_pos hq,List.getElem?_drop]
 have hlo:o≤vs.length:=by omega
 unfold setC;simp only[List.length_singleton,List.length_map,List.length_set,Nat.mul_one];rw[List.append_assoc,List.append_assoc];by_cases h0:q<o
 ·rw[List.getElem?_append_left (by simp;omega),List.getElem?_append_left (by simp;omega),List.getElem?_take,List.getElem?_take,if_pos h0,if_pos (by omega)]
 rw[List.getElem?_append_right (l₁:=vs.take o) (by simp;omega)];have e1:q-(vs.take o).length=q-o:=by simp;omega
 rw[e1];by_cases h2:q<o+i.toNat
 ·rw[List.getElem?_append_left (by simp;omega),List.getElem?_take,if_pos h2,List.getElem?_append_left (by simp;omega)];have:=hv (q-o) (by omega);rw[show o+(q-o)=q by omega]at this;rw[this,List.getElem?_map,List.getElem?_map,List.getElem?_set_ne (by omega)]
 rw[List.getElem?_append_right (l₁:=vs.take (o+i.toNat)) (by simp;omega)];have e2:q-(vs.take (o+i.toNat)).length=q-(o+i.toNat):=by simp;omega
 rw[e2];by_cases h3:q=o+i.toNat
 ·subst h3;rw[List.getElem?_append_left (by simp),List.getElem?_append_left (by simp;omega),List.getElem?_map,show o+i.toNat-o=i.toNat by omega,List.getElem?_set_self (by omega)];simp
 rw[List.getElem?_append_right (by simp;omega),List.getElem?_drop];simp only[List.length_singleton];by_cases h4:q<o+xs.length
 ·rw[List.getElem?_append_left (by simp;omega)];have:=hv (q-o) (by omega);rw[show o+(q-o)=q by omega]at this;rw[show o+i.toNat+1+(q-(o+i.toNat)-1)=q by omega,this,List.getElem?_map,List.getElem?_map,List.getElem?_set_ne (by omega)]
 rw[List.getElem?_append_right (by simp;omega),List.getElem?_drop]
 congr 1
 simp only[List.length_map,List.length_set];omega
theorem Q_ixN{α:Type}{t e:TypeId}{x i:Operand}{N n' by_:Nat}{xs:List α}(f:α→List Value)(hf: ∀x,(f x).length=n'){m:Int}{y:α}{z:Value}{k':IntKind}(hl:xs.length=N)(hy:idx xs m=some y)
 (ht:P.underlying t=some (.array N e)) (hx:ev E x=some (.agg (xs.flatMap f).toArray)) (hi:ev E i=some (.int k' m)) (hty:Ty P e n' by_ z true):Qv P E ⟨d,.index t x i,ty,pos,af,g⟩ (.agg (f y).toArray) w:=fun n a hfr=>by
 obtain⟨h0,hN⟩:=idx_lt hl hy;obtain⟨_,h1,hy⟩:=idx_some hy
 have hlen: ∀l:List α,(l.flatMap f).length=l.length*n':=by
  intro l
  induction l with
  |nil=>simp
  |cons a l ih=>simp[hf,ih,Nat.add_mul];omega
 have hget: ∀(l:List α) (j:Nat),l[j]? =some y→((l.flatMap f).drop (j*n')).take n'=f y:=by
  intro l
  induction l with
  |nil=>intro j h;simp at h
  |cons a l ih=>
    intro j h
    cases j with
    |zero=>
      obtain rfl:a=y:=by simpa using h
      rw[List.flatMap_cons,Nat.zero_mul,List.drop_zero,List.take_left' (hf a)]
    |succ j=>
      have e:(j+1)*n'=(f a).length+j*n':=by rw[hf,Nat.add_mul,Nat.one_mul];omega
      rw[List.flatMap_cons,e,←List.drop_drop,List.drop_left];exact ih j (by simpa using h)
 have hp:(part e (xs.flatMap f).toArray (m.toNat*n')).run P w= .ok (.agg (f y).toArray) w:=by
  unfold part;rw[Sem.run_bind,hty.isAgg];simp only[Result.andThen_ok,if_true];rw[Sem.run_bind,hty.sizeOf];simp only[Result.andThen_ok,Sem.run_pure];rw[←hget xs m.toNat hy]
  congr 3
  simp
 simp[execOp,hfr.eval hx,hfr.eval hi,Instr.index,asIntOf,run_underlying ht,h0,hN,hty.sizeOf,hp]
def inv(k:IntKind)(m:Int):Int:=ixor k (if k.signed then-1 else k.max) m
theorem Q_inv{k:IntKind}{t:TypeId}{x:Operand}{m:Int}(hx:ev E x=some (.int k m)):Qv P E ⟨d,.unOp .xor t x,ty,pos,af,g⟩ (.int k (inv k m)) w:=fun n a hf=>by
 simp[execOp,hf.eval hx,Op.unary,Op.intBits,inv,ixor]
def eQ{α:Type}(e:Enc α):Enc α where
 n:=1
 rd ρ x cs:= ∃b c,cs= [.pointer (some ⟨b,0,none⟩)]∧cellsAt ρ b 0 c∧e.rd ρ x c
 len h:=by obtain⟨b,c,rfl,_⟩:=h;rfl
 one h:=by
  obtain⟨b,c,rfl,_⟩:=h;simp[Value.oneCell']
 up hl h:=by obtain⟨b,c,h1,h2,h3⟩:=h;exact⟨b,c,h1,h2.up hl,e.up hl h3⟩
theorem Hp.bfrz{b:Nat}{cs:List Value}(H:Hp C w ρ (Box b cs::hs)): ∃ρ',View.le ρ ρ'∧Hp C w ρ' hs∧cellsAt ρ' b 0 cs:=by
 obtain⟨ρ',hl,H',hp⟩:=H.freeze;have:=box_at hp 0 cs.length;rw[List.drop_zero,List.take_length]at this;exact⟨ρ',hl,H',this⟩
section
variable {α β:Type}[BEq α]{K:KE α}{vv:β→Value}
theorem run_mentry{mt kt vt:TypeId}{r:Nat}{m:List (α×β)}{a:α}{zp:β}{n by_:Nat}{z:Value}{ag:Bool}(hm:P.underlying mt=some (.map kt vt))(hK:KOk P kt K)(ha:K.ok a)(hty:Ty P vt n by_ z ag)(hz:vv zp=z)(hp:(Mp K vv r m).P (hv w)):
 ∃w' st,(Instr.mapEntry mt (.map (some r)) (K.kv a)).run P w= .ok (.tuple #[vv ((mget m a).getD zp),.int .i64 st]) w'∧w'.os=w.os∧Tp w w'∧w'.output=w.output∧w'.heap.size=w.heap.size∧(∀b',b'≠r→w'.heap[b']? =w.heap[b']?)∧
   (MpE K vv r (mset m a ((mget m a).getD zp)) a st).P (hv w'):=by
 obtain⟨es,clock,h1,h2,h3,hbn⟩:=Mp.find hK hp a ha;have hmok:=hp.2;have h4:=hK.chk false a w ha;have hlt:r<w.heap.size:=(Array.getElem?_eq_some_iff.1 h1).1;have hset: ∀o:Obj,(setObj r o).run P w= .ok () {w with heap:=w.heap.setIfInBounds r o}:=fun o=>MapKept.run_setObj_map o h1
 have hsz:es.size=m.length:=by
  have:=congrArg List.length h2;simpa using this
 have h5:(m.find? fun e=>e.1==a)=_:=find_of_idx;have haa:(a==a)=true:=(hK.law a a).2 rfl
 cases hi:m.findIdx? fun e=>e.1==a with
 |none=>
   rw[hi]at h3;have hg:mget m a=none:=by unfold mget;rw[h5,hi];rfl
   have hms:mset m a zp=m++ [(a,zp)]:=by unfold mset;rw[hi]
   rw[hg,Option.getD_none,hms]
   refine⟨{w with heap:=w.heap.setIfInBounds r (.map (es.push {key:=K.kv a,val:=z,born:=clock}) (clock+1))},clock,?_,rfl,Tp.rfl w,rfl,by simp,fun b' hb=>by simp[Array.getElem?_setIfInBounds_ne (Ne.symm hb)],
    ⟨es.push {key:=K.kv a,val:=z,born:=clock},clock+1,by simp[hv,hlt],by simp[h2,hz],hbn.push _ _,m.length,?_,by simp[←hsz]⟩,?_⟩
   ·simp only[Instr.mapEntry,Sem.run_bind,run_underlying hm,Result.andThen_ok,MapKept.run_getObj_map h1,h4,h3,Option.bind_none,hty.zeroValue,hset,Sem.run_pure,hz,goInt]
   ·have hno:=List.findIdx?_eq_none_iff.1 hi;rw[List.findIdx?_append,hi];simp[haa]
   intro e he;rcases List.mem_append.1 he with he|he
   ·exact hmok e he
   simp at he;subst he;exact ha
 |some i=>
   rw[hi]at h3;obtain⟨hil,hia,_⟩:=List.findIdx?_eq_some_iff_getElem.1 hi;have h6:(m[i]).1=a:=(hK.law _ _).1 hia
   have hg:mget m a=some m[i].2:=by
    unfold mget;rw[h5,hi];simp[List.getElem?_eq_getElem hil]
   have hms:mset m a m[i].2=m:=by
    unfold mset;rw[hi];apply List.ext_getElem?;intro j;simp only[List.getElem?_modify];by_cases hj:i=j
    ·subst hj;simp[List.getElem?_eq_getElem hil,←h6]
    simp[hj]
   rw[hg,Option.getD_some,hms];have h7:i<es.size:=by omega
   have hkey:(es[i]?).map (·.key)=some (K.kv a):=by
    have h5:=congrArg (fun l:List (Value×Value)=>(l[i]?).map (·.1)) h2;simp[List.getElem?_eq_getElem hil,h6]at h5;simp[h7]at h5 ⊢;exact h5
   have hst:(Instr.keyThatStays (K.kv a) (K.kv a)).run P w= .ok (K.kv a) w:=by simp[Instr.keyThatStays,hK.stays]
   have hk2:(es[i]).key=K.kv a:=by simpa[h7]using hkey
   refine⟨{w with heap:=w.heap.setIfInBounds r (.map (es.modify i fun e=>{e with key:=K.kv a}) clock)},es[i].born,?_,rfl,Tp.rfl w,rfl,by simp,fun b' hb=>by simp[Array.getElem?_setIfInBounds_ne (Ne.symm hb)],
    ⟨es.modify i fun e=>{e with key:=K.kv a},clock,by simp[hv,hlt],?_,hbn.modify _ _ fun _=>rfl,i,hi,by simp[h7,Array.getElem_modify_self]⟩,hmok⟩
   ·simp only[Instr.mapEntry,Sem.run_bind,run_underlying hm,Result.andThen_ok,MapKept.run_getObj_map h1,h4,h3,Option.bind_some,List.getElem?_eq_getElem hil,Option.map_some,hkey,Option.getD_some,hst,hset,Sem.run_pure,goInt];simp[h7]
   rw[←h2];apply List.ext_getElem?;intro j;simp only[Array.toList_modify,List.getElem?_map,List.getElem?_modify,Array.getElem?_toList];by_cases hj:i=j
   ·subst hj;simp[h7,hk2]
   simp[hj]
theorem E_mentry{mt kt vt:TypeId}{x y:Operand}{k r:Nat}{m:List (α×β)}{a:α}{zp:β}{n by_:Nat}{z:Value}{ag:Bool}(H:Hp C w ρ hs)(hk:hs[k]? =some (Mp K vv r m))(hm:P.underlying mt=some (.map kt vt))(hK:KOk P kt K)(ha:K.ok a)
 (hty:Ty P vt n by_ z ag) (hz:vv zp=z) (hx:ev E x=some (.map (some r))) (hy:ev E y=some (K.kv a)):
 Eff P E ⟨d,.mapEntry mt x y,ty,pos,af,g⟩ w (fun v w'=> ∃st,v= .tuple [vv ((mget m a).getD zp),.int .i64 st].toArray∧Hp C w' ρ (hs.set k (MpE K vv r (mset m a ((mget m a).getD zp)) a st))):=by
 obtain⟨w',st,hr,h1,h2,h3,h4,h5,h6⟩:=run_mentry (P:=P) (w:=w) hm hK ha hty hz (H.ok.get hk);refine Eff.of_run fun n ac hf=>⟨_,w',?_,st,rfl,?_⟩
 ·simp[execOp,hf.eval hx,hf.eval hy,hr]
 exact H.upd hk h1 h2 h3 (by omega) (fun b' _ hn=>h5 b' (by simpa[Mp]using hn)) (by simp[MpE]) (fun b' hb=> .inl hb) (fun b' hb=>by
  have:=H.lt b' (mem_fps.2 ⟨_,List.mem_of_getElem? hk,hb⟩);omega) h6
theorem E_estore{mt:TypeId}{x y u:Operand}{k r:Nat}{m:List (α×β)}{a:α}{b:β}{st:Int}(hlaw: ∀a b:α,(a==b)=true↔a=b)(H:Hp C w ρ hs)(hk:hs[k]? =some (MpE K vv r m a st))
 (hx:ev E x=some (.map (some r))) (hy:ev E y=some (.int .i64 st)) (hu:ev E u=some (vv b)):Eff P E ⟨d,.entryStore mt x y u,ty,pos,af,g⟩ w (fun _ w'=>Hp C w' ρ (hs.set k (Mp K vv r (mset m a b)))):=by
 obtain⟨⟨es,clock,h1,h2,hbn,i,hi,hs1⟩,hmok⟩:=H.ok.get hk;have h1:w.heap[r]? =some (.map es clock):=h1;have hlt:r<w.heap.size:=(Array.getElem?_eq_some_iff.1 h1).1;have hset: ∀o:Obj,(setObj r o).run P w= .ok () {w with heap:=w.heap.setIfInBounds r o}:=fun o=>MapKept.run_setObj_map o h1
 have hsz:es.size=m.length:=by
  have:=congrArg List.length h2;simpa using this
 obtain⟨hil,hia,_⟩:=List.findIdx?_eq_some_iff_getElem.1 hi;have h6:(m[i]).1=a:=(hlaw _ _).1 hia;have h7:i<es.size:=by omega
 have hborn:(es[i].born:Int)=st:=by simpa[h7]using hs1
 have hfind:es.findIdx? (fun e=>(e.born:Int)==st)=some i:=by
  have e0:=List.findIdx?_toArray (fun e:MapEntry=>(e.born:Int)==st) es.toList;rw[Array.toArray_toList]at e0;rw[e0,List.findIdx?_eq_some_iff_getElem];refine⟨by simpa using h7,by simpa using hborn,fun j hj=>?_⟩;have hn:=hbn.2;have hj':j<es.size:=by omega
  have:=List.nodup_iff_pairwise_ne.1 hn;rw[List.pairwise_iff_getElem]at this;have:=this j i (by simpa using hj') (by simpa using h7) hj;simp only[List.getElem_map,Array.getElem_toList]at this ⊢;intro hc;apply this;have hc:(es[j].born:Int)=st:=by simpa using hc
  omega
 refine Eff.of_skip fun n ac hf=>⟨{w with heap:=w.heap.setIfInBounds r (.map (es.modify i fun e=>{e with val:=vv b}) clock)},?_,?_⟩
 ·simp[execOp,hf.eval hx,hf.eval hy,hf.eval hu,Instr.entryStore,MapKept.run_getObj_map h1,asInt,asIntOf,hfind,hset]
 refine H.upd hk rfl (Tp.rfl _) rfl (by simp) (fun b' _ hn=>by simp[Array.getElem?_setIfInBounds_ne (show r≠b' by simpa[MpE,eq_comm]using hn)]) (by simp[Mp]) (fun b' hb=> .inl hb) (fun b' hb=>by
  have:=H.lt b' (mem_fps.2 ⟨_,List.mem_of_getElem? hk,hb⟩);simpa using this) ⟨⟨es.modify i fun e=>{e with val:=vv b},clock,by simp[hv,hlt],?_,hbn.modify _ _ fun _=>rfl⟩,?_⟩
 ·have hms:mset m a b=m.modify i fun _=>(a,b):=by unfold mset;rw[hi]
  rw[hms];apply List.ext_getElem?;intro j;have h5:=congrArg (fun l:List (Value×Value)=>l[j]?) h2;simp only[List.getElem?_map,Array.getElem?_toList]at h5;simp only[Array.toList_modify,List.getElem?_map,List.getElem?_modify,Array.getElem?_toList];by_cases hj:i=j
  ·subst hj;simp[List.getElem?_eq_getElem hil,h7]at h5 ⊢;rw[h5.1,h6]
  simp[hj];cases hej:es[j]? <;>cases hmj:m[j]? <;>simp_all
 intro e he;unfold mset at he;rw[hi]at he;obtain⟨j,hj⟩:=List.mem_iff_getElem?.1 he;rw[List.getElem?_modify]at hj;by_cases hij:i=j
 ·subst hij;simp[List.getElem?_eq_getElem hil]at hj;subst hj;show K.ok a;rw[←h6];exact hmok _ (List.getElem_mem hil)
 simp[hij]at hj;exact hmok e (List.mem_of_getElem? hj)
end
def partsOkF(f:Nat→Option (Nat×Nat))(N:Nat):List (Nat×Value)→List (Nat×List Value)→Prop
 | [],[]=>True
 |(i,v)::r,(off,c)::s=>f i=some (off,c.length)∧v.cells=c.toArray∧off+c.length≤N∧partsOkF f N r s
 |_,_=>False
theorem fill_partsF{f:Nat→Option (Nat×Nat)}{N:Nat}: ∀(parts:List (Nat×Value)) (ps:List (Nat×List Value)) (cells:Array Value),cells.size=N→partsOkF f N parts ps→
 Instr.fill f cells parts=some (ps.foldl (fun acc p=>setC acc p.1 p.2) cells.toList).toArray
 | [],[],cells,_,_=>by simp[Instr.fill]
 |(i,v)::r,(off,c)::s,cells,hN,h=>by
   obtain⟨h1,h2,h3,h4⟩:=h;have hf:=foldl_set c 0 off cells (by omega)
   have hf':(v.cells.zipIdx.foldl (fun(cs:Array Value) x=>cs.setIfInBounds (off+x.2) x.1) cells)=(setC cells.toList off c).toArray:=by
    rw[h2];apply Array.toList_inj.1;rw[Nat.add_zero]at hf;rw[←hf];rw[←Array.foldl_toList];simp
   simp only[Instr.fill,h1];rw[if_neg (by simp[h2];omega)];rw[hf',fill_partsF r s _ (by rw[List.size_toArray,setC_length (by simp;omega)];simpa using hN) h4];simp
 | [],_::_,_,_,h=>by cases h
 |_::_,[],_,_,h=>by cases h
theorem Q_buildAF{T e:TypeId}{N m by_ n by':Nat}{z z':Value}{zs res:List Value}{ag:Bool}{parts:List (Nat×Operand)}{vs:List (Nat×Value)}{ps:List (Nat×List Value)}(hty:Ty P T m by_ z true)(hz:z.cells=zs.toArray)(ht:P.underlying T=some (.array N e))(hte:Ty P e n by' z' ag)
 (hvs:evP E parts=some vs) (hok:partsOkF (fun i=>some (i*n,n)) zs.length vs ps) (hres:ps.foldl (fun acc p=>setC acc p.1 p.2) zs=res):Qv P E ⟨d,.build T parts.toArray,ty,pos,af,g⟩ (.agg res.toArray) w:=
 Q_buildA hty hz ht hte hvs (by rw[fill_partsF (N:=zs.length) vs ps zs.toArray (by simp) hok];simp only[];rw[hres])
theorem mget_mset{α β:Type}[BEq α](hlaw: ∀a b:α,(a==b)=true↔a=b)(m:List (α×β))(a:α)(b:β):mget (mset m a b) a=some b:=by
 have haa:(a==a)=true:=(hlaw a a).2 rfl;unfold mget mset
 cases hi:m.findIdx? fun e=>e.1==a with
 |none=>
   have hno:=List.findIdx?_eq_none_iff.1 hi;simp only[];rw[List.find?_append,List.find?_eq_none.2 (fun x hx=>by simpa using hno x hx)];simp[haa]
 |some i=>
   obtain⟨hil,hia,hlt⟩:=List.findIdx?_eq_some_iff_getElem.1 hi;simp only[];rw[find_of_idx]
   have:(m.modify i fun _=>(a,b)).findIdx? (fun e=>e.1==a)=some i:=by
    rw[List.findIdx?_eq_some_iff_getElem];refine⟨by simpa using hil,by simp[haa],fun j hj=>?_⟩;have:=hlt j hj;rw[List.getElem_modify];rw[if_neg (by omega)];exact this
   rw[this];simp[List.getElem?_eq_getElem hil]
theorem Q_look1E{α β:Type}[BEq α]{K:KE α}{vv:β→Value}{mt kt vt:TypeId}{x y:Operand}{k r:Nat}{m:List (α×β)}{a:α}{st:Int}{n by_:Nat}{z:Value}{ag:Bool}{zp:β}(hok:Ok w ρ hs)(hk:hs[k]? =some (MpE K vv r (mset m a ((mget m a).getD zp)) a st))
 (hm:P.underlying mt=some (.map kt vt)) (hK:KOk P kt K) (ha:K.ok a) (hty:Ty P vt n by_ z ag) (hz:vv zp=z) (hx:ev E x=some (.map (some r))) (hy:ev E y=some (K.kv a)):
 Qv P E ⟨d,.lookup mt x y false,ty,pos,af,g⟩ (vv ((mget m a).getD zp)) w:=by
 obtain⟨⟨es,clock,h1,h2,hbn,_⟩,h3⟩:=hok.get hk
 have:=Q_look1 (P:=P) (E:=E) (d:=d) (ty:=ty) (pos:=pos) (af:=af) (g:=g) (hs:=[Mp K vv r (mset m a ((mget m a).getD zp))]) (k:=0) (w:=w) (ρ:=ρ)
  ⟨hok.view,fun h hh=>by simp at hh;subst hh;exact⟨⟨es,clock,h1,h2,hbn⟩,h3⟩⟩ rfl hm hK ha hty hz hx hy
 rw[mget_mset hK.law]at this;exact this
theorem errV0{ids:List Nat}{ge:Nat→Value}:errV ids ge 0= .nilIface:=by
 unfold errV;rw[if_neg];intro h;have:=(eOk_mem h).2;omega
theorem Hp.cast{hs':List Hl}(h:hs'=hs)(H:Hp C w ρ hs):Hp C w ρ hs':=h▸H
open Go Go.Proofs Go.Sort
abbrev S4:=Int×Int×Int×Int
def wr4(x:S4):S4:=(IntKind.u64.wrap x.1,IntKind.u64.wrap x.2.1,IntKind.u64.wrap x.2.2.1,IntKind.u64.wrap x.2.2.2)
def raw4(x:S4):List Value:=[.int .u64 x.1,.int .u64 x.2.1,.int .u64 x.2.2.1,.int .u64 x.2.2.2]
def enc4(x:S4):List Value:=raw4 (wr4 x)
abbrev e4:Enc S4:=eP (eI .u64) (eP (eI .u64) (eP (eI .u64) (eI .u64)))
def cf4(cmp:S4→S4→Option Int)(x y:S4):Int:=(cmp (wr4 x) (wr4 y)).getD 0
def CanSort(cmp:S4→S4→Option Int)(xs:List S4):Prop:=
 (∀x∈xs,wr4 x=x)∧xs≠ []∧xs.length<4611686018427387904∧(∀x y,cmp (wr4 x) (wr4 y)=some (cf4 cmp x y))∧SWO (ltOf (cf4 cmp))
open Classical in
noncomputable def sortF(cmp:S4→S4→Option Int)(xs:List S4):Option (List S4):=
 if CanSort cmp xs then some ((pdq (ltOf (cf4 cmp)) xs.toArray 0 xs.toArray.size (Lib.bitLen xs.toArray.size) true true).toList.map wr4)else none
theorem sortF_some{cmp:S4→S4→Option Int}{xs ys:List S4}(h:sortF cmp xs=some ys):
 CanSort cmp xs∧ys=(pdq (ltOf (cf4 cmp)) xs.toArray 0 xs.toArray.size (Lib.bitLen xs.toArray.size) true true).toList.map wr4:=by
 unfold sortF at h;split at h
 ·rename_i hc;exact⟨hc,(Option.some.inj h).symm⟩
 cases h
theorem rdL4{ρ:View}: ∀{xs:List S4} {cs:List Value},rdL e4 ρ xs cs↔cs=xs.flatMap raw4
 | [],cs=>by simp[rdL]
 |x::xs,cs=>by
   constructor
   ·rintro⟨c,d,rfl,⟨a1,b1,rfl,h1,a2,b2,rfl,h2,a3,b3,rfl,h3,h4⟩,h⟩;obtain rfl:=rdL4.1 h;obtain rfl:a1= [_]:=h1;obtain rfl:a2= [_]:=h2;obtain rfl:a3= [_]:=h3;obtain rfl:b3= [_]:=h4;rfl
   rintro rfl;exact⟨raw4 x,xs.flatMap raw4,rfl,⟨[_],_,rfl,rfl,[_],_,rfl,rfl,[_],[_],rfl,rfl,rfl⟩,rdL4.2 rfl⟩
theorem fm_get{α:Type}[Inhabited α]{enc:α→List Value}{k:Nat}(hk: ∀x,(enc x).length=k)(k0:0<k): ∀(xs:List α) (j:Nat),j<xs.length*k→(xs.flatMap enc)[j]? =some ((enc xs[j/k]!)[j %k]!)
 | [],j,h=>by simp at h
 |x::xs,j,h=>by
   rw[List.flatMap_cons];by_cases hj:j<k
   ·rw[List.getElem?_append_left (by rw[hk];exact hj),Nat.div_eq_of_lt hj,Nat.mod_eq_of_lt hj];have:j<(enc x).length:=by rw[hk];exact hj
    simp[List.getElem?_eq_getElem this,List.getElem!_eq_getElem?_getD]
   have hj:k≤j:=by omega
   rw[List.getElem?_append_right (by rw[hk];exact hj),hk]
   have h':j-k<xs.length*k:=by
    simp only[List.length_cons,Nat.add_mul,Nat.one_mul]at h;omega
   rw[fm_get hk k0 xs (j-k) h']
   have e1:j/k=(j-k)/k+1:=by
    conv=>lhs;rw[show j=(j-k)+k by omega]
    exact Nat.add_div_right _ k0
   have e2:(j-k) %k=j %k:=(Nat.mod_eq_sub_mod hj).symm;rw[e1,e2];simp[List.getElem!_eq_getElem?_getD]
theorem fm_len{α:Type}{enc:α→List Value}{k:Nat}(hk: ∀x,(enc x).length=k): ∀xs:List α,(xs.flatMap enc).length=xs.length*k
 | []=>by simp
 |x::xs=>by rw[List.flatMap_cons,List.length_append,hk,fm_len hk xs,List.length_cons,Nat.add_mul];omega
theorem flat4(d:Array S4):(flatK enc4 4 d).toList=d.toList.flatMap enc4:=by
 apply List.ext_getElem?;intro j;by_cases hj:j<d.size*4
 ·rw[fm_get (k:=4) (fun _=>rfl) (by decide) d.toList j (by simpa using hj)];have h1:=get_flatK enc4 4 d j hj;rw[getElem!_pos _ _ (by simpa using hj)]at h1;rw[Array.getElem?_toList,Array.getElem?_eq_getElem (by simpa using hj),h1]
  congr 3
  have h2:j/4<d.size:=by omega
  rw[getElem!_pos d _ h2,getElem!_pos d.toList _ (by simpa using h2)];simp
 rw[List.getElem?_eq_none (by simp;omega),List.getElem?_eq_none (by rw[fm_len (k:=4) (fun _=>rfl)];simp;omega)]
theorem fm_wr(xs:List S4):(xs.map wr4).flatMap raw4=xs.flatMap enc4:=by
 rw[List.flatMap_map];rfl
theorem fm_raw{xs:List S4}(h: ∀x∈xs,wr4 x=x):xs.flatMap raw4=xs.flatMap enc4:=by
 induction xs with
 |nil=>rfl
 |cons x xs ih=>rw[List.flatMap_cons,List.flatMap_cons,ih (fun y hy=>h y (by simp[hy])),enc4,h x (by simp)]
theorem Bel.grown{w w':World}(h:Bel w w'): ∃q os',w'=grow (w.drewN q) os':=by
 obtain⟨h1,⟨h2,h3⟩,h4,h5,h6⟩:=h;refine⟨w'.drawn-w.drawn,w'.heap.extract w.heap.size w'.heap.size,?_⟩;obtain⟨hp,tp,dr,os,out⟩:=w';simp only[grow,World.drewN]at*;subst h1 h2 h4
 congr 1
 ·apply Array.ext_getElem?;intro i;by_cases hi:i<w.heap.size
  ·rw[h6 i hi,Array.getElem?_append_left hi]
  rw[Array.getElem?_append_right (by omega)];by_cases h7:i<hp.size
  ·rw[Array.getElem?_extract];rw[if_pos (by omega)]
   congr 1;omega
  rw[Array.getElem?_eq_none (by omega),Array.getElem?_eq_none (by simp;omega)]
 omega
theorem Hp.here{W:World}{ρ:View}(h:View.le ρ (hv W)):Hp ⟨W,[]⟩ W ρ [] where
 os:=rfl
 tape:=Tp.rfl _
 out:=rfl
 size:=Nat.le_refl _
 old _ _ _:=rfl
 fresh _ h:=by simp[fps]at h
 lt _ h:=by simp[fps]at h
 nodup:=by simp[fps]
 view:=h
 apart _ h:=by simp[fps]at h
 all _ h:=by simp at h
theorem Hp.bel{W w':World}{ρ:View}{hs:List Hl}(H:Hp ⟨W,[]⟩ w' ρ hs):Bel W w':=
 ⟨H.os,H.tape,H.out,H.size,fun b hb=>H.old b hb (by simp)⟩
section
variable {P:Program}{ren:Shelf.Ren}{w:World}{C:Cx}{ρ:View}{hs:List Hl}
theorem c_sort4(L:SlLaysF0.n6 P ren){f:FuncId}(hf:ren.f 6=f)(aE: ∀w,(isAgg (ren.t 24)).run P w= .ok true w)(zE: ∀w,(Go.sizeOf (ren.t 24)).run P w= .ok 4 w){g:FuncId}(eg: ∀args w,(callFunc g args).run P w= .ok (.enter g args) w)
 {cmp:S4→S4→Option Int} {v:Value} {c:List Value} {xs ys:List S4} (H:Hp C w ρ (Arr v 4 c::hs)) (hr:rdL e4 ρ xs c)
 (hc: ∀W,View.le ρ (hv W)→ ∀x y r,cmp x y=some r→Calls P g [.agg (raw4 x).toArray,.agg (raw4 y).toArray].toArray W (Rets fun u W'=>u= .int .i64 r∧Bel W W')) (hF:sortF cmp xs=some ys):
 Calls P f [v,.func (.func g) #[] [].toArray].toArray w (Rets fun u w'=>u= .tuple [].toArray∧rdL e4 ρ ys (ys.flatMap raw4)∧Hp C w' ρ (Arr v 4 (ys.flatMap raw4)::hs)):=by
 subst hf;obtain⟨⟨h1,h2,h3,h4,h5⟩,rfl⟩:=sortF_some hF;obtain rfl:=rdL4.1 hr;have hA:=H.all _ (List.mem_cons_self ..);have hl0:0<xs.length:=by cases xs with|nil=>exact absurd rfl h2|cons=>simp
 rcases hA with⟨rfl,hn⟩|⟨b,o,len,cap,cur,T,rfl,a1,a2,a3,a4,a5⟩
 ·exfalso;have:=congrArg List.length hn;rw[fm_len (k:=4) (fun _=>rfl)]at this;simp at this;omega
 rw[fm_len (k:=4) (fun _=>rfl)]at a1;have hlen:len=xs.length:=by omega
 subst hlen;have a4':w.heap[b]? =some (.cells cur T (0,0)):=a4;have hblk:b<w.heap.size:=lt_of_hv a4;rw[fm_raw h1,fm_len (k:=4) (fun _=>rfl)]at a5;have hb0:ρ b=none:=H.apart b (by rw[fps_cons];simp[Arr,vblk])
 have hH:HoldsK enc4 4 w b o xs.toArray:=by
  intro j hj;simp only[size_flatK,List.size_toArray]at hj
  have hg:cur[o+j]? =some ((flatK enc4 4 xs.toArray)[j]!):=by
   have h7:=congrArg (fun l:List Value=>l[j]?) a5;simp only[List.getElem?_take,List.getElem?_drop,if_pos hj,Array.getElem?_toList]at h7;rw[h7,←show xs.toArray.toList=xs from rfl,←flat4];rw[Array.getElem?_toList,Array.getElem?_eq_getElem (by simpa using hj),getElem!_pos _ _ (by simpa using hj)]
  refine⟨?_,?_⟩
  ·simp[World.cell?,a4',hg]
  simp[World.frozen?,a4']
 have hcmp:CmpLays P g #[] enc4 4 (cf4 cmp) b o xs.toArray.size w:=by
  intro m os dk hdk x y
  have hv0:View.le ρ (hv (sortWorldK enc4 4 w b o m dk os)):=by
   intro b' ob hb';have h8:=H.view b' ob hb';have hne:b≠b':=fun e=>by subst e;rw[hb0]at hb';cases hb'
   have hlt:=lt_of_hv h8;show(sortWorldK enc4 4 w b o m dk os).heap[b']? =some ob;simp only[sortWorldK,putRowK,grow,putRow,mapBlock];rw[Array.getElem?_append_left (by simpa using hlt),Array.getElem?_modify,if_neg hne];exact h8
  refine(hc _ hv0 (wr4 x) (wr4 y) _ (h4 x y)).mono fun e w' he=>?_;obtain⟨u,rfl,rfl,hb⟩:=he;exact⟨rfl,hb.grown⟩
 refine(AnyQ.slices_SortFunc_eq L 4 aE zE enc4 (fun _=>rfl) (fun x u hu=>by
  simp only[enc4,raw4,List.mem_cons,List.not_mem_nil,or_false]at hu;rcases hu with rfl|rfl|rfl|rfl<;>rfl) (cf4 cmp) h5 g #[] b o cap xs.toArray w eg hcmp hH hblk (by simpa using h3)).mono fun e w' he=>?_
 obtain⟨rfl,n,os,rfl⟩:=he;have hpm:=(pdq_sorts (ltOf (cf4 cmp)) h5 xs.toArray 0 xs.toArray.size (Lib.bitLen xs.toArray.size) true true (Nat.zero_le _) (Nat.le_refl _) (Or.inl rfl)).1.1;generalize pdq (ltOf (cf4 cmp)) xs.toArray 0 xs.toArray.size (Lib.bitLen xs.toArray.size) true true=d' at hpm hF ⊢;refine⟨_,rfl,rfl,rdL4.2 rfl,?_⟩;simp only[List.size_toArray]at hpm;have hfl:(d'.toList.map wr4).flatMap raw4=(flatK enc4 4 d').toList:=by rw[fm_wr,flat4]
 rw[hfl];refine H.upd (k:=0) (h':=Arr (.slice (some ⟨b,o,none⟩) xs.length cap) 4 (flatK enc4 4 d').toList) rfl rfl ⟨rfl,Nat.le_add_right _ _⟩ rfl (by simp[sortWorldK,putRowK,grow,putRow,mapBlock]) (fun b' hb' hn=>?_) (by simp[Arr,vblk]) (fun b' hb'=> .inl hb') (fun b' hb'=>?_) ?_
 ·have hne:b≠b':=fun e=>hn (by simp[Arr,vblk,e]);simp only[sortWorldK,putRowK,grow,putRow,mapBlock];rw[Array.getElem?_append_left (by simpa using hb'),Array.getElem?_modify,if_neg hne];rfl
 ·simp[Arr,vblk]at hb';subst hb';simp[sortWorldK,putRowK,grow,putRow,mapBlock];omega
 refine .inr ⟨b,o,xs.length,cap,putCells id o (flatK enc4 4 d') cur,T,rfl,by simp[hpm],a2,by simpa[putCells]using a3,?_,?_⟩
 ·show(sortWorldK enc4 4 w b o n d' os).heap[b]? =_;simp only[sortWorldK,putRowK,grow,putRow,mapBlock];rw[Array.getElem?_append_left (by simpa using hblk),Array.getElem?_modify,if_pos rfl];show Option.map _ w.heap[b]? =_;rw[a4'];rfl
 apply List.ext_getElem?;intro j;simp only[Array.length_toList,size_flatK,hpm,List.getElem?_take,List.getElem?_drop,Array.getElem?_toList];by_cases hj:j<xs.length*4
 ·rw[if_pos hj];have hc:o+j<cur.size:=by omega
  have hz:j<(flatK enc4 4 d').size:=by simp[hpm,hj]
  simp[putCells,Array.getElem?_eq_getElem hc,hpm,hj]
 rw[if_neg hj,Array.getElem?_eq_none (by simp[hpm];omega)]
end
end Go.Eng
namespace Go.Eng
open Go
abbrev iV(x:Int):Value:= .int .i64 x
abbrev uV(x:Int):Value:= .int .u64 x
abbrev pV(b k:Nat):Value:= .pointer (some ⟨b,k,none⟩)
theorem oi{α:Type _}{a b:α}(h:some a=some b):a=b:=Option.some.inj h
theorem J{α:Sort _}{a:α}:a=a:=rfl
section
variable {P:Program}{ops:Array Oper}{Q:Exit→Act→World→Prop}{n:FN}{E:Env}{w:World}{ro:Option Nat}{d:Option Tmp}{ty:TypeId}{pos:String}{af:Array Edge}
theorem qm{rest:List Oper}{x:Operand}{v:Value}(hx:ev E x=some v)(hd:inN n d=true)(h:WL P ops Q rest n (putE E d v) w):WL P ops Q (⟨d,.move x,ty,pos,af,none⟩::rest) n E w:=nq (Q_move hx) rfl hd h
theorem qa{x:Operand}{v:Value}{y:Code}(hx:ev E x=some v)(hd:inN n d=true)(h:CW ro P y Q n (putE E d v) w):WL P ops (Exit.then (y.wpIn (Fx ro) 0 P Q) Q) [⟨d,.assign x,ty,pos,af,none⟩] n E w:=nq (Q_assign hx) rfl hd (WL_nil (x_then h))
theorem sr{y:Code}{id:Nat}{l:List Oper}(h:WL P l.toArray (Exit.then (y.wpIn (Fx ro) 0 P Q) Q) l n E w)(hn:l.all nodef=true:=by kernel_rfl):CW ro P (.seq (.region id l.toArray false) y) Q n E w:=C_seq (R_nd h hn)
theorem xs{y:Code}{id:Nat}{l:List Oper}(h:WL P l.toArray (Exit.then (y.wpIn (Fx ro) 0 P Q) Q) l n E w)(hn:l.all nodef=true:=by kernel_rfl):XX (Exit.then ((Code.seq (.region id l.toArray false) y).wpIn (Fx ro) 0 P Q) Q) .normal n E w:=x_then (C_seq (R_nd h hn))
end
end Go.Eng
namespace Go.Eng
open Go
abbrev nS:Value:= .slice none 0 0
abbrev K5:=eI .i64
abbrev K4:=eI .u64
abbrev K6:=eL K5
abbrev K7:=eA 256 K5
abbrev K8:=eP K4 (eP K4 (eP K4 K4))
abbrev K9:=eP K6 (eP K8 (eP K5 K5))
abbrev sV(b k l c:Nat):Value:= .slice (some ⟨b,k,none⟩) l c
abbrev ln{α:Type _}(l:List α):Int:=l.length
abbrev vR{ρ:View}:=View.le_refl ρ
abbrev LI:=List Int
theorem Om{p:Prop}(h:p:=by omega):p:=h
theorem mm{α:Type _}{a b:α}{l:List α}(h:a∈l):a∈b::l:=List.mem_cons_of_mem _ h
theorem ms{α:Type _}{a:α}{l:List α}:a∈a::l:=List.mem_cons_self ..
theorem tF{P:Program}{f:FuncId}{fn:Func}{c:Code}(h:P.funcs[f]? =some fn)(hn:(fn.name== "runtime.NumGoroutine")=false:=by kernel_rfl)(hb:fn.body=some c:=by exact rfl):HasFn P f:=⟨fn,c,h,hn,hb⟩
theorem tK{P:Program}{T:TypeId}{n bytes:Nat}{zero:Value}{agg:Bool}(h1:(P.info? T).map (fun i=>(i.size,i.bytes,i.zero))=some (n,bytes,some zero):=by kernel_rfl)(h2:(P.underlying T).map (fun d=>match d with| .struct _| .array _ _=>true|_=>false)=some agg:=by kernel_rfl):Ty P T n bytes zero agg:=⟨h1,h2⟩
theorem Dc{p:Prop}(h:p:=by decide):p:=h
theorem Sm{p:Prop}(h:p:=by simp):p:=h
theorem fJ{β:Sort _}{α:Sort _}{f:β→α}: ∀x,f x=f x:=fun _=>rfl
theorem nM{p:Prop}:true=false→p:=fun h=>nomatch h
theorem Fr.sb{n:FN}{a:Act}{E E':Env}(h:Fr n a E)(hs:subE E' E:=by repeat (first|exact trivial|refine⟨rfl,?_⟩)):Fr n a E':=h.sub hs
theorem Ci{P:Program}{Q:Exit→Act→World→Prop}{n:FN}{E:Env}{w:World}{ro:Option Nat}{c:Operand}{b:Bool}{x y:Code}{α:Type}{X Y Z:Option α}(hF:(if b=true then X else Y)=Z)(hc:ev E c=some (.bool b))(h1:X=Z→CW ro P x Q n E w)(h2:Y=Z→CW ro P y Q n E w):CW ro P (.cond c x y) Q n E w:=C_cond hc (fun hb=>h1 (itT hb hF)) (fun hb=>h2 (itF hb hF))
section
variable {P:Program}{ops:Array Oper}{Q:Exit→Act→World→Prop}{n:FN}{E:Env}{w:World}{ro:Option Nat}{d:Option Tmp}{ins:Op}{ty:TypeId}{pos:String}{af:Array Edge}{rest:List Oper}{v:Value}{post:Value→World→Prop}{S:World→Prop}{r:Ord}{i j:Nat}{b:Bool}
theorem nQ(hq:Qv P E ⟨d,ins,ty,pos,af,none⟩ v w)(h:WL P ops Q rest n (putE E d v) w)(hd:inN n d=true:=by exact rfl):WL P ops Q (⟨d,ins,ty,pos,af,none⟩::rest) n E w:=nq hq rfl hd h
theorem nE(he:Eff P E ⟨d,ins,ty,pos,af,none⟩ w post)(h: ∀v w',post v w'→WL P ops Q rest n (putE E d v) w')(hd:inN n d=true:=by exact rfl):WL P ops Q (⟨d,ins,ty,pos,af,none⟩::rest) n E w:=ne he rfl hd h
theorem gQ(hq:Qv P E ⟨d,ins,ty,pos,af,some (j,b)⟩ v w)(h:WL P ops Q rest n (putE E d v) w)(hj:gd ops E j=some b:=by exact rfl)(hd:inN n d=true:=by exact rfl):WL P ops Q (⟨d,ins,ty,pos,af,some (j,b)⟩::rest) n E w:=gq hq rfl hj hd h
theorem gE(he:Eff P E ⟨d,ins,ty,pos,af,some (j,b)⟩ w post)(h: ∀v w',post v w'→WL P ops Q rest n (putE E d v) w')(hj:gd ops E j=some b:=by exact rfl)(hd:inN n d=true:=by exact rfl):WL P ops Q (⟨d,ins,ty,pos,af,some (j,b)⟩::rest) n E w:=ge he rfl hj hd h
theorem gS(h:WL P ops Q rest n (putE E d undef) w)(hj:gd ops E j=some (!b):=by exact rfl)(hd:inN n d=true:=by exact rfl):WL P ops Q (⟨d,ins,ty,pos,af,some (j,b)⟩::rest) n E w:=gs rfl hj (by cases b<;>rfl) hd h
theorem qM{x:Operand}(hx:ev E x=some v)(h:WL P ops Q rest n (putE E d v) w)(hd:inN n d=true:=by exact rfl):WL P ops Q (⟨d,.move x,ty,pos,af,none⟩::rest) n E w:=nq (Q_move hx) rfl hd h
theorem qA{x:Operand}{y:Code}(hx:ev E x=some v)(h:CW ro P y Q n (putE E d v) w)(hd:inN n d=true:=by exact rfl):WL P ops (Exit.then (y.wpIn (Fx ro) 0 P Q) Q) [⟨d,.assign x,ty,pos,af,none⟩] n E w:=qa hx hd h
theorem wt{y:Code}(h:CW ro P y Q n E w):WL P ops (Exit.then (y.wpIn (Fx ro) 0 P Q) Q) [] n E w:=WL_nil (x_then h)
theorem dQ(hi:ops[i]? =some ⟨d,ins,ty,pos,af,none⟩)(hq: ∀w',S w'→Qv P E ⟨d,ins,ty,pos,af,none⟩ v w')(h:DL P ops S Q r n (putE E d v) w)(hd:inN n d=true:=by exact rfl):DL P ops S Q (.take i r) n E w:=dq hi hq rfl hd h
theorem dE(hi:ops[i]? =some ⟨d,ins,ty,pos,af,none⟩)(he:Eff P E ⟨d,ins,ty,pos,af,none⟩ w post)(h: ∀v w',post v w'→S w'∧DL P ops S Q r n (putE E d v) w')(hd:inN n d=true:=by exact rfl):DO P ops S Q i r n E w:=de hi he rfl hd h
theorem dB{K:Option Nat}(hi:ops[i]? =some ⟨d,ins,ty,pos,af,none⟩)(he:Eff P E ⟨d,ins,ty,pos,af,none⟩ w post)(h: ∀v w',post v w'→ ∃S',S' w'∧DL P ops S' Q r n (putE E d v) w')(hd:inN n d=true:=by exact rfl):DL P ops S Q (.bar i K r) n E w:=db hi he rfl hd h
theorem fc{f:FuncId}{fn:Func}{c:Code}{args:List Value}{R:Ending→World→Prop}(n:Nat)(hf:P.funcs[f]? =some fn)(hb:fn.body=some c)(h:CW none P c (bodyPost P fn R) (FN.of n) (argE 0 args) w)(hnt:fn.ntmps=n:=by exact rfl)(hn:args.length≤n:=by simp):Calls P f args.toArray w R:=fn_calls' hf hb hnt hn h
end
end Go.Eng
