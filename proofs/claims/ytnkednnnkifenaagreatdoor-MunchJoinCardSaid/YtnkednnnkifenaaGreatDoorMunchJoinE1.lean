import Derived.Carry
import Derived.Deep.AppendSrc
import Derived.Deep.Slices
import Derived.Deep.Upon
import Derived.FnData
import Derived.Great.BuildSlice
import Derived.Great.FillDense
import Derived.KernelRfl
import Derived.LaidLaws
import Derived.Laws.AppendOwn
import Derived.Laws.BytesString
import Derived.Laws.Externs
import Derived.Laws.MakeOwn
import Derived.Laws.StructEq
import Derived.Lib.ConvBytes
import Derived.Lib.LaidTab
import Derived.Lib.SmallJoins
import Derived.LoopNIn
import Derived.MapKept
import Derived.OpenShut
import Derived.OrdersHeld
import Derived.OrdersIn
import Derived.RangeFuncIn
import Derived.RangeFuncLeaves
import Derived.RangeFuncSeq
import Derived.Shelf.Slices.In.SortNone
import Derived.Shelf.Sort.Plain
import Derived.Test.YtnkednnnkifenaaGreatDoorRows
import Derived.WalkKit
import GoSem.Extern.BytealgCount
import GoSem.Extern.BytealgIndexByte
abbrev Go.Eng.BA:=ByteArray
namespace Go.Eng
open Go
abbrev Env:=List (Nat×Value)
def look:Env→Nat→Option Value
 | [],_=>none
 |(j,v)::r,k=>bif Nat.beq j k then some v else look r k
def ev(E:Env):Operand→Option Value
 | .tmp t=>look E t
 | .const v=>some v
 | .global g=>some (.pointer (some ⟨g,0,none⟩))
 | .func f=>some (.func (.func f) #[] #[])
def evs(E:Env):List Operand→Option (List Value)
 | []=>some []
 |x::r=>match ev E x,evs E r with
   |some v,some vs=>some (v::vs)
   |_,_=>none
structure FN where
 n:Nat
 ds:List Nat
instance (k:Nat):OfNat FN k:=⟨⟨k,[]⟩⟩
@[reducible] def FN.of(k:Nat):FN:=⟨k,[]⟩
def marks(l:List Nat):List Deferred:=l.map fun D=>{target:= .collected D,args:= #[]}
structure Fr(n:FN)(a:Act)(E:Env):Prop where
 size:a.tmps.size=n.n
 defers:a.defers=marks n.ds
 slots: ∀k v,look E k=some v→a.tmps.getD k undef=v
theorem look_cons{j k:Nat}{v:Value}{E:Env}:look ((j,v)::E) k=if j=k then some v else look E k:=by
 simp only[look];by_cases h:j=k
 ·subst h;simp
 have:Nat.beq j k=false:=by
  cases hb:Nat.beq j k with
  |false=>rfl
  |true=>exact absurd (Nat.eq_of_beq_eq_true hb) h
 simp[this,h]
theorem Fr.eval{n:FN}{a:Act}{E:Env}(h:Fr n a E){x:Operand}{v:Value}(hx:ev E x=some v):a.eval x=v:=by
 cases x with
 |tmp t=>exact h.slots t v hx
 |const c=>exact Option.some.inj hx
 |global g=>exact Option.some.inj hx
 |func f=>exact Option.some.inj hx
theorem Fr.evals{n:FN}{a:Act}{E:Env}(h:Fr n a E): ∀{l:List Operand} {vs:List Value},evs E l=some vs→l.map a.eval=vs
 | [],vs,hx=>by simpa[evs]using hx
 |x::r,vs,hx=>by
   simp only[evs]at hx
   cases hv:ev E x with
   |none=>simp[hv]at hx
   |some v=>
     cases hr:evs E r with
     |none=>simp[hv,hr]at hx
     |some us=>
       simp[hv,hr]at hx;subst hx;simp[h.eval hv,h.evals hr]
theorem Fr.put{n:FN}{a:Act}{E:Env}(h:Fr n a E){d:Nat}(hd:d<n.n)(v:Value):Fr n (a.put (some d) v) ((d,v)::E) where
 size:=by simp[Act.put,h.size]
 defers:=h.defers
 slots:=by
  intro k u hk;rw[look_cons]at hk;simp only[Act.put];by_cases e:d=k
  ·subst e;simp at hk;subst hk;have:d<a.tmps.size:=by rw[h.size];exact hd
   simp[this]
  rw[if_neg e]at hk;have h1:=h.slots k u hk;simp only[Array.getD_eq_getD_getElem?]at h1 ⊢;rw[Array.getElem?_setIfInBounds_ne e];exact h1
def subE:Env→Env→Prop
 | [],_=>True
 |(k,v)::r,E=>look E k=some v∧subE r E
theorem subE.look: ∀{E' E:Env},subE E' E→ ∀k v,look E' k=some v→look E k=some v
 | [],_,_,_,_,h=>by simp[Eng.look]at h
 |(j,u)::r,E,hs,k,v,h=>by
   rw[look_cons]at h;by_cases e:j=k
   ·subst e;simp at h;subst h;exact hs.1
   rw[if_neg e]at h;exact subE.look hs.2 k v h
theorem Fr.sub{n:FN}{a:Act}{E E':Env}(h:Fr n a E)(hs:subE E' E):Fr n a E':=
 ⟨h.size,h.defers,fun k v hk=>h.slots k v (hs.look k v hk)⟩
section
variable {P:Program}{ops:Array Oper}{Q:Exit→Act→World→Prop}{n:FN}{E:Env}{w:World}{ro:Option Nat}
@[reducible] def Fx(ro:Option Nat):Fence:={fn:=fun _=>True,depth:=none,alive:=false,round:=ro}
def nodef(o:Oper):Bool:=match o.op with| .defer _=>false|_=>true
theorem nodef_ne{o:Oper}(h:nodef o=true)(c:Call):o.op≠ .defer c:=fun e=>by simp[nodef,e]at h
theorem wide_of_wp{o:Oper}{a:Act}{K:Act→World→Prop}(h:o.wp P a w K Q):o.wpIn Fence.wide 0 P a w K Q:=by
 refine⟨fun _ _=>trivial,?_⟩;unfold Oper.wp at h;show o.uponIn Fence.wide 0 P a K Q ((execOp a.eval o).run P w);generalize(execOp a.eval o).run P w=r at h
 cases r with
 |ok x w'=>
   cases x<;>simp only[Oper.upon,Oper.uponIn]at h ⊢ <;>first
    |exact h
    |exact⟨fun hd=>by simp[Fence.wide]at hd,callsIn_wide.2 h⟩
    |exact⟨fun hd=>by simp[Fence.wide]at hd,fun c cs _=>by obtain⟨v,w'',hr,hs⟩:=h c cs;exact⟨v,w'',hr,stepsIn_wide.2 hs⟩⟩
 |halt x w'=>cases x<;>simp only[Oper.upon,Oper.uponIn]at h ⊢ <;>exact h
theorem fx_of_wide{o:Oper}{a:Act}{K:Act→World→Prop}(hn:nodef o=true)(h:o.wpIn Fence.wide 0 P a w K Q):o.wpIn (Fx ro) 0 P a w K Q:=by
 refine⟨fun _ _=>trivial,?_⟩;have h2:=h.2;rw[Oper.semAt_eq _ _ _ (nodef_ne hn)]at h2 ⊢;generalize(execOp a.eval o).run P w=r at h2
 cases r with
 |ok x w'=>
   cases x<;>simp only[Oper.uponIn]at h2 ⊢ <;>first
    |exact h2
    |exact⟨fun hd=>by cases hd,h2.2⟩
 |halt x w'=>cases x<;>simp only[Oper.uponIn]at h2 ⊢ <;>exact h2
theorem listFx: ∀{l:List Oper} {a:Act} {w:World},l.all nodef=true→wpListIn Fence.wide 0 P ops Q l a w→wpListIn (Fx ro) 0 P ops Q l a w
 | [],_,_,_,h=>h
 |o::rest,a,w,hn,h=>by
   simp only[List.all_cons,Bool.and_eq_true]at hn;simp only[wpListIn]at h ⊢;split
   ·rename_i hw;rw[if_pos hw]at h;exact fx_of_wide hn.1 (Oper.wpIn_mono (fun a w hh=>listFx hn.2 hh) h)
   rename_i hw;rw[if_neg hw]at h;exact⟨fun _ _=>trivial,listFx hn.2 h.2⟩
theorem opWide(hL: ¬LetsOut Q){i:Nat}{K K':Act→World→Prop}{a:Act}{w:World}(hk: ∀a w,K a w→K' a w)(h:wpOp P ops Q i K a w):wpOpIn Fence.wide 0 P ops Q i K' a w:=by
 unfold wpOp at h;unfold wpOpIn
 cases ho:ops[i]? with
 |none=>rw[ho]at h;exact hk _ _ h
 |some o=>
   rw[ho]at h;simp only at h ⊢;split
   ·rename_i hw;rw[if_pos hw]at h;rcases h with h|h
    ·exact wide_of_wp (Oper.wp_mono hk h)
    exact absurd h.2 hL
   rename_i hw;rw[if_neg hw]at h;exact⟨fun _ _=>trivial,hk _ _ h⟩
theorem anyFx{md:Region.Mode}(hn: ∀(i:Nat) (o:Oper),ops[i]? =some o→nodef o=true): ∀(f:Nat) (L:Array Bool) (a:Act) (w:World),wpAnyIn Fence.wide 0 P md ops Q f L a w→wpAnyIn (Fx ro) 0 P md ops Q f L a w:=by
 have key: ∀(i:Nat) (K K':Act→World→Prop) (a:Act) (w:World),(∀a w,K a w→K' a w)→wpOpIn Fence.wide 0 P ops Q i K a w→wpOpIn (Fx ro) 0 P ops Q i K' a w:=by
  intro i K K' a w hk h;unfold wpOpIn at h ⊢
  cases ho:ops[i]? with
  |none=>rw[ho]at h;exact hk _ _ h
  |some o=>
    rw[ho]at h;simp only at h ⊢;split
    ·rename_i hw;rw[if_pos hw]at h;exact fx_of_wide (hn i o ho) (Oper.wpIn_mono hk h)
    rename_i hw;rw[if_neg hw]at h;exact⟨fun _ _=>trivial,hk _ _ h.2⟩
 intro f
 induction f with
 |zero=>intro L a w h;exact h
 |succ f ih=>
   intro L a w h;exact⟨h.1,fun i hi=>key i _ _ a w (fun a' w' hh=>ih _ a' w' hh) (h.2 i hi)⟩
def WL(P:Program)(ops:Array Oper)(Q:Exit→Act→World→Prop)(l:List Oper)(n:FN)(E:Env)(w:World):Prop:=
 ∀a,Fr n a E→wpListIn Fence.wide 0 P ops Q l a w
def CW(ro:Option Nat)(P:Program)(c:Code)(Q:Exit→Act→World→Prop)(n:FN)(E:Env)(w:World):Prop:=
 ∀a,Fr n a E→c.wpIn (Fx ro) 0 P Q a w
def XX(Q:Exit→Act→World→Prop)(e:Exit)(n:FN)(E:Env)(w:World):Prop:=
 ∀a,Fr n a E→Q e a w
def Qv(P:Program)(E:Env)(o:Oper)(v:Value)(w:World):Prop:=
 ∀n a,Fr n a E→(execOp a.eval o).run P w= .ok (.value v) w
def Eff(P:Program)(E:Env)(o:Oper)(w:World)(post:Value→World→Prop):Prop:=
 ∀n a,Fr n a E→ ∀(K:Act→World→Prop) (Q:Exit→Act→World→Prop),(∀v w',post v w'→K (a.put o.dst v) w')→o.wp P a w K Q
def putE(E:Env):Option Nat→Value→Env
 |some d,v=>(d,v)::E
 |none,_=>E
def inN(n:FN):Option Nat→Bool
 |some d=>Nat.blt d n.n
 |none=>true
theorem Fr.putE{a:Act}(h:Fr n a E){d:Option Nat}(hd:inN n d=true)(v:Value):Fr n (a.put d v) (putE E d v):=by
 cases d with
 |none=>exact h
 |some d=>exact h.put (by simpa[inN]using hd) v
theorem WL_nil(h:XX Q .normal n E w):WL P ops Q [] n E w:=h
theorem nq{o:Oper}{rest:List Oper}{v:Value}(hq:Qv P E o v w)(hg:o.guard=none)(hd:inN n o.dst=true)(h:WL P ops Q rest n (putE E o.dst v) w):WL P ops Q (o::rest) n E w:=
 fun a hf=>wpListIn_plain hg fun K hK=>wide_of_wp (by
  unfold Oper.wp;rw[hq n a hf];exact hK _ _ (h _ (hf.putE hd v)))
theorem ne{o:Oper}{rest:List Oper}{post:Value→World→Prop}(he:Eff P E o w post)(hg:o.guard=none)(hd:inN n o.dst=true)
 (h: ∀v w',post v w'→WL P ops Q rest n (putE E o.dst v) w'):WL P ops Q (o::rest) n E w:=
 fun a hf=>wpListIn_plain hg fun K hK=>wide_of_wp (he n a hf K Q fun v w' hp=>hK _ _ (h v w' hp _ (hf.putE hd v)))
def EffI(P:Program)(E:Env)(o:Oper)(w:World)(post:Value→World→Prop):Prop:=
 ∀n a,Fr n a E→ ∀(K:Act→World→Prop) (Q:Exit→Act→World→Prop),(∀v w',post v w'→K (a.put o.dst v) w')→o.wpIn Fence.wide 0 P a w K Q
theorem neI{o:Oper}{rest:List Oper}{post:Value→World→Prop}(he:EffI P E o w post)(hg:o.guard=none)(hd:inN n o.dst=true)
 (h: ∀v w',post v w'→WL P ops Q rest n (putE E o.dst v) w'):WL P ops Q (o::rest) n E w:=
 fun a hf=>wpListIn_plain hg fun K hK=>he n a hf K Q fun v w' hp=>hK _ _ (h v w' hp _ (hf.putE hd v))
def gd(ops:Array Oper)(E:Env)(j:Nat):Option Bool:=
 match(ops[j]?).bind (·.dst)with
 |some d=>match look E d with
   |some (.bool b)=>some b
   |_=>none
 |none=>none
theorem gd_yielded{a:Act}(hf:Fr n a E){j:Nat}{b:Bool}(h:gd ops E j=some b):yielded ops a.tmps j=some b:=by
 unfold gd at h;unfold yielded
 cases hd:(ops[j]?).bind (·.dst)with
 |none=>simp[hd]at h
 |some d=>
   simp only[hd]at h
   cases hl:look E d with
   |none=>simp[hl]at h
   |some v=>
     have:=hf.slots d v hl;cases v<;>simp[hl]at h;subst h;simp only[Array.getD_eq_getD_getElem?]at this
     cases ho:ops[j]? with
     |none=>simp[ho]at hd
     |some o=>
       simp[ho]at hd;simp only[Option.bind_some]
       cases ht:a.tmps[d]? with
       |none=>simp[ht]at this;simp[undef]at this
       |some u=>simp[ht]at this;subst this;rfl
theorem gq{o:Oper}{rest:List Oper}{v:Value}{j:Nat}{b:Bool}(hq:Qv P E o v w)(hg:o.guard=some (j,b))(hj:gd ops E j=some b)(hd:inN n o.dst=true)(h:WL P ops Q rest n (putE E o.dst v) w):WL P ops Q (o::rest) n E w:=
 fun a hf=>wpListIn_step fun K hK=>by
  have hw:Region.wanted o (yielded ops a.tmps)=true:=by simp[Region.wanted,hg,gd_yielded hf hj]
  rw[if_pos hw];refine wide_of_wp ?_;unfold Oper.wp;rw[hq n a hf];exact hK _ _ (h _ (hf.putE hd v))
theorem ge{o:Oper}{rest:List Oper}{post:Value→World→Prop}{j:Nat}{b:Bool}(he:Eff P E o w post)(hg:o.guard=some (j,b))(hj:gd ops E j=some b)(hd:inN n o.dst=true)
 (h: ∀v w',post v w'→WL P ops Q rest n (putE E o.dst v) w'):WL P ops Q (o::rest) n E w:=
 fun a hf=>wpListIn_step fun K hK=>by
  have hw:Region.wanted o (yielded ops a.tmps)=true:=by simp[Region.wanted,hg,gd_yielded hf hj]
  rw[if_pos hw];exact wide_of_wp (he n a hf K Q fun v w' hp=>hK _ _ (h v w' hp _ (hf.putE hd v)))
theorem gs{o:Oper}{rest:List Oper}{j:Nat}{b c:Bool}(hg:o.guard=some (j,b))(hj:gd ops E j=some c)(hbc:(b != c)=true)(hd:inN n o.dst=true)(h:WL P ops Q rest n (putE E o.dst undef) w):WL P ops Q (o::rest) n E w:=
 fun a hf=>wpListIn_step fun K hK=>by
  have hw:Region.wanted o (yielded ops a.tmps)=false:=by
   simp[Region.wanted,hg,gd_yielded hf hj];intro e;subst e;simp at hbc
  rw[if_neg (by simp[hw])];exact⟨fun _ _=>trivial,hK _ _ (h _ (hf.putE hd _))⟩
theorem R_nd{id:Nat}{l:List Oper}(h:WL P l.toArray Q l n E w)(hn:l.all nodef=true:=by kernel_rfl):CW ro P (.region id l.toArray false) Q n E w:=
 fun a hf=>wpIn_region_lit (listFx hn (h a hf))
inductive Ord where
 |done
 |take (i:Nat) (r:Ord)
 |one (i:Nat) (r:Ord)
 |two (i j:Nat) (r s:Ord)
 |three (i j k:Nat) (r s t:Ord)
 |bar (i:Nat) (K:Option Nat) (r:Ord)
def anc(ops:Array Oper):Nat→Nat→Nat→Bool
 |0,_,_=>false
 |f+1,k,i=>match ops[k]? with
   |none=>false
   |some o=>o.after.toList.any fun e=>Region.binds .any e&&(e.on==i||anc ops f e.on i)
def bfr(ops:Array Oper)(K:Option Nat)(i:Nat):Bool:=match K with
 |none=>true
 |some k=>i != k&&anc ops ops.size k i
def notK(K:Option Nat)(i:Nat):Bool:=match K with
 |none=>true
 |some k=>i != k
def isK(K:Option Nat)(i:Nat):Bool:=match K with
 |none=>false
 |some k=>i==k
def Ord.ok(ops:Array Oper):Ord→Nat→Array Bool→Option Nat→Bool
 | .done,f,L,_=>(Region.ready .any ops L).isEmpty&&f==0
 | .take i r,f+1,L,K=>(Region.ready .any ops L).contains i&&Region.free .any ops L i&&bfr ops K i&&r.ok ops f (L.setIfInBounds i true) K
 | .one i r,f+1,L,K=>Region.ready .any ops L== [i]&&notK K i&&r.ok ops f (L.setIfInBounds i true) K
 | .two i j r s,f+1,L,K=>Region.ready .any ops L== [i,j]&&notK K i&&notK K j&&r.ok ops f (L.setIfInBounds i true) K&&s.ok ops f (L.setIfInBounds j true) K
 | .three i j k r s t,f+1,L,K=>Region.ready .any ops L== [i,j,k]&&notK K i&&notK K j&&notK K k&&r.ok ops f (L.setIfInBounds i true) K&&s.ok ops f (L.setIfInBounds j true) K&&t.ok ops f (L.setIfInBounds k true) K
 | .bar i K' r,f+1,L,K=>Region.ready .any ops L== [i]&&isK K i&&r.ok ops f (L.setIfInBounds i true) K'
 |_,0,_,_=>false
def dOp(P:Program)(ops:Array Oper)(S:World→Prop)(Q:Exit→Act→World→Prop)(i:Nat)(K:Act→World→Prop)(a:Act)(w:World):Prop:=
 ∃o,ops[i]? =some o∧if Region.wanted o (yielded ops a.tmps)then o.wp P a w (fun a' w'=>S w'∧K a' w') Q else K (a.put o.dst undef) w
def bOp(P:Program)(ops:Array Oper)(Q:Exit→Act→World→Prop)(i:Nat)(K:Act→World→Prop)(a:Act)(w:World):Prop:=
 ∃o,ops[i]? =some o∧if Region.wanted o (yielded ops a.tmps)then o.wpIn Fence.wide 0 P a w K Q else K (a.put o.dst undef) w
def tOp(P:Program)(ops:Array Oper)(S:World→Prop)(i:Nat)(K:Act→World→Prop)(a:Act)(w:World):Prop:=
 ∃o,ops[i]? =some o∧if Region.wanted o (yielded ops a.tmps)then∃v,(∀w',S w'→(execOp a.eval o).run P w'= .ok (.value v) w')∧K (a.put o.dst v) w else K (a.put o.dst undef) w
def DLa(P:Program)(ops:Array Oper)(Q:Exit→Act→World→Prop):Ord→(World→Prop)→Act→World→Prop
 | .done,_,a,w=>Q .normal a w
 | .take i r,S,a,w=>tOp P ops S i (DLa P ops Q r S) a w
 | .one i r,S,a,w=>dOp P ops S Q i (DLa P ops Q r S) a w
 | .two i j r s,S,a,w=>dOp P ops S Q i (DLa P ops Q r S) a w∧dOp P ops S Q j (DLa P ops Q s S) a w
 | .three i j k r s t,S,a,w=>dOp P ops S Q i (DLa P ops Q r S) a w∧dOp P ops S Q j (DLa P ops Q s S) a w∧dOp P ops S Q k (DLa P ops Q t S) a w
 | .bar i _ r,_,a,w=>bOp P ops Q i (fun a' w'=> ∃S':World→Prop,S' w'∧DLa P ops Q r S' a' w') a w
theorem dOp_wpOp{S:World→Prop}{i:Nat}{K K':Act→World→Prop}{a:Act}{w:World}(hS:S w)(hk: ∀a w,S w→K a w→K' a w)(h:dOp P ops S Q i K a w):
 wpOp P ops Q i (fun a' w'=>S w'∧K' a' w') a w:=by
 obtain⟨o,ho,h⟩:=h;unfold wpOp;simp only[ho];split
 ·rename_i hw;simp only[hw,if_true]at h;exact .inl (Oper.wp_mono (fun a' w' hh=>⟨hh.1,hk _ _ hh.1 hh.2⟩) h)
 rename_i hw;simp only[hw]at h;exact⟨hS,hk _ _ hS h⟩
theorem bOp_wpOp{i:Nat}{K K':Act→World→Prop}{a:Act}{w:World}(hk: ∀a w,K a w→K' a w)(h:bOp P ops Q i K a w):
 wpOpIn Fence.wide 0 P ops Q i K' a w:=by
 obtain⟨o,ho,h⟩:=h;unfold wpOpIn;simp only[ho];split
 ·rename_i hw;simp only[hw,if_true]at h;exact Oper.wpIn_mono hk h
 rename_i hw;simp only[hw]at h;exact⟨fun _ _=>trivial,hk _ _ h⟩
def Wf(ops:Array Oper)(L:Array Bool):Prop:= ∀(j:Nat) (o:Oper),ops[j]? =some o→L.getD j false=true→ ∀e∈o.after,Region.binds .any e=true→L.getD e.on false=true
theorem Wf.init(n:Nat):Wf ops (Array.replicate n false):=fun j o _ h=>by
 exfalso;simp[Array.getD_eq_getD_getElem?,Array.getElem?_replicate]at h;split at h<;>simp at h
theorem Wf.set{L:Array Bool}{j:Nat}(hL:Wf ops L)(hj:j∈Region.ready .any ops L):Wf ops (L.setIfInBounds j true):=fun j' o' ho' h e he hb=>by
 refine getD_set_true ?_;by_cases hjj:j=j'
 ·subst hjj;obtain⟨_,o,ho,hall⟩:=mem_ready.1 hj;obtain rfl:=Option.some.inj (ho.symm.trans ho');exact hall e he hb
 exact hL j' o' ho' (by rw[getD_set_ne false hjj]at h;exact h) e he hb
theorem anc_sound{L:Array Bool}(hL:Wf ops L): ∀(f k i:Nat) (ok:Oper),ops[k]? =some ok→(∀e∈ok.after,Region.binds .any e=true→L.getD e.on false=true)→anc ops f k i=true→L.getD i false=true
 |0,_,_,_,_,_,h=>by simp[anc]at h
 |f+1,k,i,ok,hk,hall,h=>by
   simp only[anc,hk,List.any_eq_true,Bool.and_eq_true,Bool.or_eq_true,beq_iff_eq]at h;obtain⟨e,he,hb,h⟩:=h;have h1:=hall e (by simpa using he) hb;rcases h with rfl|h
   ·exact h1
   cases he':ops[e.on]? with
   |none=>cases f<;>simp[anc,he']at h
   |some o2=>exact anc_sound hL f e.on i o2 he' (fun e2 h2 hb2=>hL e.on o2 he' h1 e2 h2 hb2) h
def wpAnyB(P:Program)(ops:Array Oper)(Q:Exit→Act→World→Prop)(S:World→Prop)(K:Option Nat):Nat→Array Bool→Act→World→Prop
 |0,L,a,w=>Region.ready .any ops L= []∧Q .normal a w
 |f+1,L,a,w=>(Region.ready .any ops L= []→Q .normal a w)∧
   ∀i∈Region.ready .any ops L,if isK K i=true then wpOpIn Fence.wide 0 P ops Q i (wpAnyIn Fence.wide 0 P .any ops Q f (L.setIfInBounds i true)) a w else wpOp P ops Q i (fun a' w'=>S w'∧wpAnyB P ops Q S K f (L.setIfInBounds i true) a' w') a w
theorem wpAny_of_B{S:World→Prop}{K:Option Nat}(hL: ¬LetsOut Q): ∀(f:Nat) (L:Array Bool) (a:Act) (w:World),wpAnyB P ops Q S K f L a w→wpAnyIn Fence.wide 0 P .any ops Q f L a w
 |0,_,_,_,h=>h
 |f+1,L,_,_,h=>⟨h.1,fun i hi=>by
     have h2:=h.2 i hi;by_cases hk:isK K i=true
     ·rw[if_pos hk]at h2;exact h2
     rw[if_neg hk]at h2;exact opWide hL (fun a' w' h'=>wpAny_of_B hL f _ a' w' h'.2) h2⟩
theorem bfr_notK{K:Option Nat}{i:Nat}(h:bfr ops K i=true):isK K i=false:=by
 cases K with
 |none=>rfl
 |some k=>
   simp only[bfr,Bool.and_eq_true,bne_iff_ne]at h;simp[isK,h.1]
theorem notK_isK{K:Option Nat}{i:Nat}(h:notK K i=true):isK K i=false:=by
 cases K with
 |none=>rfl
 |some k=>
   simp only[notK,bne_iff_ne]at h;simp[isK,h]
theorem wpAnyB_first{S:World→Prop}{K:Option Nat}{i:Nat}{oi:Oper}{v:Value}(hi:ops[i]? =some oi)(hsel: ∀(j:Nat) (o:Oper) cs b,ops[j]? =some o→o.op≠ .select cs b)
 (hQ: ∀c a w,Q (.panic c) (a.put oi.dst v) w→Q (.panic c) a w) (hb:bfr ops K i=true):
 ∀(f:Nat) (L:Array Bool) (a:Act) (w:World),
   (∀j oj,ops[j]? =some oj→j≠i→L.getD j true=false→(∀e∈oj.after,Region.binds .any e=true→e.on≠i)→oi.apart ops oj=true)→
   i∈Region.ready .any ops L→Wf ops L→YieldsIf P ops S oi v a→S w→
   wpAnyB P ops Q S K f (L.setIfInBounds i true) (a.put oi.dst v) w→wpAnyB P ops Q S K (f+1) L a w:=by
 intro f
 induction f with
 |zero=>
   intro L a w _ hr _ hy hS H;refine⟨fun h=>(by rw[h]at hr;cases hr),fun j hj=>?_⟩;by_cases hji:j=i
   ·subst hji;rw[if_neg (by simp[bfr_notK hb])];exact hy.wpOp hi hS ⟨hS,H⟩
   have:=ready_mono hj hji;rw[H.1]at this;cases this
 |succ f ih=>
   intro L a w hfree hr hwf hy hS H;refine⟨fun h=>(by rw[h]at hr;cases hr),fun j hj=>?_⟩;by_cases hji:j=i
   ·subst hji;rw[if_neg (by simp[bfr_notK hb])];exact hy.wpOp hi hS ⟨hS,H⟩
   have h1:=H.2 j (ready_mono hj hji);obtain⟨hjun,oj,hoj,hall⟩:=mem_ready.1 hj;have h0:=(mem_ready.1 hr).1
   have hnot: ∀e∈oj.after,Region.binds .any e=true→e.on≠i:=fun e he hb heq=>by
    have h1:=hall e he hb;rw[heq]at h1;rcases Nat.lt_or_ge i L.size with h'|h'
    ·simp[h']at h0 h1;rw[h0]at h1;cases h1
    simp[Array.getElem?_eq_none h']at h1
   have hK:isK K j=false:=by
    cases hc:isK K j with
    |false=>rfl
    |true=>
      exfalso
      cases K with
      |none=>simp[isK]at hc
      |some k=>
        simp only[isK,beq_iff_eq]at hc;subst hc;simp only[bfr,Bool.and_eq_true]at hb;have h1:=anc_sound hwf _ _ _ _ hoj hall hb.2;rcases Nat.lt_or_ge i L.size with h'|h'
        ·simp[h']at h0 h1;rw[h0]at h1;cases h1
        simp[Array.getElem?_eq_none h']at h1
   rw[if_neg (by simp[hK])]at h1 ⊢;have h2:=wpOp_putIf hoj (hfree j oj hoj hji hjun hnot) (fun cs b=>hsel i oi cs b hi) (fun cs b=>hsel j oj cs b hoj) hQ hy h1
   have hfree': ∀k ok,ops[k]? =some ok→k≠i→(L.setIfInBounds j true).getD k true=false→
    (∀e∈ok.after,Region.binds .any e=true→e.on≠i)→oi.apart ops ok=true:=fun k ok hk hki hun hno=>by
    refine hfree k ok hk hki ?_ hno;by_cases hjk:j=k
    ·subst hjk;exact hjun
    rw[getD_set_ne true hjk]at hun;exact hun
   refine wpOp_mono (fun a' w' h3=>?_) h2;refine⟨h3.2.1,ih (L.setIfInBounds j true) a' w' hfree' (ready_mono hr (Ne.symm hji)) (hwf.set hj) h3.1 h3.2.1 ?_⟩;rw[Array.setIfInBounds_comm _ _ hji];exact h3.2.2
theorem wpAnyB_all{S:World→Prop}{K:Option Nat}{rs:List Nat}{f:Nat}{L:Array Bool}{a:Act}{w:World}(hr:Region.ready .any ops L=rs)(hne:rs≠ [])(hk: ∀i∈rs,notK K i=true)
 (h: ∀i∈rs,wpOp P ops Q i (fun a' w'=>S w'∧wpAnyB P ops Q S K f (L.setIfInBounds i true) a' w') a w):wpAnyB P ops Q S K (f+1) L a w:=
 ⟨fun h0=>absurd (hr▸h0) hne,hr▸fun i hi=>by rw[if_neg (by simp[notK_isK (hk i hi)])];exact h i hi⟩
theorem Ord.sound(hL: ¬LetsOut Q)(hs:Region.noSelect ops=true)(hQ: ∀c a a' w,Q (.panic c) a w→Q (.panic c) a' w):
 ∀(r:Ord) (S:World→Prop) (K:Option Nat) (f:Nat) (L:Array Bool) (a:Act) (w:World),r.ok ops f L K=true→Wf ops L→S w→DLa P ops Q r S a w→wpAnyB P ops Q S K f L a w
 | .done,S,K,f,L,a,w,ho,_,_,h=>by
   simp only[Ord.ok,Bool.and_eq_true,List.isEmpty_iff]at ho
   cases f with
   |zero=>exact⟨ho.1,h⟩
   |succ f=>exact⟨fun _=>h,by rw[ho.1];simp⟩
 | .take i r,S,K,0,L,a,w,ho,_,_,_=>by simp[Ord.ok]at ho
 | .take i r,S,K,f+1,L,a,w,ho,hw0,hS,h=>by
   simp only[Ord.ok,Bool.and_eq_true]at ho;obtain⟨o,hi,h⟩:=h;have hr:i∈Region.ready .any ops L:=by simpa using ho.1.1.1
   by_cases hw:Region.wanted o (yielded ops a.tmps)=true
   ·simp only[hw,if_true]at h;obtain⟨v,hv,hK⟩:=h;exact wpAnyB_first hi (Region.noSelect_spec hs) (fun c a' w' hq=>hQ _ _ _ _ hq) ho.1.2 f L a w (Region.free_spec hi ho.1.1.2) hr hw0 (.inl ⟨hw,hv⟩) hS (Ord.sound hL hs hQ r S K f _ _ w ho.2 (hw0.set hr) hS hK)
   simp only[hw]at h;exact wpAnyB_first hi (Region.noSelect_spec hs) (fun c a' w' hq=>hQ _ _ _ _ hq) ho.1.2 f L a w (Region.free_spec hi ho.1.1.2) hr hw0 (.inr ⟨by simpa using hw,rfl⟩) hS (Ord.sound hL hs hQ r S K f _ _ w ho.2 (hw0.set hr) hS h)
 | .one i r,S,K,0,L,a,w,ho,_,_,_=>by simp[Ord.ok]at ho
 | .one i r,S,K,f+1,L,a,w,ho,hw0,hS,h=>by
   simp only[Ord.ok,Bool.and_eq_true,beq_iff_eq]at ho;refine wpAnyB_all ho.1.1 (by simp) (by simpa using ho.1.2) fun j hj=>?_;obtain rfl:j=i:=by simpa using hj
   exact dOp_wpOp hS (fun a' w' hS' hh=>Ord.sound hL hs hQ r S K f _ a' w' ho.2 (hw0.set (by rw[ho.1.1];simp)) hS' hh) h
 | .two i k r s,S,K,0,L,a,w,ho,_,_,_=>by simp[Ord.ok]at ho
 | .two i k r s,S,K,f+1,L,a,w,ho,hw0,hS,h=>by
   simp only[Ord.ok,Bool.and_eq_true,beq_iff_eq]at ho;refine wpAnyB_all ho.1.1.1.1 (by simp) (by simpa using⟨ho.1.1.1.2,ho.1.1.2⟩) fun j hj=>?_;rcases(by simpa using hj:j=i∨j=k)with rfl|rfl
   ·exact dOp_wpOp hS (fun a' w' hS' hh=>Ord.sound hL hs hQ r S K f _ a' w' ho.1.2 (hw0.set (by rw[ho.1.1.1.1];simp)) hS' hh) h.1
   exact dOp_wpOp hS (fun a' w' hS' hh=>Ord.sound hL hs hQ s S K f _ a' w' ho.2 (hw0.set (by rw[ho.1.1.1.1];simp)) hS' hh) h.2
 | .three i k l r s t,S,K,0,L,a,w,ho,_,_,_=>by simp[Ord.ok]at ho
 | .three i k l r s t,S,K,f+1,L,a,w,ho,hw0,hS,h=>by
   simp only[Ord.ok,Bool.and_eq_true,beq_iff_eq]at ho;refine wpAnyB_all ho.1.1.1.1.1.1 (by simp) (by simpa using⟨ho.1.1.1.1.1.2,ho.1.1.1.1.2,ho.1.1.1.2⟩) fun j hj=>?_;rcases(by simpa using hj:j=i∨j=k∨j=l)with rfl|rfl|rfl
   ·exact dOp_wpOp hS (fun a' w' hS' hh=>Ord.sound hL hs hQ r S K f _ a' w' ho.1.1.2 (hw0.set (by rw[ho.1.1.1.1.1.1];simp)) hS' hh) h.1
   ·exact dOp_wpOp hS (fun a' w' hS' hh=>Ord.sound hL hs hQ s S K f _ a' w' ho.1.2 (hw0.set (by rw[ho.1.1.1.1.1.1];simp)) hS' hh) h.2.1
   exact dOp_wpOp hS (fun a' w' hS' hh=>Ord.sound hL hs hQ t S K f _ a' w' ho.2 (hw0.set (by rw[ho.1.1.1.1.1.1];simp)) hS' hh) h.2.2
 | .bar i K' r,S,K,0,L,a,w,ho,_,_,_=>by simp[Ord.ok]at ho
 | .bar i K' r,S,K,f+1,L,a,w,ho,hw0,hS,h=>by
   simp only[Ord.ok,Bool.and_eq_true,beq_iff_eq]at ho;refine⟨fun h0=>(by rw[ho.1.1]at h0;cases h0),fun j hj=>?_⟩;have hji:j=i:=by rw[ho.1.1]at hj;simpa using hj
   subst hji;rw[if_pos ho.1.2];refine bOp_wpOp (fun a' w' hh=>?_) h;obtain⟨S',hS',hd⟩:=hh;exact wpAny_of_B hL _ _ _ _ (Ord.sound hL hs hQ r S' K' f _ a' w' ho.2 (hw0.set hj) hS' hd)
def noP(Q:Exit→Act→World→Prop):Exit→Act→World→Prop
 | .normal,a,w=>Q .normal a w
 |_,_,_=>False
theorem noP_mono: ∀(e:Exit) (a:Act) (w:World),noP Q e a w→Q e a w:=fun e a w h=>by cases e<;>first|exact h|exact h.elim
def DL(P:Program)(ops:Array Oper)(S:World→Prop)(Q:Exit→Act→World→Prop)(r:Ord)(n:FN)(E:Env)(w:World):Prop:=
 ∀a,Fr n a E→DLa P ops (noP Q) r S a w
def dchk(l:List Oper)(r:Ord)(K:Option Nat):Bool:=Region.noSelect l.toArray&&l.all nodef&&r.ok l.toArray l.toArray.size (Array.replicate l.toArray.size false) K
theorem R_dr{id:Nat}{l:List Oper}(r:Ord)(K:Option Nat){S:World→Prop}(hm:P.follows .mixedOrders=true)(ho:dchk l r K=true)(hS:S w.drew)(h:DL P l.toArray S Q r n E w.drew):CW ro P (.region id l.toArray true) Q n E w:=by
 simp only[dchk,Bool.and_eq_true]at ho
 exact fun a hf=>wpIn_mono (wpIn_region_any (Q:=noP Q) hm (anyFx (fun i o hi=>List.all_eq_true.1 ho.1.2 o (by simpa using List.mem_of_getElem? (l:=l) (by simpa using hi)))
  _ _ _ _ (wpAny_of_B (fun⟨_,_,h⟩=>h) _ _ _ _ (Ord.sound (fun⟨_,_,h⟩=>h) ho.1.1 (fun _ _ _ _ hq=>hq.elim) r S K _ _ _ _ ho.2 (Wf.init _) hS (h a hf))))) (fun e a w q=>noP_mono e a w q)
variable {S:World→Prop}
theorem DL_nil(h:XX Q .normal n E w):DL P ops S Q .done n E w:=h
theorem dq{i:Nat}{r:Ord}{o:Oper}{v:Value}(hi:ops[i]? =some o)(hq: ∀w',S w'→Qv P E o v w')(hg:o.guard=none)(hd:inN n o.dst=true)(h:DL P ops S Q r n (putE E o.dst v) w):DL P ops S Q (.take i r) n E w:=
 fun a hf=>⟨o,hi,by
  rw[if_pos (by simp[Region.wanted,hg])];exact⟨v,fun w' hw'=>hq w' hw' n a hf,h _ (hf.putE hd v)⟩⟩
theorem dgq{i:Nat}{r:Ord}{o:Oper}{v:Value}{j:Nat}{b:Bool}(hi:ops[i]? =some o)(hq: ∀w',S w'→Qv P E o v w')(hg:o.guard=some (j,b))(hj:gd ops E j=some b)(hd:inN n o.dst=true)(h:DL P ops S Q r n (putE E o.dst v) w):DL P ops S Q (.take i r) n E w:=
 fun a hf=>⟨o,hi,by
  rw[if_pos (by simp[Region.wanted,hg,gd_yielded hf hj])];exact⟨v,fun w' hw'=>hq w' hw' n a hf,h _ (hf.putE hd v)⟩⟩
theorem dgs{i:Nat}{r:Ord}{o:Oper}{j:Nat}{b c:Bool}(hi:ops[i]? =some o)(hg:o.guard=some (j,b))(hj:gd ops E j=some c)(hbc:(b != c)=true)(hd:inN n o.dst=true)(h:DL P ops S Q r n (putE E o.dst undef) w):DL P ops S Q (.take i r) n E w:=
 fun a hf=>⟨o,hi,by
  rw[if_neg (by simp[Region.wanted,hg,gd_yielded hf hj];intro e;subst e;simp at hbc)];exact h _ (hf.putE hd _)⟩
def DO(P:Program)(ops:Array Oper)(S:World→Prop)(Q:Exit→Act→World→Prop)(i:Nat)(r:Ord)(n:FN)(E:Env)(w:World):Prop:=
 ∀a,Fr n a E→dOp P ops S (noP Q) i (DLa P ops (noP Q) r S) a w
theorem de{i:Nat}{r:Ord}{o:Oper}{post:Value→World→Prop}(hi:ops[i]? =some o)(he:Eff P E o w post)(hg:o.guard=none)(hd:inN n o.dst=true)
 (h: ∀v w',post v w'→S w'∧DL P ops S Q r n (putE E o.dst v) w'):DO P ops S Q i r n E w:=
 fun a hf=>⟨o,hi,by
  rw[if_pos (by simp[Region.wanted,hg])];exact he n a hf _ _ fun v w' hp=>⟨(h v w' hp).1,(h v w' hp).2 _ (hf.putE hd v)⟩⟩
theorem dge{i:Nat}{r:Ord}{o:Oper}{post:Value→World→Prop}{j:Nat}{b:Bool}(hi:ops[i]? =some o)(he:Eff P E o w post)(hg:o.guard=some (j,b))(hj:gd ops E j=some b)(hd:inN n o.dst=true)
 (h: ∀v w',post v w'→S w'∧DL P ops S Q r n (putE E o.dst v) w'):DO P ops S Q i r n E w:=
 fun a hf=>⟨o,hi,by
  rw[if_pos (by simp[Region.wanted,hg,gd_yielded hf hj])];exact he n a hf _ _ fun v w' hp=>⟨(h v w' hp).1,(h v w' hp).2 _ (hf.putE hd v)⟩⟩
theorem dges{i:Nat}{r:Ord}{o:Oper}{j:Nat}{b c:Bool}(hi:ops[i]? =some o)(hg:o.guard=some (j,b))(hj:gd ops E j=some c)(hbc:(b != c)=true)(hd:inN n o.dst=true)(h:DL P ops S Q r n (putE E o.dst undef) w):DO P ops S Q i r n E w:=
 fun a hf=>⟨o,hi,by
  rw[if_neg (by simp[Region.wanted,hg,gd_yielded hf hj];intro e;subst e;simp at hbc)];exact h _ (hf.putE hd _)⟩
theorem db{i:Nat}{K:Option Nat}{r:Ord}{o:Oper}{post:Value→World→Prop}(hi:ops[i]? =some o)(he:Eff P E o w post)(hg:o.guard=none)(hd:inN n o.dst=true)
 (h: ∀v w',post v w'→ ∃S',S' w'∧DL P ops S' Q r n (putE E o.dst v) w'):DL P ops S Q (.bar i K r) n E w:=
 fun a hf=>⟨o,hi,by
  rw[if_pos (by simp[Region.wanted,hg])];exact wide_of_wp (he n a hf _ _ fun v w' hp=>by obtain⟨S',h1,h2⟩:=h v w' hp;exact⟨S',h1,h2 _ (hf.putE hd v)⟩)⟩
theorem dgb{i:Nat}{K:Option Nat}{r:Ord}{o:Oper}{post:Value→World→Prop}{j:Nat}{b:Bool}(hi:ops[i]? =some o)(he:Eff P E o w post)(hg:o.guard=some (j,b))(hj:gd ops E j=some b)(hd:inN n o.dst=true)
 (h: ∀v w',post v w'→ ∃S',S' w'∧DL P ops S' Q r n (putE E o.dst v) w'):DL P ops S Q (.bar i K r) n E w:=
 fun a hf=>⟨o,hi,by
  rw[if_pos (by simp[Region.wanted,hg,gd_yielded hf hj])];exact wide_of_wp (he n a hf _ _ fun v w' hp=>by obtain⟨S',h1,h2⟩:=h v w' hp;exact⟨S',h1,h2 _ (hf.putE hd v)⟩)⟩
theorem dgbI{i:Nat}{K:Option Nat}{r:Ord}{o:Oper}{post:Value→World→Prop}{j:Nat}{b:Bool}(hi:ops[i]? =some o)(he:EffI P E o w post)(hg:o.guard=some (j,b))(hj:gd ops E j=some b)(hd:inN n o.dst=true)
 (h: ∀v w',post v w'→ ∃S',S' w'∧DL P ops S' Q r n (putE E o.dst v) w'):DL P ops S Q (.bar i K r) n E w:=
 fun a hf=>⟨o,hi,by
  rw[if_pos (by simp[Region.wanted,hg,gd_yielded hf hj])];exact he n a hf _ _ fun v w' hp=>by obtain⟨S',h1,h2⟩:=h v w' hp;exact⟨S',h1,h2 _ (hf.putE hd v)⟩⟩
theorem dgbs{i:Nat}{K:Option Nat}{r:Ord}{o:Oper}{j:Nat}{b c:Bool}(hi:ops[i]? =some o)(hg:o.guard=some (j,b))(hj:gd ops E j=some c)(hbc:(b != c)=true)(hd:inN n o.dst=true)(h: ∃S',S' w∧DL P ops S' Q r n (putE E o.dst undef) w):DL P ops S Q (.bar i K r) n E w:=
 fun a hf=>⟨o,hi,by
  rw[if_neg (by simp[Region.wanted,hg,gd_yielded hf hj];intro e;subst e;simp at hbc)];obtain⟨S',h1,h2⟩:=h;exact⟨S',h1,h2 _ (hf.putE hd _)⟩⟩
theorem d1{i:Nat}{r:Ord}(h:DO P ops S Q i r n E w):DL P ops S Q (.one i r) n E w:=h
theorem d2{i j:Nat}{r s:Ord}(h1:DO P ops S Q i r n E w)(h2:DO P ops S Q j s n E w):DL P ops S Q (.two i j r s) n E w:=fun a hf=>⟨h1 a hf,h2 a hf⟩
theorem d3{i j k:Nat}{r s t:Ord}(h1:DO P ops S Q i r n E w)(h2:DO P ops S Q j s n E w)(h3:DO P ops S Q k t n E w):DL P ops S Q (.three i j k r s t) n E w:=fun a hf=>⟨h1 a hf,h2 a hf,h3 a hf⟩
theorem CW.sub{c:Code}{E':Env}(hs:subE E' E)(h:CW ro P c Q n E' w):CW ro P c Q n E w:=fun a hf=>h a (hf.sub hs)
theorem CW.at{c:Code}{a:Act}(hf:Fr n a E)(h:CW ro P c Q n E w):c.wpIn (Fx ro) 0 P Q a w:=h a hf
theorem C_seq{x y:Code}(h:CW ro P x (Exit.then (y.wpIn (Fx ro) 0 P Q) Q) n E w):CW ro P (.seq x y) Q n E w:=fun a hf=>wpIn_seq (h a hf)
theorem C_skip(h:XX Q .normal n E w):CW ro P .skip Q n E w:=fun a hf=>wpIn_skip (h a hf)
theorem C_ret(h:XX Q .ret n E w):CW ro P .ret Q n E w:=fun a hf=>wpIn_ret (h a hf)
theorem C_exit{id:Nat}(h:XX Q (.exit id) n E w):CW ro P (.exit id) Q n E w:=fun a hf=>wpIn_exit (h a hf)
theorem C_block{id:Nat}{c:Code}(h:CW ro P c (Exit.inBlock id Q) n E w):CW ro P (.block id c) Q n E w:=fun a hf=>wpIn_block (h a hf)
theorem C_cond{c:Operand}{x y:Code}{b:Bool}(hc:ev E c=some (.bool b))(ht:b=true→CW ro P x Q n E w)(hf:b=false→CW ro P y Q n E w):CW ro P (.cond c x y) Q n E w:=
 fun a ha=>wpIn_cond_split (ha.eval hc) (fun h=>ht h a ha) (fun h=>hf h a ha)
theorem C_cut{x y:Code}(A:Act→World→Prop)(hx:CW ro P x (Exit.then A Q) n E w)(hy: ∀a w',A a w'→y.wpIn (Fx ro) 0 P Q a w'):CW ro P (.seq x y) Q n E w:=
 fun a hf=>wpIn_seq (wpIn_mono (hx a hf) fun e a w q=>by cases e<;>first|exact hy _ _ q|exact q)
theorem C_loop{c:Code}(m:Nat)(I:Nat→Act→World→Prop)(h0: ∀a w,¬I 0 a w)(hI: ∀a,Fr n a E→I m a w)
 (round: ∀m a w,I (m+1) a w→c.wpIn (Fx ro) 0 P (Exit.then (I m) Q) a w):CW ro P (.loop c) Q n E w:=
 fun a hf=>wpIn_loop_rounds m (by
  have key: ∀m a w,I m a w→Code.roundsIn (Fx ro) 0 P c Q m a w:=by
   intro m
   induction m with
   |zero=>intro a w h;exact absurd h (h0 a w)
   |succ m ih=>
     intro a w h;rw[roundsIn_succ];exact wpIn_mono (round m a w h) fun e a w q=>by cases e<;>first|exact ih _ _ q|exact q
  exact key m a w (hI a hf))
theorem x_then{y:Code}(h:CW ro P y Q n E w):XX (Exit.then (y.wpIn (Fx ro) 0 P Q) Q) .normal n E w:=h
theorem x_A{A:Act→World→Prop}(h: ∀a,Fr n a E→A a w):XX (Exit.then A Q) .normal n E w:=h
theorem x_block{id:Nat}(h:XX Q .normal n E w):XX (Exit.inBlock id Q) .normal n E w:=h
theorem x_then_exit{A:Act→World→Prop}{id:Nat}(h:XX Q (.exit id) n E w):XX (Exit.then A Q) (.exit id) n E w:=h
theorem x_then_ret{A:Act→World→Prop}(h:XX Q .ret n E w):XX (Exit.then A Q) .ret n E w:=h
theorem x_block_ret{id:Nat}(h:XX Q .ret n E w):XX (Exit.inBlock id Q) .ret n E w:=h
theorem x_block_exit{id:Nat}(h:XX Q .normal n E w):XX (Exit.inBlock id Q) (.exit id) n E w:=fun a hf=>by simp only[Exit.inBlock,if_true];exact h a hf
theorem x_block_other{id id':Nat}(hne:Nat.beq id' id=false)(h:XX Q (.exit id') n E w):XX (Exit.inBlock id Q) (.exit id') n E w:=fun a hf=>by
 have:id'≠id:=fun e=>by subst e;simp at hne
 simp only[Exit.inBlock,if_neg this];exact h a hf
def Rets(post:Value→World→Prop)(e:Ending)(w':World):Prop:= ∃v,e= .returned v∧post v w'
def resTmps:List ResultVar→Option (List Operand)
 | []=>some []
 | .tmp t::r=>(resTmps r).map (.tmp t:: ·)
 |_::_=>none
def packR:List Value→Value
 | [v]=>v
 |vs=> .tuple vs.toArray
theorem results_run{fn:Func}{rs:List ResultVar}(hrs:fn.results=rs.toArray): ∀{l:List Operand},resTmps rs=some l→ ∀{a:Act} {vs:List Value},Fr n a E→evs E l=some vs→
 (results fn a.tmps).run P w= .ok (packR vs) w:=by
 intro l hl a vs hf hv
 have key: ∀(f:ResultVar→Sem Value),(∀t,f (.tmp t)=pure (a.tmps.getD t undef))→ ∀(rs:List ResultVar) (l:List Operand) (vs:List Value),resTmps rs=some l→evs E l=some vs→
  ∀acc:List Value,(rs.foldlM (m:=Sem) (fun(acc:Array Value) r=>do acc.push <$> f r) acc.toArray).run P w= .ok (acc++vs).toArray w:=by
  intro f hfr rs
  induction rs with
  |nil=>intro l vs h1 h2 acc;simp[resTmps]at h1;subst h1;simp[evs]at h2;subst h2;simp
  |cons r rs ih=>
    intro l vs h1 h2 acc
    cases r with
    |cell=>simp[resTmps]at h1
    |tmp t=>
      simp only[resTmps,Option.map_eq_some_iff]at h1;obtain⟨l',h1,rfl⟩:=h1;simp only[evs]at h2
      cases hv:ev E (.tmp t)with
      |none=>simp[hv]at h2
      |some v=>
        cases hr:evs E l' with
        |none=>simp[hv,hr]at h2
        |some us=>
          simp[hv,hr]at h2;subst h2;have h3:=ih l' us h1 hr (acc++ [v]);have h4:a.tmps.getD t undef=v:=hf.slots t v hv;simp only[List.foldlM_cons,hfr,h4];simp at h3 ⊢;exact h3
 have hm: ∀(f:ResultVar→Sem Value),(∀t,f (.tmp t)=pure (a.tmps.getD t undef))→(fn.results.mapM f).run P w= .ok vs.toArray w:=by
  intro f hfr;rw[hrs,Array.mapM_eq_foldlM];simpa using key f hfr rs l vs hl hv []
 unfold results;rw[Sem.run_bind,hm _ (fun _=>rfl)];simp only[Result.andThen_ok];clear key hm hv hf
 match vs with
 | []=>simp[packR]
 | [v]=>simp[packR]
 |v::u::r=>simp[packR]
theorem fn_ret{fn:Func}{rs:List ResultVar}{l:List Operand}{vs:List Value}{post:Value→World→Prop}(hrs:fn.results=rs.toArray)(hl:resTmps rs=some l)(hv:evs E l=some vs)
 (h:post (packR vs) w) (hn:n.ds= []:=by rfl):XX (bodyPost P fn (Rets post)) .ret n E w:=
 fun _ hf=>⟨by rw[hf.defers,hn];rfl,_,results_run hrs hl hf hv,_,rfl,h⟩
theorem fn_end{fn:Func}{rs:List ResultVar}{l:List Operand}{vs:List Value}{post:Value→World→Prop}(hrs:fn.results=rs.toArray)(hl:resTmps rs=some l)(hv:evs E l=some vs)
 (h:post (packR vs) w) (hn:n.ds= []:=by rfl):XX (bodyPost P fn (Rets post)) .normal n E w:=
 fun _ hf=>⟨by rw[hf.defers,hn];rfl,_,results_run hrs hl hf hv,_,rfl,h⟩
def argE:Nat→List Value→Env
 |_,[]=>[]
 |k,v::r=>(k,v)::argE (k+1) r
theorem look_argE: ∀(l:List Value) (k j:Nat) (v:Value),look (argE k l) j=some v→k≤j∧l[j-k]? =some v
 | [],_,_,_,h=>by simp[argE,look]at h
 |u::l,k,j,v,h=>by
   simp only[argE,look_cons]at h;by_cases e:k=j
   ·subst e;simp at h;subst h;simp
   rw[if_neg e]at h;have:=look_argE l (k+1) j v h;refine⟨by omega,?_⟩;have e2:j-k=(j-(k+1))+1:=by omega
   rw[e2];simpa using this.2
theorem fn_calls{f:FuncId}{fn:Func}{c:Code}{args:List Value}{R:Ending→World→Prop}(hf:P.funcs[f]? =some fn)(hb:fn.body=some c)(hn:args.length≤fn.ntmps)
 (h:CW none P c (bodyPost P fn R) (FN.of fn.ntmps) (argE 0 args) w):Calls P f args.toArray w R:=by
 refine calls_of_wp hf hb (wpIn_wide.1 (h _ ⟨?_,rfl,?_⟩))
 ·simp;omega
 intro k v hk;have:=look_argE args 0 k v hk;have h2:args[k]? =some v:=by simpa using this.2
 have hlt:k<args.length:=(List.getElem?_eq_some_iff.1 h2).1;simpa[Array.getElem?_append,hlt]using(List.getElem?_eq_some_iff.1 h2).2
end
abbrev View:=Nat→Option Obj
def View.le(ρ ρ':View):Prop:= ∀b o,ρ b=some o→ρ' b=some o
theorem View.le_refl(ρ:View):View.le ρ ρ:=fun _ _ h=>h
theorem View.le_trans{a b c:View}(h:View.le a b)(h':View.le b c):View.le a c:=fun x o hx=>h' x o (h x o hx)
def hv(w:World):View:=fun b=>w.heap[b]?
def View.cell(ρ:View)(b o:Nat):Option Value:=
 match ρ b with
 |some (.cells c _ _)=>c[o]?
 |_=>none
theorem View.cell_le{ρ ρ':View}(h:View.le ρ ρ'){b o:Nat}{v:Value}(hc:ρ.cell b o=some v):ρ'.cell b o=some v:=by
 unfold View.cell at*
 cases hb:ρ b with
 |none=>simp[hb]at hc
 |some x=>rw[h b x hb];rw[hb]at hc;exact hc
theorem hv_cell(w:World)(b o:Nat):w.cell? ⟨b,o,none⟩=(hv w).cell b o:=by
 unfold World.cell? View.cell hv
 cases w.heap[b]? with
 |none=>rfl
 |some x=>cases x<;>rfl
def cellsAt(ρ:View)(b o:Nat)(cs:List Value):Prop:= ∀j u,cs[j]? =some u→ρ.cell b (o+j)=some u
theorem cellsAt.up{ρ ρ':View}(h:View.le ρ ρ'){b o:Nat}{cs:List Value}(hc:cellsAt ρ b o cs):cellsAt ρ' b o cs:=fun j u hj=>View.cell_le h (hc j u hj)
theorem cellsAt.left{ρ:View}{b o:Nat}{c1 c2:List Value}(h:cellsAt ρ b o (c1++c2)):cellsAt ρ b o c1:=fun j u hj=>
 h j u (by rw[List.getElem?_append_left ((List.getElem?_eq_some_iff.1 hj).1)];exact hj)
theorem cellsAt.right{ρ:View}{b o:Nat}{c1 c2:List Value}(h:cellsAt ρ b o (c1++c2)):cellsAt ρ b (o+c1.length) c2:=fun j u hj=>by
 have:=h (c1.length+j) u (by rw[List.getElem?_append_right (by omega)];simpa using hj);rwa[←Nat.add_assoc]at this
theorem cellsAt.part{ρ:View}{b o:Nat}{cs:List Value}(h:cellsAt ρ b o cs)(k m:Nat):cellsAt ρ b (o+k) ((cs.drop k).take m):=fun j u hj=>by
 rw[List.getElem?_take]at hj;split at hj
 ·rw[List.getElem?_drop]at hj;have:=h (k+j) u hj;rwa[←Nat.add_assoc]at this
 cases hj
structure Enc(α:Type) where
 n:Nat
 rd:View→α→List Value→Prop
 len: ∀{ρ x cs},rd ρ x cs→cs.length=n
 one: ∀{ρ x cs},rd ρ x cs→ ∀u∈cs,u.oneCell'=true
 up: ∀{ρ ρ' x cs},View.le ρ ρ'→rd ρ x cs→rd ρ' x cs
def eI(k:IntKind):Enc Int where
 n:=1
 rd _ x cs:=cs= [.int k x]
 len h:=by subst h;rfl
 one h:=by subst h;simp[Value.oneCell']
 up _ h:=h
def eB:Enc Bool where
 n:=1
 rd _ x cs:=cs= [.bool x]
 len h:=by subst h;rfl
 one h:=by subst h;simp[Value.oneCell']
 up _ h:=h
def eS:Enc BA where
 n:=1
 rd _ x cs:=cs= [.string x]
 len h:=by subst h;rfl
 one h:=by subst h;simp[Value.oneCell']
 up _ h:=h
def eP{α β:Type}(e:Enc α)(f:Enc β):Enc (α×β) where
 n:=e.n+f.n
 rd ρ x cs:= ∃c d,cs=c++d∧e.rd ρ x.1 c∧f.rd ρ x.2 d
 len h:=by obtain⟨c,d,rfl,h1,h2⟩:=h;simp[e.len h1,f.len h2]
 one h:=by
  obtain⟨c,d,rfl,h1,h2⟩:=h;intro u hu;rcases List.mem_append.1 hu with hu|hu
  ·exact e.one h1 u hu
  exact f.one h2 u hu
 up hl h:=by obtain⟨c,d,rfl,h1,h2⟩:=h;exact⟨c,d,rfl,e.up hl h1,f.up hl h2⟩
def rdL{α:Type}(e:Enc α)(ρ:View):List α→List Value→Prop
 | [],cs=>cs= []
 |x::xs,cs=> ∃c d,cs=c++d∧e.rd ρ x c∧rdL e ρ xs d
section
variable {α:Type}{e:Enc α}{ρ ρ':View}
theorem rdL.len: ∀{xs:List α} {cs:List Value},rdL e ρ xs cs→cs.length=xs.length*e.n
 | [],cs,h=>by simp[rdL]at h;simp[h]
 |x::xs,cs,h=>by
   obtain⟨c,d,rfl,h1,h2⟩:=h;simp[e.len h1,rdL.len h2,Nat.add_mul];omega
theorem rdL.one: ∀{xs:List α} {cs:List Value},rdL e ρ xs cs→ ∀u∈cs,u.oneCell'=true
 | [],cs,h=>by simp[rdL]at h;simp[h]
 |x::xs,cs,h=>by
   obtain⟨c,d,rfl,h1,h2⟩:=h;intro u hu;rcases List.mem_append.1 hu with hu|hu
   ·exact e.one h1 u hu
   exact rdL.one h2 u hu
theorem rdL.up(hl:View.le ρ ρ'): ∀{xs:List α} {cs:List Value},rdL e ρ xs cs→rdL e ρ' xs cs
 | [],_,h=>h
 |_::_,_,h=>by obtain⟨c,d,rfl,h1,h2⟩:=h;exact⟨c,d,rfl,e.up hl h1,rdL.up hl h2⟩
theorem rdL.app: ∀{xs ys:List α} {cs ds:List Value},rdL e ρ xs cs→rdL e ρ ys ds→rdL e ρ (xs++ys) (cs++ds)
 | [],_,cs,ds,h,h'=>by simp[rdL]at h;subst h;simpa using h'
 |x::xs,ys,cs,ds,h,h'=>by
   obtain⟨c,d,rfl,h1,h2⟩:=h;exact⟨c,d++ds,by simp,h1,rdL.app h2 h'⟩
theorem rdL.nil:rdL e ρ [] []:=rfl
theorem rdL.single{x:α}{c:List Value}(h:e.rd ρ x c):rdL e ρ [x] c:=⟨c,[],by simp,h,rfl⟩
theorem rdL.get: ∀{xs:List α} {cs:List Value} {i:Nat} {x:α},rdL e ρ xs cs→xs[i]? =some x→e.rd ρ x ((cs.drop (i*e.n)).take e.n)
 | [],_,_,_,_,hx=>by simp at hx
 |y::xs,cs,0,x,h,hx=>by
   obtain⟨c,d,rfl,h1,h2⟩:=h;simp at hx;subst hx;simp only[Nat.zero_mul,List.drop_zero];rw[←e.len h1,List.take_left];exact h1
 |y::xs,cs,i+1,x,h,hx=>by
   obtain⟨c,d,rfl,h1,h2⟩:=h;have h3:=rdL.get (i:=i) h2 (by simpa using hx);have:(i+1)*e.n=c.length+i*e.n:=by rw[e.len h1,Nat.add_mul];omega
   rw[this,←List.drop_drop,List.drop_left];exact h3
def setC(vs:List Value)(o:Nat)(cs:List Value):List Value:=vs.take o++cs++vs.drop (o+cs.length)
theorem setC_length{vs cs:List Value}{o:Nat}(h:o+cs.length≤vs.length):(setC vs o cs).length=vs.length:=by
 simp[setC];omega
theorem rdL.set: ∀{xs:List α} {cs:List Value} {i:Nat} {x:α} {c:List Value},rdL e ρ xs cs→i<xs.length→e.rd ρ x c→rdL e ρ (xs.set i x) (setC cs (i*e.n) c)
 | [],_,_,_,_,_,hi,_=>by simp at hi
 |y::xs,cs,0,x,c,h,_,hx=>by
   obtain⟨c0,d,rfl,h1,h2⟩:=h;refine⟨c,d,?_,hx,h2⟩;simp only[setC,Nat.zero_mul,List.take_zero,List.nil_append,Nat.zero_add];rw[e.len hx,←e.len h1,List.drop_left]
 |y::xs,cs,i+1,x,c,h,hi,hx=>by
   obtain⟨c0,d,rfl,h1,h2⟩:=h;have h3:=rdL.set (i:=i) h2 (by simpa using hi) hx;refine⟨c0,setC d (i*e.n) c,?_,h1,h3⟩;have e1:(i+1)*e.n=c0.length+i*e.n:=by rw[e.len h1,Nat.add_mul];omega
   simp only[setC,e1];rw[List.take_length_add_append];have e2:c0.length+i*e.n+c.length=c0.length+(i*e.n+c.length):=by omega
   rw[e2,List.drop_length_add_append];simp
theorem rdL.drop: ∀{xs:List α} {cs:List Value} (k:Nat),rdL e ρ xs cs→rdL e ρ (xs.drop k) (cs.drop (k*e.n))
 |xs,cs,0,h=>by simpa using h
 | [],cs,k+1,h=>by simp[rdL]at h;subst h;simp[rdL]
 |y::xs,cs,k+1,h=>by
   obtain⟨c,d,rfl,h1,h2⟩:=h;have h3:=rdL.drop k h2;have e1:(k+1)*e.n=c.length+k*e.n:=by rw[e.len h1,Nat.add_mul];omega
   rw[e1,List.drop_length_add_append,List.drop_succ_cons];exact h3
theorem rdL.take: ∀{xs:List α} {cs:List Value} (k:Nat),rdL e ρ xs cs→rdL e ρ (xs.take k) (cs.take (k*e.n))
 |xs,cs,0,h=>by simp[rdL]
 | [],cs,k+1,h=>by simp[rdL]at h;subst h;simp[rdL]
 |y::xs,cs,k+1,h=>by
   obtain⟨c,d,rfl,h1,h2⟩:=h;have e1:(k+1)*e.n=c.length+k*e.n:=by rw[e.len h1,Nat.add_mul];omega
   refine⟨c,d.take (k*e.n),?_,h1,rdL.take k h2⟩;rw[e1,List.take_length_add_append]
theorem rdL_ints(k:IntKind)(ρ:View): ∀(xs:List Int),rdL (eI k) ρ xs (xs.map (.int k))
 | []=>rfl
 |x::xs=>⟨[.int k x],xs.map (.int k),rfl,rfl,rdL_ints k ρ xs⟩
theorem rdL_ints_eq{k:IntKind}: ∀{xs:List Int} {cs:List Value},rdL (eI k) ρ xs cs→cs=xs.map (.int k)
 | [],_,h=>h
 |x::xs,cs,h=>by obtain⟨c,d,rfl,h1,h2⟩:=h;obtain rfl:=rdL_ints_eq h2;obtain rfl:c= [.int k x]:=h1;rfl
end
def eA{α:Type}(N:Nat)(e:Enc α):Enc (List α) where
 n:=N*e.n
 rd ρ xs cs:=xs.length=N∧rdL e ρ xs cs
 len h:=by rw[rdL.len h.2,h.1]
 one h:=rdL.one h.2
 up hl h:=⟨h.1,rdL.up hl h.2⟩
def RdSl{α:Type}(ρ:View)(e:Enc α)(v:Value)(xs:List α):Prop:=
 (∃ad cap,v= .slice ad 0 cap∧xs= [])∨ ∃b o cap cs,v= .slice (some ⟨b,o,none⟩) xs.length cap∧xs.length≤cap∧rdL e ρ xs cs∧cellsAt ρ b o cs
theorem RdSl.up{α:Type}{e:Enc α}{ρ ρ':View}{v:Value}{xs:List α}(hl:View.le ρ ρ')(h:RdSl ρ e v xs):RdSl ρ' e v xs:=by
 rcases h with h|⟨b,o,cap,cs,h1,h0,h2,h3⟩
 ·exact .inl h
 exact .inr ⟨b,o,cap,cs,h1,h0,rdL.up hl h2,h3.up hl⟩
def eL{α:Type}(e:Enc α):Enc (List α) where
 n:=1
 rd ρ xs cs:= ∃v,cs= [v]∧RdSl ρ e v xs
 len h:=by obtain⟨v,rfl,_⟩:=h;rfl
 one h:=by
  obtain⟨v,rfl,h⟩:=h;rcases h with⟨ad,cap,rfl,_⟩|⟨b,o,cap,cs,rfl,_⟩<;>simp[Value.oneCell']
 up hl h:=by obtain⟨v,rfl,h⟩:=h;exact⟨v,rfl,h.up hl⟩
def idx{α:Type}(xs:List α)(i:Int):Option α:=if 0≤i then xs[i.toNat]? else none
def setI{α:Type}(xs:List α)(i:Int)(x:α):Option (List α):=if 0≤i∧i.toNat<xs.length then some (xs.set i.toNat x)else none
def app{α:Type}(xs ys:List α):Option (List α):=if xs.length+ys.length≤4294967296 then some (xs++ys)else none
theorem idx_some{α:Type}{xs:List α}{i:Int}{x:α}(h:idx xs i=some x):0≤i∧i.toNat<xs.length∧xs[i.toNat]? =some x:=by
 unfold idx at h;split at h
 ·exact⟨by assumption,(List.getElem?_eq_some_iff.1 h).1,h⟩
 cases h
theorem setI_some{α:Type}{xs ys:List α}{i:Int}{x:α}(h:setI xs i x=some ys):0≤i∧i.toNat<xs.length∧ys=xs.set i.toNat x:=by
 unfold setI at h;split at h
 ·rename_i hc;exact⟨hc.1,hc.2,(Option.some.inj h).symm⟩
 cases h
theorem app_some{α:Type}{xs ys zs:List α}(h:app xs ys=some zs):xs.length+ys.length≤4294967296∧zs=xs++ys:=by
 unfold app at h;split at h
 ·exact⟨by assumption,(Option.some.inj h).symm⟩
 cases h
theorem bnd{α β:Type}{a:Option α}{f:α→Option β}{r:β}(h:(a >>= f)=some r): ∃x,a=some x∧f x=some r:=Option.bind_eq_some_iff.1 h
def IdxOk(v:Value)(i:Int)(n b o:Nat):Prop:= ∃a0 len cap,v= .slice (some ⟨b,a0,none⟩) len cap∧0≤i∧i<len∧o=a0+i.toNat*n
theorem idxR{α:Type}{e:Enc α}{ρ:View}{v:Value}{xs:List α}{i:Int}{x:α}(hr:RdSl ρ e v xs)(hx:idx xs i=some x):
 ∃b o cs,e.rd ρ x cs∧cellsAt ρ b o cs∧IdxOk v i e.n b o:=by
 obtain⟨h0,hlt,hx⟩:=idx_some hx;rcases hr with⟨ad,cap,rfl,rfl⟩|⟨b,o,cap,cs,rfl,hc,h2,h3⟩
 ·simp at hlt
 exact⟨b,o+i.toNat*e.n,_,rdL.get h2 hx,h3.part _ _,o,xs.length,cap,rfl,h0,by omega,rfl⟩
structure Hl where
 fp:List Nat
 P:View→Prop
 loc: ∀{h h':View},(∀b∈fp,h b=h' b)→P h→P h'
def Box(b:Nat)(vs:List Value):Hl where
 fp:=[b]
 P h:= ∃T,h b=some (.cells vs.toArray T (0,0))
 loc he hp:=by obtain⟨T,hp⟩:=hp;exact⟨T,(he b (by simp)).symm.trans hp⟩
def vblk:Value→List Nat
 | .slice (some a) _ _=>[a.block]
 |_=>[]
def Arr(v:Value)(n:Nat)(cs:List Value):Hl where
 fp:=vblk v
 P h:=(v= .slice none 0 0∧cs= [])∨ ∃b o len cap cur T,v= .slice (some ⟨b,o,none⟩) len cap∧cs.length=len*n∧len≤cap∧o+cap*n≤cur.size∧h b=some (.cells cur T (0,0))∧(cur.toList.drop o).take cs.length=cs
 loc he hp:=by
  rcases hp with hp|⟨b,o,len,cap,cur,T,rfl,h1,h2,h3,h4,h5⟩
  ·exact .inl hp
  exact .inr ⟨b,o,len,cap,cur,T,rfl,h1,h2,h3,(he b (by simp[vblk])).symm.trans h4,h5⟩
def fps(hs:List Hl):List Nat:=hs.flatMap (·.fp)
def Tp(a b:World):Prop:=b.tape=a.tape∧a.drawn≤b.drawn
theorem Tp.trans{a b c:World}(h:Tp b c)(h':Tp a b):Tp a c:=⟨h.1.trans h'.1,Nat.le_trans h'.2 h.2⟩
theorem Tp.rfl(a:World):Tp a a:=⟨_root_.rfl,Nat.le_refl _⟩
theorem Tp.one(a:World):Tp a a.drew:=⟨_root_.rfl,Nat.le_succ _⟩
structure Cx where
 w0:World
 S:List Nat
structure Hp(C:Cx)(w:World)(ρ:View)(hs:List Hl):Prop where
 os:w.os=C.w0.os
 tape:Tp C.w0 w
 out:w.output=C.w0.output
 size:C.w0.heap.size≤w.heap.size
 old: ∀b,b<C.w0.heap.size→b∉C.S→w.heap[b]? =C.w0.heap[b]?
 fresh: ∀b∈fps hs,b∈C.S∨C.w0.heap.size≤b
 lt: ∀b∈fps hs,b<w.heap.size
 nodup:(fps hs).Nodup
 view:View.le ρ (hv w)
 apart: ∀b∈fps hs,ρ b=none
 all: ∀h∈hs,h.P (hv w)
structure Ok(w:World)(ρ:View)(hs:List Hl):Prop where
 view:View.le ρ (hv w)
 all: ∀h∈hs,h.P (hv w)
section
variable {C:Cx}{w w':World}{ρ:View}{hs:List Hl}
theorem Hp.ok(H:Hp C w ρ hs):Ok w ρ hs:=⟨H.view,H.all⟩
theorem Hp.okS(H:Hp C w ρ hs){l:List Hl}(hl: ∀h∈l,h∈hs):Ok w ρ l:=⟨H.view,fun h hh=>H.all h (hl h hh)⟩
theorem Ok.get(H:Ok w ρ hs){k:Nat}{h:Hl}(hk:hs[k]? =some h):h.P (hv w):=H.all h (List.mem_of_getElem? hk)
theorem Ok.drew(H:Ok w ρ hs):Ok w.drew ρ hs:=⟨H.view,H.all⟩
theorem Hp.drew(H:Hp C w ρ hs):Hp C w.drew ρ hs:=⟨H.os,Tp.trans (Tp.one w) H.tape,H.out,H.size,H.old,H.fresh,H.lt,H.nodup,H.view,H.apart,H.all⟩
theorem fps_cons(h:Hl)(hs:List Hl):fps (h::hs)=h.fp++fps hs:=by simp[fps]
theorem mem_fps{b:Nat}:b∈fps hs↔ ∃h∈hs,b∈h.fp:=by simp[fps]
theorem hv_alloc_old(w:World)(o:Obj){b:Nat}(hb:b<w.heap.size):hv (w.alloc o) b=hv w b:=heap_alloc_old w o hb
theorem hv_alloc_new(w:World)(o:Obj):hv (w.alloc o) w.heap.size=some o:=heap_alloc_new w o
theorem lt_of_hv{w:World}{b:Nat}{o:Obj}(h:hv w b=some o):b<w.heap.size:=(Array.getElem?_eq_some_iff.1 h).1
theorem Hp.alloc(H:Hp C w ρ hs)(o:Obj){h:Hl}(hf:h.fp= [w.heap.size])(hp:h.P (hv (w.alloc o))):Hp C (w.alloc o) ρ (h::hs) where
 os:=H.os
 tape:=H.tape
 out:=H.out
 size:=by have:=H.size;simp;omega
 old b hb hs:=(hv_alloc_old w o (by have:=H.size;omega)).trans (H.old b hb hs)
 fresh b hb:=by
  rw[fps_cons,hf]at hb;rcases List.mem_append.1 hb with hb|hb
  ·simp at hb;subst hb;exact .inr H.size
  exact H.fresh b hb
 lt b hb:=by
  rw[fps_cons,hf]at hb;rcases List.mem_append.1 hb with hb|hb
  ·simp at hb;subst hb;simp
  have:=H.lt b hb;simp;omega
 nodup:=by
  rw[fps_cons,hf];refine List.nodup_append.2 ⟨by simp,H.nodup,fun a ha b hb=>?_⟩;simp at ha;subst ha;have:=H.lt b hb;omega
 view b x hx:=by
  have:=H.view b x hx;rw[hv_alloc_old w o (lt_of_hv this)];exact this
 apart b hb:=by
  rw[fps_cons,hf]at hb;rcases List.mem_append.1 hb with hb|hb
  ·simp at hb;subst hb
   cases hr:ρ w.heap.size with
   |none=>rfl
   |some x=>have:=lt_of_hv (H.view _ x hr);omega
  exact H.apart b hb
 all h' hh:=by
  rcases List.mem_cons.1 hh with rfl|hh
  ·exact hp
  exact h'.loc (fun b hb=>(hv_alloc_old w o (H.lt b (mem_fps.2 ⟨h',hh,hb⟩))).symm) (H.all h' hh)
theorem mem_fps_set{k:Nat}{h':Hl}{b:Nat}(hb:b∈fps (hs.set k h')):b∈h'.fp∨b∈fps hs:=by
 obtain⟨x,hx,hbx⟩:=mem_fps.1 hb;rcases List.mem_or_eq_of_mem_set hx with h1|rfl
 ·exact .inr (mem_fps.2 ⟨x,h1,hbx⟩)
 exact .inl hbx
theorem nodup_set: ∀{hs:List Hl} {k:Nat} {h h':Hl} {N:Nat},(fps hs).Nodup→(∀b∈fps hs,b<N)→hs[k]? =some h→h'.fp.Nodup→(∀b∈h'.fp,b∈h.fp∨N≤b)→(fps (hs.set k h')).Nodup
 | [],_,_,_,_,_,_,hk,_,_=>by simp at hk
 |x::hs,0,h,h',N,hn,hl,hk,hd,hf=>by
   simp at hk;subst hk;simp only[List.set_cons_zero,fps_cons]at*;obtain⟨h1,h2,h3⟩:=List.nodup_append.1 hn;refine List.nodup_append.2 ⟨hd,h2,fun a ha b hb=>?_⟩;rcases hf a ha with h4|h4
   ·exact h3 a h4 b hb
   have:=hl b (List.mem_append.2 (.inr hb));omega
 |x::hs,k+1,h,h',N,hn,hl,hk,hd,hf=>by
   simp only[List.set_cons_succ,fps_cons]at*;obtain⟨h1,h2,h3⟩:=List.nodup_append.1 hn;have hk':hs[k]? =some h:=by simpa using hk
   refine List.nodup_append.2 ⟨h1,nodup_set h2 (fun b hb=>hl b (List.mem_append.2 (.inr hb))) hk' hd hf,fun a ha b hb=>?_⟩;rcases mem_fps_set hb with h4|h4
   ·rcases hf b h4 with h5|h5
    ·exact h3 a ha b (mem_fps.2 ⟨h,List.mem_of_getElem? hk',h5⟩)
    have:=hl a (List.mem_append.2 (.inl ha));omega
   exact h3 a ha b h4
theorem apart_of: ∀{hs:List Hl} {k:Nat} {h:Hl},(fps hs).Nodup→hs[k]? =some h→ ∀{j:Nat} {x:Hl},hs[j]? =some x→j≠k→ ∀b∈x.fp,b∉h.fp
 | [],_,_,_,hk,_,_,_,_,_,_=>by simp at hk
 |y::hs,0,h,hn,hk,0,x,hj,hne,_,_=>absurd rfl hne
 |y::hs,0,h,hn,hk,j+1,x,hj,_,b,hb=>by
   simp at hk;subst hk;rw[fps_cons]at hn;intro hc;exact(List.nodup_append.1 hn).2.2 b hc b (mem_fps.2 ⟨x,List.mem_of_getElem? (by simpa using hj),hb⟩) rfl
 |y::hs,k+1,h,hn,hk,0,x,hj,_,b,hb=>by
   simp at hj;subst hj;rw[fps_cons]at hn;intro hc;exact(List.nodup_append.1 hn).2.2 b hb b (mem_fps.2 ⟨h,List.mem_of_getElem? (by simpa using hk),hc⟩) rfl
 |y::hs,k+1,h,hn,hk,j+1,x,hj,hne,b,hb=>by
   rw[fps_cons]at hn;exact apart_of (List.nodup_append.1 hn).2.1 (by simpa using hk) (by simpa using hj) (by omega) b hb
theorem Hp.upd(H:Hp C w ρ hs){k:Nat}{h h':Hl}(hk:hs[k]? =some h)(hos:w'.os=w.os)(htp:Tp w w')(hout:w'.output=w.output)(hsz:w.heap.size≤w'.heap.size)
 (hold: ∀b,b<w.heap.size→b∉h.fp→w'.heap[b]? =w.heap[b]?) (hnd:h'.fp.Nodup) (hf: ∀b∈h'.fp,b∈h.fp∨w.heap.size≤b) (hlt: ∀b∈h'.fp,b<w'.heap.size) (hp:h'.P (hv w')):
 Hp C w' ρ (hs.set k h') where
 os:=hos.trans H.os
 tape:=htp.trans H.tape
 out:=hout.trans H.out
 size:=Nat.le_trans H.size hsz
 old b hb hS:=by
  have h1:=H.size;refine(hold b (by omega) fun hc=>?_).trans (H.old b hb hS);rcases H.fresh b (mem_fps.2 ⟨h,List.mem_of_getElem? hk,hc⟩)with h2|h2
  ·exact hS h2
  omega
 fresh b hb:=by
  rcases mem_fps_set hb with h1|h1
  ·rcases hf b h1 with h2|h2
   ·exact H.fresh b (mem_fps.2 ⟨h,List.mem_of_getElem? hk,h2⟩)
   exact .inr (Nat.le_trans H.size h2)
  exact H.fresh b h1
 lt b hb:=by
  rcases mem_fps_set hb with h1|h1
  ·exact hlt b h1
  exact Nat.lt_of_lt_of_le (H.lt b h1) hsz
 nodup:=nodup_set H.nodup H.lt hk hnd hf
 view b x hx:=by
  have h1:=H.view b x hx;have:b∉h.fp:=fun hc=>by have:=H.apart b (mem_fps.2 ⟨h,List.mem_of_getElem? hk,hc⟩);rw[hx]at this;cases this
  exact(hold b (lt_of_hv h1) this).trans h1
 apart b hb:=by
  rcases mem_fps_set hb with h1|h1
  ·rcases hf b h1 with h2|h2
   ·exact H.apart b (mem_fps.2 ⟨h,List.mem_of_getElem? hk,h2⟩)
   cases hr:ρ b with
   |none=>rfl
   |some x=>have:=lt_of_hv (H.view _ x hr);omega
  exact H.apart b h1
 all x hx:=by
  obtain⟨j,hj⟩:=List.mem_iff_getElem?.1 hx;by_cases e:j=k
  ·subst e;rw[List.getElem?_set_self']at hj;simp[hk]at hj;subst hj;exact hp
  rw[List.getElem?_set_ne (Ne.symm e)]at hj;refine x.loc (fun b hb=>?_) (H.all x (List.mem_of_getElem? hj));exact(hold b (H.lt b (mem_fps.2 ⟨x,List.mem_of_getElem? hj,hb⟩)) (apart_of H.nodup hk hj e b hb)).symm
theorem fps_perm{l l':List Hl}(h:l.Perm l'):(fps l).Perm (fps l'):=h.flatMap_right _
theorem Hp.perm(H:Hp C w ρ hs){l:List Hl}(h:hs.Perm l):Hp C w ρ l:=
 ⟨H.os,H.tape,H.out,H.size,H.old,fun b hb=>H.fresh b ((fps_perm h).mem_iff.2 hb),fun b hb=>H.lt b ((fps_perm h).mem_iff.2 hb),(fps_perm h).nodup_iff.1 H.nodup,H.view,
  fun b hb=>H.apart b ((fps_perm h).mem_iff.2 hb),fun x hx=>H.all x (h.mem_iff.2 hx)⟩
theorem perm_front: ∀{hs:List Hl} {k:Nat} {h:Hl},hs[k]? =some h→hs.Perm (h::hs.eraseIdx k)
 | [],_,_,hk=>by simp at hk
 |x::hs,0,h,hk=>by simp at hk;subst hk;simp
 |x::hs,k+1,h,hk=>by
   simp only[List.eraseIdx_cons_succ];exact((perm_front (hs:=hs) (by simpa using hk)).cons x).trans (List.Perm.swap _ _ _)
theorem Hp.front(H:Hp C w ρ hs)(k:Nat){h:Hl}(hk:hs[k]? =some h):Hp C w ρ (h::hs.eraseIdx k):=H.perm (perm_front hk)
theorem Hp.tail{h:Hl}(H:Hp C w ρ (h::hs)):Hp C w ρ hs:=
 ⟨H.os,H.tape,H.out,H.size,H.old,fun b hb=>H.fresh b (by rw[fps_cons];exact List.mem_append.2 (.inr hb)),fun b hb=>H.lt b (by rw[fps_cons];exact List.mem_append.2 (.inr hb)),
  (List.nodup_append.1 (by have:=H.nodup;rwa[fps_cons]at this)).2.1,H.view,fun b hb=>H.apart b (by rw[fps_cons];exact List.mem_append.2 (.inr hb)),fun x hx=>H.all x (.tail _ hx)⟩
theorem Hp.drop(H:Hp C w ρ hs)(k:Nat){h:Hl}(hk:hs[k]? =some h):Hp C w ρ (hs.eraseIdx k):=(H.front k hk).tail
theorem Hp.freeze{h:Hl}(H:Hp C w ρ (h::hs)): ∃ρ',View.le ρ ρ'∧Hp C w ρ' hs∧h.P ρ':=by
 refine⟨fun b=>if b∈h.fp then hv w b else ρ b,fun b o hb=>?_,?_,?_⟩
 ·have:b∉h.fp:=fun hc=>by have:=H.apart b (by rw[fps_cons];exact List.mem_append.2 (.inl hc));rw[hb]at this;cases this
  simp[this,hb]
 ·have T:=H.tail;refine⟨T.os,T.tape,T.out,T.size,T.old,T.fresh,T.lt,T.nodup,fun b o hb=>?_,fun b hb=>?_,T.all⟩
  ·split at hb
   ·exact hb
   exact H.view b o hb
  have hn:=H.nodup;rw[fps_cons]at hn;have:b∉h.fp:=fun hc=>(List.nodup_append.1 hn).2.2 b hc b hb rfl;simp[this,T.apart b hb]
 exact h.loc (fun b hb=>by simp[hb]) (H.all h (by simp))
end
structure Ty(P:Program)(T:TypeId)(n bytes:Nat)(zero:Value)(agg:Bool):Prop where
 info:(P.info? T).map (fun i=>(i.size,i.bytes,i.zero))=some (n,bytes,some zero)
 und:(P.underlying T).map (fun d=>match d with| .struct _| .array _ _=>true|_=>false)=some agg
section
variable {P:Program}{E:Env}{w:World}{C:Cx}{ρ:View}{hs:List Hl}{d:Option Tmp}{ty:TypeId}{pos:String}{af:Array Edge}{g:Option (Nat×Bool)}
theorem Ty.parts{T:TypeId}{n by_:Nat}{z:Value}{ag:Bool}(h:Ty P T n by_ z ag): ∃i,P.info? T=some i∧i.size=n∧i.bytes=by_∧i.zero=some z:=by
 have:=h.info
 cases hi:P.info? T with
 |none=>simp[hi]at this
 |some i=>simp[hi]at this;exact⟨i,rfl,this.1,this.2.1,this.2.2⟩
theorem Ty.isAgg{T:TypeId}{n by_:Nat}{z:Value}{ag:Bool}(h:Ty P T n by_ z ag):(isAgg T).run P w= .ok ag w:=by
 have:=h.und
 cases hu:P.underlying T with
 |none=>simp[hu]at this
 |some d=>
   simp[hu]at this;unfold Go.isAgg;rw[Sem.run_bind,run_underlying hu];simp only[Result.andThen_ok];subst this;cases d<;>simp
theorem Ty.sizeOf{T:TypeId}{n by_:Nat}{z:Value}{ag:Bool}(h:Ty P T n by_ z ag):(sizeOf T).run P w= .ok n w:=by
 obtain⟨i,hi,hn,_⟩:=h.parts;simp[Go.sizeOf,typeInfo,hi,hn]
theorem Ty.zeroValue{T:TypeId}{n by_:Nat}{z:Value}{ag:Bool}(h:Ty P T n by_ z ag):(zeroValue T).run P w= .ok z w:=by
 obtain⟨i,hi,_,_,hz⟩:=h.parts;simp[Go.zeroValue,typeInfo,hi,hz]
theorem Q_move{x:Operand}{v:Value}(hx:ev E x=some v):Qv P E ⟨d,.move x,ty,pos,af,g⟩ v w:=fun n a hf=>by simp[execOp,hf.eval hx]
theorem Q_assign{x:Operand}{v:Value}(hx:ev E x=some v):Qv P E ⟨d,.assign x,ty,pos,af,g⟩ v w:=fun n a hf=>by simp[execOp,hf.eval hx]
theorem Q_pickT{c x y:Operand}{v:Value}(hc:ev E c=some (.bool true))(hx:ev E x=some v):Qv P E ⟨d,.pick c x y,ty,pos,af,g⟩ v w:=fun n a hf=>by simp[execOp,hf.eval hc,hf.eval hx,asBool]
theorem Q_pickF{c x y:Operand}{v:Value}(hc:ev E c=some (.bool false))(hx:ev E y=some v):Qv P E ⟨d,.pick c x y,ty,pos,af,g⟩ v w:=fun n a hf=>by simp[execOp,hf.eval hc,hf.eval hx,asBool]
theorem Q_nilP{x:Operand}{a:Addr}(hx:ev E x=some (.pointer (some a))):Qv P E ⟨d,.nilCheck x,ty,pos,af,g⟩ (.pointer (some a)) w:=fun n a hf=>by simp[execOp,hf.eval hx]
theorem Q_extract{x:Operand}{vs:List Value}{i:Nat}{v:Value}(hx:ev E x=some (.tuple vs.toArray))(hi:vs[i]? =some v):Qv P E ⟨d,.extract x i,ty,pos,af,g⟩ v w:=fun n a hf=>by simp[execOp,hf.eval hx,Instr.extract,hi]
theorem Q_func{f:Fn}{cs:List Operand}{vs:List Value}(hx:evs E cs=some vs):Qv P E ⟨d,.makeFunc f #[] cs.toArray,ty,pos,af,g⟩ (.func f #[] vs.toArray) w:=fun n a hf=>by
 have:=hf.evals hx;simp[execOp,Instr.makeFunc,this]
theorem Q_not{t:TypeId}{x:Operand}{b:Bool}(hx:ev E x=some (.bool b)):Qv P E ⟨d,.unOp .not t x,ty,pos,af,g⟩ (.bool (!b)) w:=fun n a hf=>by simp[execOp,hf.eval hx,Op.unary]
section
variable {k:IntKind}{t t':TypeId}{x y:Operand}{m l:Int}(hx:ev E x=some (.int k m))(hy:ev E y=some (.int k l))
include hx hy
theorem Q_add:Qv P E ⟨d,.binOp .add t x y t',ty,pos,af,g⟩ (.int k (k.wrap (m+l))) w:=fun n a hf=>by simp[execOp,hf.eval hx,hf.eval hy,eqGuard,binOp,Op.intArith]
theorem Q_sub:Qv P E ⟨d,.binOp .sub t x y t',ty,pos,af,g⟩ (.int k (k.wrap (m-l))) w:=fun n a hf=>by simp[execOp,hf.eval hx,hf.eval hy,eqGuard,binOp,Op.intArith]
theorem Q_mul:Qv P E ⟨d,.binOp .mul t x y t',ty,pos,af,g⟩ (.int k (k.wrap (m*l))) w:=fun n a hf=>by simp[execOp,hf.eval hx,hf.eval hy,eqGuard,binOp,Op.intArith]
theorem Q_lss:Qv P E ⟨d,.binOp .lss t x y t',ty,pos,af,g⟩ (.bool (decide (m<l))) w:=fun n a hf=>by simp[execOp,hf.eval hx,hf.eval hy,eqGuard,binOp,Op.intCmp]
theorem Q_leq:Qv P E ⟨d,.binOp .leq t x y t',ty,pos,af,g⟩ (.bool (decide (m≤l))) w:=fun n a hf=>by simp[execOp,hf.eval hx,hf.eval hy,eqGuard,binOp,Op.intCmp]
theorem Q_gtr:Qv P E ⟨d,.binOp .gtr t x y t',ty,pos,af,g⟩ (.bool (decide (m>l))) w:=fun n a hf=>by simp[execOp,hf.eval hx,hf.eval hy,eqGuard,binOp,Op.intCmp]
theorem Q_geq:Qv P E ⟨d,.binOp .geq t x y t',ty,pos,af,g⟩ (.bool (decide (m≥l))) w:=fun n a hf=>by simp[execOp,hf.eval hx,hf.eval hy,eqGuard,binOp,Op.intCmp]
theorem Q_eql:Qv P E ⟨d,.binOp .eql t x y t',ty,pos,af,g⟩ (.bool (m==l)) w:=fun n a hf=>by simp[execOp,hf.eval hx,hf.eval hy,eqGuard,binOp,Op.intCmp]
theorem Q_neq:Qv P E ⟨d,.binOp .neq t x y t',ty,pos,af,g⟩ (.bool (m != l)) w:=fun n a hf=>by simp[execOp,hf.eval hx,hf.eval hy,eqGuard,binOp,Op.intCmp]
theorem Q_quo(h0:l≠0):Qv P E ⟨d,.binOp .quo t x y t',ty,pos,af,g⟩ (.int k (k.wrap (m.tdiv l))) w:=fun n a hf=>by simp[execOp,hf.eval hx,hf.eval hy,eqGuard,binOp,Op.intDiv,h0]
theorem Q_rem(h0:l≠0):Qv P E ⟨d,.binOp .rem t x y t',ty,pos,af,g⟩ (.int k (m.tmod l)) w:=fun n a hf=>by simp[execOp,hf.eval hx,hf.eval hy,eqGuard,binOp,Op.intDiv,h0]
end
def iand(k:IntKind)(m l:Int):Int:=k.wrap (BitVec.ofInt k.bits m&&&BitVec.ofInt k.bits l).toNat
def ior(k:IntKind)(m l:Int):Int:=k.wrap (BitVec.ofInt k.bits m|||BitVec.ofInt k.bits l).toNat
def ixor(k:IntKind)(m l:Int):Int:=k.wrap (BitVec.ofInt k.bits m^^^BitVec.ofInt k.bits l).toNat
def iandn(k:IntKind)(m l:Int):Int:=k.wrap (BitVec.ofInt k.bits m&&& ~~~ BitVec.ofInt k.bits l).toNat
section
variable {k:IntKind}{t t':TypeId}{x y:Operand}{m l:Int}(hx:ev E x=some (.int k m))(hy:ev E y=some (.int k l))
include hx hy
theorem Q_and:Qv P E ⟨d,.binOp .and t x y t',ty,pos,af,g⟩ (.int k (iand k m l)) w:=fun n a hf=>by simp[execOp,hf.eval hx,hf.eval hy,eqGuard,binOp,Op.intBits,iand]
theorem Q_or:Qv P E ⟨d,.binOp .or t x y t',ty,pos,af,g⟩ (.int k (ior k m l)) w:=fun n a hf=>by simp[execOp,hf.eval hx,hf.eval hy,eqGuard,binOp,Op.intBits,ior]
theorem Q_xor:Qv P E ⟨d,.binOp .xor t x y t',ty,pos,af,g⟩ (.int k (ixor k m l)) w:=fun n a hf=>by simp[execOp,hf.eval hx,hf.eval hy,eqGuard,binOp,Op.intBits,ixor]
theorem Q_andNot:Qv P E ⟨d,.binOp .andNot t x y t',ty,pos,af,g⟩ (.int k (iandn k m l)) w:=fun n a hf=>by simp[execOp,hf.eval hx,hf.eval hy,eqGuard,binOp,Op.intBits,iandn]
end
theorem Q_cvI{s t:TypeId}{ks k:IntKind}{x:Operand}{m:Int}(hs: ∃u,P.underlying s=some u)(ht:P.underlying t=some (.int k))(hx:ev E x=some (.int ks m)):
 Qv P E ⟨d,.convert s t x,ty,pos,af,g⟩ (.int k (k.wrap m)) w:=fun n a hf=>by
 obtain⟨u,hu⟩:=hs;simp[execOp,hf.eval hx,convert,run_underlying hu,run_underlying ht,Conv.intToInt]
theorem Q_lenS{e t:TypeId}{x:Operand}{o:Option Addr}{l c:Nat}(ht:P.underlying t=some (.slice e))(hx:ev E x=some (.slice o l c)):
 Qv P E ⟨d,.call {callee:= .builtin .len,args:= #[x],argTypes:= #[t]},ty,pos,af,g⟩ (.int .i64 l) w:=fun n a hf=>by
 simp[execOp,resolve,invoke,builtin,Builtin.len_,run_underlying ht,hf.eval hx,goInt]
theorem Q_len{α:Type}{en:Enc α}{xs:List α}{v:Value}{e t:TypeId}{x:Operand}(ht:P.underlying t=some (.slice e))(hx:ev E x=some v)(hr:RdSl ρ en v xs):
 Qv P E ⟨d,.call {callee:= .builtin .len,args:= #[x],argTypes:= #[t]},ty,pos,af,g⟩ (.int .i64 xs.length) w:=by
 rcases hr with⟨ad,cap,rfl,rfl⟩|⟨b,o,cap,cs,rfl,_⟩
 ·exact Q_lenS ht hx
 exact Q_lenS ht hx
theorem rdL.nil_of{α:Type}{en:Enc α}{xs:List α}(hn:0<en.n)(h:rdL en ρ xs []):xs= []:=by
 cases xs with
 |nil=>rfl
 |cons x xs=>
   have:=h.len;simp[Nat.add_mul]at this;omega
theorem arr_len{α:Type}{en:Enc α}{xs:List α}{v:Value}{cs:List Value}(hn:0<en.n){h:View}(hp:(Arr v en.n cs).P h)(hr:rdL en ρ xs cs): ∃o c,v= .slice o xs.length c:=by
 rcases hp with⟨rfl,rfl⟩|⟨b,o,len,cap,cur,T,rfl,h1,_⟩
 ·have:=rdL.nil_of hn hr;subst this;exact⟨_,_,rfl⟩
 have:=hr.len;rw[h1]at this;have:=Nat.eq_of_mul_eq_mul_right hn this;subst this;exact⟨_,_,rfl⟩
theorem Q_lenA{α:Type}{en:Enc α}{xs:List α}{v:Value}{cs:List Value}{e t:TypeId}{x:Operand}{k:Nat}(hok:Ok w ρ hs)(hk:hs[k]? =some (Arr v en.n cs))(hr:rdL en ρ xs cs)(hn:0<en.n)
 (ht:P.underlying t=some (.slice e)) (hx:ev E x=some v):
 Qv P E ⟨d,.call {callee:= .builtin .len,args:= #[x],argTypes:= #[t]},ty,pos,af,g⟩ (.int .i64 xs.length) w:=by
 obtain⟨o,c,rfl⟩:=arr_len hn (hok.get hk) hr;exact Q_lenS ht hx
theorem Q_fld{s:TypeId}{x:Operand}{f:Nat}{fs:Array Field}{fd:Field}{b o n' by_:Nat}{z:Value}{ag:Bool}(hs:P.underlying s=some (.struct fs))(hf':fs[f]? =some fd)(hty:Ty P fd.type n' by_ z ag)(hn:n'≠0){ad:Addr}
 (hx:ev E x=some (.pointer (some ⟨b,o,none⟩))) (had:(⟨b,o,none⟩:Addr).add fd.offset=ad):Qv P E ⟨d,.fieldAddr s x f,ty,pos,af,g⟩ (.pointer (some ad)) w:=fun n a hf=>by
 subst had;simp[execOp,hf.eval hx,Instr.fieldAt,run_underlying hs,hf',Instr.sureAddr,fieldPlace,hty.sizeOf,hn]
theorem Addr.add_none(b o k:Nat):(⟨b,o,none⟩:Addr).add k=⟨b,o+k,none⟩:=by
 unfold Addr.add;split<;>simp_all
theorem Q_idx{t e:TypeId}{x i:Operand}{v:Value}{m:Int}{b o n' by_:Nat}{z:Value}{ag:Bool}(hi:IdxOk v m n' b o)(ht:P.underlying t=some (.slice e))(hty:Ty P e n' by_ z ag)
 (hx:ev E x=some v) {k:IntKind} (hi':ev E i=some (.int k m)):Qv P E ⟨d,.indexAddr t x i,ty,pos,af,g⟩ (.pointer (some ⟨b,o,none⟩)) w:=fun n a hf=>by
 obtain⟨a0,len,cap,rfl,h0,hlt,rfl⟩:=hi;simp[execOp,hf.eval hx,hf.eval hi',Instr.indexAt,asIntOf,run_underlying ht,h0,hlt,hty.sizeOf,Addr.add_none]
theorem Q_idxA{t e:TypeId}{x i:Operand}{m:Int}{N b o n' by_:Nat}{z:Value}{ag:Bool}(h0:0≤m)(hN:m<N)(ht:P.underlying t=some (.array N e))(hty:Ty P e n' by_ z ag)
 (hx:ev E x=some (.pointer (some ⟨b,o,none⟩))) {k:IntKind} (hi':ev E i=some (.int k m)):Qv P E ⟨d,.indexAddr t x i,ty,pos,af,g⟩ (.pointer (some ⟨b,o+m.toNat*n',none⟩)) w:=fun n a hf=>by
 simp[execOp,hf.eval hx,hf.eval hi',Instr.indexAt,asIntOf,run_underlying ht,Instr.sureAddr,h0,hN,hty.sizeOf,Addr.add_none]
def mkv:Bool→List Value→Value
 |true,cs=> .agg cs.toArray
 |false,[c]=>c
 |false,cs=> .tuple cs.toArray
theorem run_ldv{T:TypeId}{n by_ b o:Nat}{z:Value}{ag:Bool}{cs:List Value}(hty:Ty P T n by_ z ag)(hl:cs.length=n)(h1:ag=false→n=1)(hat:cellsAt (hv w) b o cs):
 (loadVar T ⟨b,o,none⟩).run P w= .ok (mkv ag cs) w:=by
 unfold loadVar;rw[Sem.run_bind,hty.isAgg];simp only[Result.andThen_ok]
 cases ag with
 |true=>
   simp only[if_true,Sem.run_bind,hty.sizeOf,Result.andThen_ok];rw[←hl,run_loadCells_list w ⟨b,o,none⟩ cs (fun j v hj=>by rw[Addr.add_none,hv_cell];exact hat j v hj)];simp[mkv]
 |false=>
   have hn:=h1 rfl;subst hl
   match cs,hn with
   | [c],_=>
     have hc:=hat 0 c (by simp);rw[Nat.add_zero,←hv_cell]at hc;simp[mkv,load,Sem.run,hc]
theorem Q_ld{T:TypeId}{x:Operand}{n' by_ b o:Nat}{z v:Value}{ag:Bool}{cs:List Value}(hat:cellsAt (hv w) b o cs)(hty:Ty P T n' by_ z ag)(hl:cs.length=n')(h1:ag=false→n'=1)
 (hx:ev E x=some (.pointer (some ⟨b,o,none⟩))) (hm:mkv ag cs=v):Qv P E ⟨d,.load T x,ty,pos,af,g⟩ v w:=fun n a hf=>by
 subst hm;simp[execOp,hf.eval hx,Instr.loadAt,Instr.sureAddr,run_ldv hty hl h1 hat]
theorem box_at{b:Nat}{vs:List Value}{h:View}(hp:(Box b vs).P h)(o m:Nat):cellsAt h b o ((vs.drop o).take m):=by
 obtain⟨T,hp⟩:=hp;intro j u hj;rw[List.getElem?_take]at hj;split at hj
 ·rw[List.getElem?_drop]at hj;simp[View.cell,hp,hj]
 cases hj
theorem Q_ldB{T:TypeId}{x:Operand}{n' by_ b o k:Nat}{z v:Value}{ag:Bool}{vs cs:List Value}(hok:Ok w ρ hs)(hk:hs[k]? =some (Box b vs))(hty:Ty P T n' by_ z ag)
 (hx:ev E x=some (.pointer (some ⟨b,o,none⟩))) (hcs:(vs.drop o).take n'=cs) (hl:cs.length=n') (h1:ag=false→n'=1) (hm:mkv ag cs=v):Qv P E ⟨d,.load T x,ty,pos,af,g⟩ v w:=
 Q_ld (hcs▸box_at (hok.get hk) o n') hty hl h1 hx hm
theorem arr_at{α:Type}{en:Enc α}{xs:List α}{x:α}{v:Value}{cs:List Value}{i:Int}{k:Nat}(hn:0<en.n)(hok:Ok w ρ hs)(hk:hs[k]? =some (Arr v en.n cs))(hr:rdL en ρ xs cs)(hx:idx xs i=some x):
 ∃b o,IdxOk v i en.n b o∧en.rd ρ x ((cs.drop (i.toNat*en.n)).take en.n)∧ ∀w',Ok w' ρ hs→cellsAt (hv w') b o ((cs.drop (i.toNat*en.n)).take en.n):=by
 obtain⟨h0,hlt,hx⟩:=idx_some hx;have hg:=hr.get hx;rcases hok.get hk with⟨rfl,rfl⟩|⟨b,o,len,cap,cur,T,rfl,h1,h2,h3,h4,h5⟩
 ·have:=rdL.nil_of hn hr;subst this;simp at hlt
 have hlen:=hr.len;rw[h1]at hlen;refine⟨b,o+i.toNat*en.n,⟨o,len,cap,rfl,h0,?_,rfl⟩,hg,fun w' hok'=>?_⟩
 ·have:=Nat.eq_of_mul_eq_mul_right hn hlen;omega
 rcases hok'.get hk with⟨h6,_⟩|⟨b',o',len',cap',cur',T',h6,h7,h8,h9,h10,h11⟩
 ·cases h6
 injection h6 with h6 h12 h13;injection h6 with h6;injection h6 with h6 h14;subst h6 h12 h13 h14
 have:cellsAt (hv w') b o cs:=fun j u hj=>by
  rw[←h11,List.getElem?_take]at hj;split at hj
  ·rw[List.getElem?_drop]at hj;simp[View.cell,h10];simpa using hj
  cases hj
 exact this.part _ _
end
section
variable {P:Program}{E:Env}{w:World}{C:Cx}{ρ:View}{hs:List Hl}{d:Option Tmp}{ty:TypeId}{pos:String}{af:Array Edge}{g:Option (Nat×Bool)}
theorem Eff.of_run{o:Oper}{post:Value→World→Prop}(h: ∀n a,Fr n a E→ ∃v w',(execOp a.eval o).run P w= .ok (.value v) w'∧post v w'):Eff P E o w post:=fun n a hf K Q hk=>by
 obtain⟨v,w',hr,hp⟩:=h n a hf;unfold Oper.wp;rw[hr];exact hk v w' hp
theorem Eff.of_skip{o:Oper}{post:Value→World→Prop}(h: ∀n a,Fr n a E→ ∃w',(execOp a.eval o).run P w= .ok .skip w'∧post undef w'):Eff P E o w post:=fun n a hf K Q hk=>by
 obtain⟨w',hr,hp⟩:=h n a hf;unfold Oper.wp;rw[hr];exact hk _ w' hp
theorem Eff.mono{o:Oper}{post post':Value→World→Prop}(h:Eff P E o w post)(hp: ∀v w',post v w'→post' v w'):Eff P E o w post':=
 fun n a hf K Q hk=>h n a hf K Q fun v w' h'=>hk v w' (hp v w' h')
theorem run_newRow(T:TypeId)(cs:Array Value):(newRow T cs).run P w= .ok ⟨w.heap.size,0,none⟩ (w.alloc (.cells cs T)):=by
 simp[newRow]
theorem E_alloc(H:Hp C w ρ hs){T:TypeId}{n by_:Nat}{z:Value}{ag:Bool}{zs:List Value}(hty:Ty P T n by_ z ag)(hz:z.cells=zs.toArray):
 Eff P E ⟨d,.alloc T,ty,pos,af,g⟩ w (fun v w'=> ∃b,v= .pointer (some ⟨b,0,none⟩)∧Hp C w' ρ (Box b zs::hs)):=
 Eff.of_run fun n a hf=>⟨_,_,by
  simp only[execOp,Instr.alloc,Sem.run_bind,hty.zeroValue,Result.andThen_ok,newVar,run_newRow,hz];rfl,w.heap.size,rfl,H.alloc _ rfl ⟨T,hv_alloc_new w _⟩⟩
theorem E_box(H:Hp C w ρ hs){T:TypeId}{x:Operand}{v:Value}{vs:List Value}(hx:ev E x=some v)(hz:v.cells=vs.toArray):
 Eff P E ⟨d,.box T x,ty,pos,af,g⟩ w (fun v w'=> ∃b,v= .pointer (some ⟨b,0,none⟩)∧Hp C w' ρ (Box b vs::hs)):=
 Eff.of_run fun n a hf=>⟨_,_,by
  simp only[execOp,Instr.box,Sem.run_bind,Result.andThen_ok,newVar,hf.eval hx,run_newRow,hz];rfl,w.heap.size,rfl,H.alloc _ rfl ⟨T,hv_alloc_new w _⟩⟩
theorem run_stv{T:TypeId}{n by_ b o:Nat}{z v:Value}{ag:Bool}{cs:List Value}{cur:Array Value}{T0:TypeId}(hty:Ty P T n by_ z ag)(hl:cs.length=n)(hvc:v.cells=cs.toArray)
 (h1: ∀u∈cs,u.oneCell'=true) (hb:w.heap[b]? =some (.cells cur T0 (0,0))) (hfit:o+n≤cur.size):
 (storeVar T ⟨b,o,none⟩ v).run P w= .ok () (w.setRow b (setC cur.toList o cs).toArray):=by
 have h:=run_storeCells_at P b o T0 cs 0 cur w hb (by omega) h1;unfold storeVar;rw[Sem.run_bind,hty.sizeOf];simp only[Result.andThen_ok,hvc];simp only[List.size_toArray,hl];simp only[setC];simpa using h
theorem hv_setRow_same{b:Nat}{cur cs:Array Value}{T:TypeId}{fr:Nat×Nat}(hb:w.heap[b]? =some (.cells cur T fr)):hv (w.setRow b cs) b=some (.cells cs T fr):=setRow_heap w b cur cs T fr hb
theorem E_stBu(H:Hp C w ρ hs){k:Nat}{T:TypeId}{x y:Operand}{n by_ b o:Nat}{z v:Value}{ag:Bool}{vs cs vs':List Value}(hk:hs[k]? =some (Box b vs))(hty:Ty P T n by_ z ag)
 (hx:ev E x=some (.pointer (some ⟨b,o,none⟩))) (hy:ev E y=some v) (hvc:v.cells=cs.toArray) (hl:cs.length=n) (h1: ∀u∈cs,u.oneCell'=true) (hfit:o+n≤vs.length) (hs':setC vs o cs=vs'):
 Eff P E ⟨d,.store T x y,ty,pos,af,g⟩ w (fun v w'=>v=undef∧Hp C w' ρ (hs.set k (Box b vs'))):=by
 subst hs';obtain⟨T0,hb⟩:=H.ok.get hk;have hb':w.heap[b]? =some (.cells vs.toArray T0 (0,0)):=hb;refine Eff.of_skip fun n a hf=>⟨w.setRow b (setC vs o cs).toArray,?_,?_⟩
 ·have:=run_stv (w:=w) (cur:=vs.toArray) hty hl hvc h1 hb' (by simpa using hfit);simp only[execOp,hf.eval hx,hf.eval hy,Instr.storeAt,Instr.sureAddr];simp[this]
 refine⟨rfl,?_⟩
 exact H.upd hk rfl (Tp.rfl _) rfl (by simp) (fun b' _ hn=>setRow_other w b b' _ (by simpa[Box]using hn)) (by simp[Box]) (fun b' hb'=> .inl hb')
  (fun b' hb'=>by simp[Box]at hb';subst hb';simpa using lt_of_hv hb) ⟨T0,hv_setRow_same hb'⟩
theorem E_stB(H:Hp C w ρ hs){k:Nat}{T:TypeId}{x y:Operand}{n by_ b o:Nat}{z v:Value}{ag:Bool}{vs cs vs':List Value}(hk:hs[k]? =some (Box b vs))(hty:Ty P T n by_ z ag)
 (hx:ev E x=some (.pointer (some ⟨b,o,none⟩))) (hy:ev E y=some v) (hvc:v.cells=cs.toArray) (hl:cs.length=n) (h1: ∀u∈cs,u.oneCell'=true) (hfit:o+n≤vs.length) (hs':setC vs o cs=vs'):
 Eff P E ⟨d,.store T x y,ty,pos,af,g⟩ w (fun _ w'=>Hp C w' ρ (hs.set k (Box b vs'))):=
 (E_stBu H hk hty hx hy hvc hl h1 hfit hs').mono fun _ _ h=>h.2
theorem setC_part{cur cs c:List Value}{o i:Nat}(h:(cur.drop o).take cs.length=cs)(hfit:i+c.length≤cs.length):((setC cur (o+i) c).drop o).take cs.length=setC cs i c:=by
 have hl:cs.length≤cur.length-o:=by
  have:=congrArg List.length h;simp at this;omega
 apply List.ext_getElem?;intro j;rw[List.getElem?_take]
 have hcs: ∀j,j<cs.length→cs[j]? =cur[o+j]? :=fun j hj=>by
  have:((cur.drop o).take cs.length)[j]? =cs[j]? :=by rw[h]
  rw[←this,List.getElem?_take,if_pos hj,List.getElem?_drop]
 by_cases hj:j<cs.length
 ·rw[if_pos hj,List.getElem?_drop];unfold setC;by_cases h1:j<i
  ·rw[List.append_assoc,List.append_assoc,List.getElem?_append_left (by simp;omega),List.getElem?_append_left (by simp;omega),List.getElem?_take,List.getElem?_take,if_pos (by omega),if_pos h1,hcs j hj]
  by_cases h2:j<i+c.length
  ·rw[List.getElem?_append_left (by simp;omega),List.getElem?_append_right (by simp;omega),List.getElem?_append_left (by simp;omega),List.getElem?_append_right (by simp;omega)]
   congr 1
   simp;omega
  rw[List.getElem?_append_right (by simp;omega),List.getElem?_append_right (by simp;omega),List.getElem?_drop,List.getElem?_drop];have e1:i+c.length+(j-(List.take i cs++c).length)=j:=by simp;omega
  rw[e1,hcs j hj]
  congr 1
  simp;omega
 rw[if_neg hj,List.getElem?_eq_none];unfold setC;simp;omega
theorem E_stAu(H:Hp C w ρ hs){k:Nat}{T:TypeId}{x y:Operand}{n m by_ b o j:Nat}{i:Int}{z v sv:Value}{ag:Bool}{cs c:List Value}(hk:hs[k]? =some (Arr sv n cs))(hty:Ty P T m by_ z ag)
 (hi:IdxOk sv i n b o) (hx:ev E x=some (.pointer (some ⟨b,o+j,none⟩))) (hy:ev E y=some v) (hvc:v.cells=c.toArray) (hl:c.length=m) (h1: ∀u∈c,u.oneCell'=true) (hj:j+m≤n):
 Eff P E ⟨d,.store T x y,ty,pos,af,g⟩ w (fun v w'=>v=undef∧Hp C w' ρ (hs.set k (Arr sv n (setC cs (i.toNat*n+j) c)))):=by
 obtain⟨a0,len,cap,rfl,h0,hlt,rfl⟩:=hi;rcases H.ok.get hk with⟨h6,_⟩|⟨b',o',len',cap',cur,T0,h6,h7,h8,h9,h10,h11⟩
 ·cases h6
 injection h6 with h6 h12 h13;injection h6 with h6;injection h6 with h6 h14;subst h6 h12 h13 h14;have hb':w.heap[b]? =some (.cells cur T0 (0,0)):=h10;have hlen:(i.toNat+1)*n≤len*n:=Nat.mul_le_mul_right _ (by omega);have hlen2:len*n≤cap*n:=Nat.mul_le_mul_right _ h8;rw[Nat.add_mul,Nat.one_mul]at hlen;refine Eff.of_skip fun n' a hf=>⟨w.setRow b (setC cur.toList (a0+i.toNat*n+j) c).toArray,?_,?_⟩
 ·have:=run_stv (w:=w) (o:=a0+i.toNat*n+j) hty hl hvc h1 hb' (by omega);simp only[execOp,hf.eval hx,hf.eval hy,Instr.storeAt,Instr.sureAddr];simp[this]
 refine⟨rfl,?_⟩
 refine H.upd hk rfl (Tp.rfl _) rfl (by simp) (fun b' _ hn=>setRow_other w b b' _ (by simpa[Arr,vblk]using hn)) (by simp[Arr,vblk]) (fun b' hb'=> .inl hb')
  (fun b' hb'=>by simp[Arr,vblk]at hb';subst hb';simpa using lt_of_hv h10) (.inr ⟨b,a0,len,cap,_,T0,rfl,?_,h8,?_,hv_setRow_same hb',?_⟩)
 ·rw[setC_length (by omega)];exact h7
 ·simp only[List.size_toArray];rw[setC_length (by simp;omega)];simpa using h9
 have e:a0+i.toNat*n+j=a0+(i.toNat*n+j):=by omega
 have:=setC_part (i:=i.toNat*n+j) (c:=c) h11 (by omega);rw[e];rw[setC_length (by omega)];simpa using this
theorem E_stA(H:Hp C w ρ hs){k:Nat}{T:TypeId}{x y:Operand}{n m by_ b o j:Nat}{i:Int}{z v sv:Value}{ag:Bool}{cs c:List Value}(hk:hs[k]? =some (Arr sv n cs))(hty:Ty P T m by_ z ag)
 (hi:IdxOk sv i n b o) (hx:ev E x=some (.pointer (some ⟨b,o+j,none⟩))) (hy:ev E y=some v) (hvc:v.cells=c.toArray) (hl:c.length=m) (h1: ∀u∈c,u.oneCell'=true) (hj:j+m≤n):
 Eff P E ⟨d,.store T x y,ty,pos,af,g⟩ w (fun _ w'=>Hp C w' ρ (hs.set k (Arr sv n (setC cs (i.toNat*n+j) c)))):=
 (E_stAu H hk hty hi hx hy hvc hl h1 hj).mono fun _ _ h=>h.2
theorem E_bslice(H:Hp C w ρ hs){t e:TypeId}{xs:List Operand}{vs:List Value}{n by_:Nat}{z:Value}{ag:Bool}{cs:List Value}(ht:P.underlying t=some (.slice e))(hty:Ty P e n by_ z ag)(hn:0<n)
 (hx:evs E xs=some vs) (hsz: ∀v∈vs,v.cells.size=n) (hcs:(vs.flatMap fun v=>v.cells.toList)=cs) (hpos:0<vs.length) (hsm:vs.length*n≤16777216) {len:Nat} (hlen:vs.length=len) {parts:Array (Nat×Operand)} (hparts:parts.toList=(xs.zipIdx 0).map fun x=>(x.2,x.1)):
 Eff P E ⟨d,.buildSlice t len parts,ty,pos,af,g⟩ w (fun v w'=> ∃b,v= .slice (some ⟨b,0,none⟩) len len∧Hp C w' ρ (Arr (.slice (some ⟨b,0,none⟩) len len) n cs::hs)):=by
 obtain⟨ie,hie,hsi,_,hz⟩:=hty.parts;subst hsi hcs hlen;refine Eff.of_run fun n' a hf=>⟨.slice (some ⟨w.heap.size,0,none⟩) vs.length vs.length,w.alloc (.cells (vs.flatMap fun v=>v.cells.toList).toArray e),?_,w.heap.size,rfl,H.alloc _ rfl (.inr ⟨_,0,vs.length,vs.length,_,e,rfl,?_,Nat.le_refl _,?_,hv_alloc_new w _,?_⟩)⟩
 ·have hp:(parts.map fun(i,x)=>(i,a.eval x)).toList=(vs.zipIdx 0).map fun x=>(x.2,x.1):=by
   have hev:=hf.evals hx;rw[Array.toList_map,hparts,List.map_map,←hev];rw[List.zipIdx_map,List.map_map];rfl
  have:=run_buildSlice (P:=P) w t e vs.length (parts.map fun(i,x)=>(i,a.eval x)) (vs.flatMap fun v=>v.cells.toList).toArray ie z ht hie hz (by omega) (by
   have:=Nat.mul_pos hpos hn;omega) (by
    rw[hp];exact Great.fill_whole hn vs _ hsz (by simp))
  simp only[execOp];simp[this]
 all_goals
  have hl:(vs.flatMap fun v=>v.cells.toList).length=vs.length*ie.size:=by
   clear hx hpos hsm hparts
   induction vs with
   |nil=>simp
   |cons v vs ih=>
     simp only[List.flatMap_cons,List.length_append,List.length_cons,Array.length_toList,hsz v (by simp),ih (fun u hu=>hsz u (by simp[hu])),Nat.add_mul];omega
 ·exact hl
 ·simp only[List.size_toArray,hl];omega
 rw[List.drop_zero,List.take_length]
def mk{α:Type}(z:α)(n:Int):Option (List α):=if 0≤n∧n≤4294967296 then some (List.replicate n.toNat z)else none
theorem mk_some{α:Type}{z:α}{n:Int}{xs:List α}(h:mk z n=some xs):0≤n∧n≤4294967296∧xs=List.replicate n.toNat z:=by
 unfold mk at h;split at h
 ·rename_i hc;exact⟨hc.1,hc.2,(Option.some.inj h).symm⟩
 cases h
def repC(n:Nat)(zs:List Value):List Value:=(List.replicate n zs).flatten
theorem rdL_rep{α:Type}{e:Enc α}{z:α}{zs:List Value}(h:e.rd ρ z zs): ∀n,rdL e ρ (List.replicate n z) (repC n zs)
 |0=>rfl
 |n+1=>⟨zs,repC n zs,by simp[repC,List.replicate_succ],h,rdL_rep h n⟩
theorem repC_length(n:Nat)(zs:List Value):(repC n zs).length=n*zs.length:=by
 induction n with
 |zero=>simp[repC]
 |succ n ih=>simp only[repC,List.replicate_succ,List.flatten_cons,List.length_append]at*;rw[ih,Nat.add_mul];omega
theorem repC_get(zs:List Value)(hz:0<zs.length): ∀n j,j<n*zs.length→(repC n zs)[j]? =zs[j %zs.length]?
 |0,j,h=>by simp at h
 |n+1,j,h=>by
   have e:repC (n+1) zs=zs++repC n zs:=by simp[repC,List.replicate_succ]
   rw[e];by_cases hj:j<zs.length
   ·rw[List.getElem?_append_left hj,Nat.mod_eq_of_lt hj]
   rw[List.getElem?_append_right (by omega),repC_get zs hz n (j-zs.length) (by rw[Nat.add_mul,Nat.one_mul]at h;omega)];rw[Nat.mod_eq_sub_mod (a:=j) (by omega)]
theorem E_make(H:Hp C w ρ hs){t e:TypeId}{x:Operand}{k:IntKind}{m:Int}{n by_:Nat}{z:Value}{ag:Bool}{zs:List Value}(ht:P.underlying t=some (.slice e))(hty:Ty P e n by_ z ag)(hz:z.cells=zs.toArray)(hzl:zs.length=n)(hn:0<n)(hby:by_≤32768)
 (hx:ev E x=some (.int k m)) (h0:0≤m) (h1:m≤4294967296):
 Eff P E ⟨d,.makeSlice t x x,ty,pos,af,g⟩ w (fun v w'=> ∃b,v= .slice (some ⟨b,0,none⟩) m.toNat m.toNat∧Hp C w' ρ (Arr (.slice (some ⟨b,0,none⟩) m.toNat m.toNat) n (repC m.toNat zs)::hs)):=by
 obtain⟨ie,hie,hsi,hbi,hzi⟩:=hty.parts;subst hsi hbi
 have hb:(ie.bytes:Int)*m≤281474976710656:=by
  have h2:(ie.bytes:Int)≤32768:=by omega
  have:=Int.mul_le_mul h2 h1 h0 (by omega);omega
 have hcells:madeCells z.cells (m.toNat*ie.size)=(repC m.toNat zs).toArray:=by
  apply Array.ext_getElem?;intro j;simp only[madeCells,hz,List.size_toArray,hzl,List.getElem?_toArray];by_cases hj:j<m.toNat*ie.size
  ·rw[repC_get zs (by omega) _ j (by rw[hzl];exact hj)];simp[hj,hzl];have hlt:j %ie.size<zs.length:=by rw[hzl];exact Nat.mod_lt _ hn
   simp[hlt]
  rw[List.getElem?_eq_none (by rw[repC_length,hzl];omega)];simp;omega
 refine Eff.of_run fun n' a hf=>⟨.slice (some ⟨w.heap.size,0,none⟩) m.toNat m.toNat,w.alloc (.cells (repC m.toNat zs).toArray e),?_,w.heap.size,rfl,H.alloc _ rfl (.inr ⟨_,0,m.toNat,m.toNat,_,e,rfl,?_,Nat.le_refl _,?_,hv_alloc_new w _,?_⟩)⟩
 ·have:=run_make (P:=P) w t e ie z ht hie hzi k k m m h0 (Int.le_refl _) hb (by omega);rw[hcells]at this;simp only[execOp,hf.eval hx];simp[this]
 ·rw[repC_length,hzl]
 ·simp[repC_length,hzl]
 simp
theorem set_self: ∀{l:List Hl} {k:Nat} {x:Hl},l[k]? =some x→l.set k x=l
 | [],_,_,h=>by simp at h
 |y::l,0,x,h=>by simp at h;subst h;rfl
 |y::l,k+1,x,h=>by simp only[List.set_cons_succ];rw[set_self (l:=l) (by simpa using h)]
theorem run_append_roomO(w:World)(t ty e:TypeId)(i:TypeInfo)(ht:P.underlying t=some (.slice e))(hi:P.info? e=some i)
 (b o sLen sCap:Nat) (cur:Array Value) (T0:TypeId) (hg:w.heap[b]? =some (.cells cur T0 (0,0)))
 (ad:Addr) (m c:Nat) (news:List Value) (hl:news.length=m*i.size) (hnews: ∀j u,news[j]? =some u→w.cell? (ad.add j)=some u) (h1: ∀u∈news,u.oneCell'=true)
 (hroom:sLen+m≤sCap) (hfit:o+sCap*i.size≤cur.size):
 (Builtin.append_ #[t,t] ty #[.slice (some ⟨b,o,none⟩) sLen sCap,.slice (some ad) m c]).run P w=
  .ok (.slice (some ⟨b,o,none⟩) (sLen+m) sCap) (w.setRow b (setC cur.toList (o+sLen*i.size) news).toArray):=by
 have hf:=run_firstCells_some (P:=P) w i.size m ad m c news hl hnews;have hm:(sLen+m)*i.size≤sCap*i.size:=Nat.mul_le_mul_right _ hroom;rw[Nat.add_mul]at hm;have hst:=run_storeCells_at P b (o+sLen*i.size) T0 news 0 cur w hg (by omega) h1;simp only[Nat.add_zero]at hst;simp[Builtin.append_,run_underlying ht,sizeOf,typeInfo,hi,Builtin.lenOf,hroom,hf,Addr.add_none,hst,setC]
theorem run_append_noneO(w:World)(t ty e:TypeId)(i:TypeInfo)(ht:P.underlying t=some (.slice e))(hi:P.info? e=some i)(base ad:Option Addr)(sLen sCap c:Nat)(hroom:sLen≤sCap):
 (Builtin.append_ #[t,t] ty #[.slice base sLen sCap,.slice ad 0 c]).run P w= .ok (.slice base sLen sCap) w:=by
 cases base<;>cases ad<;>simp[Builtin.append_,run_underlying ht,sizeOf,typeInfo,hi,Builtin.lenOf,hroom,Builtin.firstCells,storeCells,loadCells,loadCellsFrom]
def Src(h:View)(x:Value)(n:Nat)(news:List Value):Prop:=
 (∃ad c,x= .slice ad 0 c∧news= [])∨ ∃b o m c,x= .slice (some ⟨b,o,none⟩) m c∧news.length=m*n∧cellsAt h b o news
theorem Src.ofArr{k n:Nat}{x:Value}{cs:List Value}(hok:Ok w ρ hs)(hk:hs[k]? =some (Arr x n cs)):Src (hv w) x n cs:=by
 rcases hok.get hk with⟨rfl,rfl⟩|⟨b,o,len,cap,cur,T,rfl,h1,h2,h3,h4,h5⟩
 ·exact .inl ⟨none,0,rfl,rfl⟩
 refine .inr ⟨b,o,len,cap,rfl,h1,fun j u hj=>?_⟩;rw[←h5,List.getElem?_take]at hj;split at hj
 ·rw[List.getElem?_drop]at hj;simp[View.cell,h4];simpa using hj
 cases hj
theorem Src.ofRd{α:Type}{en:Enc α}{x:Value}{xs:List α}(hok:Ok w ρ hs)(hr:RdSl ρ en x xs): ∃cs,rdL en ρ xs cs∧Src (hv w) x en.n cs:=by
 rcases hr with⟨ad,cap,rfl,rfl⟩|⟨b,o,cap,cs,rfl,_,h2,h3⟩
 ·exact⟨[],rfl,.inl ⟨ad,cap,rfl,rfl⟩⟩
 exact⟨cs,h2,.inr ⟨b,o,_,cap,rfl,h2.len,h3.up hok.view⟩⟩
theorem E_append(H:Hp C w ρ hs){k:Nat}{t e:TypeId}{x y:Operand}{sv xv:Value}{n by_:Nat}{z:Value}{ag:Bool}{cs news:List Value}(hk:hs[k]? =some (Arr sv n cs))(ht:P.underlying t=some (.slice e))(hty:Ty P e n by_ z ag)(hzs:z.cells.size=n)(hn:0<n)(hby:by_≤32768)
 (hx:ev E x=some sv) (hy:ev E y=some xv) (hsrc:Src (hv w) xv n news) (h1: ∀u∈news,u.oneCell'=true) (hlen:cs.length+news.length≤4294967296*n):
 Eff P E ⟨d,.call {callee:= .builtin .append,args:= #[x,y],argTypes:= #[t,t]},ty,pos,af,g⟩ w (fun v w'=>Hp C w' ρ (hs.set k (Arr v n (cs++news)))∧v.cells= #[v]):=by
 obtain⟨ie,hie,hsi,hbi,hzi⟩:=hty.parts;subst hsi hbi
 have run: ∃v w',(Builtin.append_ #[t,t] ty #[sv,xv]).run P w= .ok v w'∧Hp C w' ρ (hs.set k (Arr v ie.size (cs++news)))∧v.cells= #[v]:=by
  have hP:=H.ok.get hk;rcases hsrc with⟨ad,c,rfl,rfl⟩|⟨b,o,m,c,rfl,hl,hat⟩
  ·refine⟨sv,w,?_,?_,?_⟩
   ·rcases hP with⟨rfl,rfl⟩|⟨b,o,len,cap,cur,T,rfl,h1,h2,h3,h4,h5⟩
    ·exact run_append_noneO w t ty e ie ht hie none ad 0 0 c (Nat.le_refl _)
    exact run_append_noneO w t ty e ie ht hie _ ad len cap c h2
   ·simp only[List.append_nil];rw[set_self hk];exact H
   rcases hP with⟨rfl,rfl⟩|⟨b,o,len,cap,cur,T,rfl,_⟩<;>rfl
  have hnews: ∀j u,news[j]? =some u→w.cell? ((⟨b,o,none⟩:Addr).add j)=some u:=fun j u hj=>by rw[Addr.add_none,hv_cell];exact hat j u hj
  rcases hP with⟨rfl,rfl⟩|⟨b',o',len,cap,cur,T,rfl,hcl,hlc,hfit,hb,htake⟩
  ·by_cases hm:m=0
   ·subst hm;have:news= []:=by simpa using hl
    subst this;refine⟨.slice none 0 0,w,?_,?_,rfl⟩
    ·simp[Builtin.append_,run_underlying ht,sizeOf,typeInfo,hie,Builtin.lenOf,Builtin.firstCells,loadCells,loadCellsFrom]
    simp only[List.append_nil];rw[set_self hk];exact H
   have hm2:m≤4294967296:=by
    simp only[List.length_nil,Nat.zero_add,hl]at hlen;exact Nat.le_of_mul_le_mul_right hlen hn
   have hbb:m*ie.bytes≤4294967296*32768:=Nat.mul_le_mul hm2 hby;have hr:=run_append_nil (P:=P) w t ty e ie z ht hie hzi ⟨b,o,none⟩ m c news hl hnews (by omega) (by omega) (by omega);refine⟨_,_,hr,?_,rfl⟩;have hge:=grownCap_ge w m 0 e
   refine H.upd hk rfl ⟨rfl,Nat.le_succ w.drawn⟩ rfl (by simp) (fun b hb _=>heap_alloc_old w.drew _ hb) (by simp[Arr,vblk]) (fun b hb=> .inr (by simp[Arr,vblk]at hb;omega)) (fun b hb=>by simp[Arr,vblk]at hb;subst hb;simp)
    (.inr ⟨w.heap.size,0,m,_,_,e,rfl,by simpa using hl,hge,?_,hv_alloc_new w.drew _,?_⟩)
   ·simp only[Array.size_append,List.size_toArray,size_zeroCells,hzs,hl,←Nat.add_mul,Nat.zero_add];exact Nat.mul_le_mul_right _ (by omega)
   simp
  have hm2:len+m≤4294967296:=by
   rw[hcl,hl,←Nat.add_mul]at hlen;exact Nat.le_of_mul_le_mul_right hlen hn
  have hbb:(len+m)*ie.bytes≤4294967296*32768:=Nat.mul_le_mul hm2 hby;by_cases hroom:len+m≤cap
  ·have hr:=run_append_roomO (P:=P) w t ty e ie ht hie b' o' len cap cur T hb ⟨b,o,none⟩ m c news hl hnews h1 hroom hfit;refine⟨_,_,hr,?_,rfl⟩;have hcm:(len+m)*ie.size≤cap*ie.size:=Nat.mul_le_mul_right _ hroom;rw[Nat.add_mul]at hcm
   have hcur:cs.length≤cur.size-o':=by
    have:=congrArg List.length htake;simp at this;omega
   refine H.upd hk rfl (Tp.rfl _) rfl (by simp) (fun b hb hn=>setRow_other w b' b _ (by simpa[Arr,vblk]using hn)) (by simp[Arr,vblk]) (fun b hb=> .inl hb) (fun b hb=>by simp[Arr,vblk]at hb;subst hb;simpa using lt_of_hv (by assumption))
    (.inr ⟨b',o',len+m,cap,_,T,rfl,by simp[hcl,hl,Nat.add_mul],hroom,?_,hv_setRow_same hb,?_⟩)
   ·simp only[List.size_toArray];rw[setC_length (by simp;omega)];simpa using hfit
   simp only[setC];rw[←hcl,List.append_assoc,List.drop_append_of_le_length (by simp;omega),List.drop_take];have e1:o'+cs.length-o'=cs.length:=by omega
   rw[e1,htake,←List.append_assoc,List.take_left]
  have holds: ∀j u,cs[j]? =some u→w.cell? ((⟨b',o',none⟩:Addr).add j)=some u:=fun j u hj=>by
   rw[Addr.add_none,hv_cell];rw[←htake,List.getElem?_take]at hj;split at hj
   ·rw[List.getElem?_drop]at hj;simp[View.cell,hb];simpa using hj
   cases hj
  have hr:=run_append_grow (P:=P) w t ty e ie z ht hie hzi ⟨b',o',none⟩ len cap cs hcl holds ⟨b,o,none⟩ m c news hl hnews (by omega) (by omega) (growslice_fits (by omega) (by omega));refine⟨_,_,hr,?_,rfl⟩;have hge:=grownCap_ge w (len+m) cap e
  refine H.upd hk rfl ⟨rfl,Nat.le_succ w.drawn⟩ rfl (by simp) (fun b hb _=>heap_alloc_old w.drew _ hb) (by simp[Arr,vblk]) (fun b hb=> .inr (by simp[Arr,vblk]at hb;omega)) (fun b hb=>by simp[Arr,vblk]at hb;subst hb;simp)
   (.inr ⟨w.heap.size,0,len+m,_,_,e,rfl,by simp[hcl,hl,Nat.add_mul],hge,?_,hv_alloc_new w.drew _,?_⟩)
  ·simp only[Array.size_append,List.size_toArray,size_zeroCells,hzs,hcl,hl,←Nat.add_mul,Nat.zero_add];exact Nat.mul_le_mul_right _ (by omega)
  simp only[Array.toList_append,List.append_assoc];rw[List.drop_zero,←List.append_assoc,List.take_left' rfl]
 obtain⟨v,w',hr,hp⟩:=run;refine Eff.of_run fun n' a hf=>⟨v,w',?_,hp⟩;simp only[execOp,resolve,invoke,builtin,Sem.run_bind,Sem.run_pure,Result.andThen_ok,List.map_toArray,List.map_cons,List.map_nil,hf.eval hx,hf.eval hy,hr]
def HasFn(P:Program)(f:FuncId):Prop:= ∃fn c,P.funcs[f]? =some fn∧(fn.name== "runtime.NumGoroutine")=false∧fn.body=some c
theorem HasFn.enter{f:FuncId}(h:HasFn P f)(args:Array Value)(w:World):(callFunc f args).run P w= .ok (.enter f args) w:=by
 obtain⟨fn,c,hf,hn,hb⟩:=h;have hn':fn.name≠ "runtime.NumGoroutine" :=by simpa using hn
 simp[callFunc,hf,hn',hb]
theorem E_call{f:FuncId}{xs:List Operand}{vs:List Value}{ats:Array TypeId}{post:Value→World→Prop}(hfn:HasFn P f)(hx:evs E xs=some vs)(hc:Calls P f vs.toArray w (Rets post)):
 Eff P E ⟨d,.call {callee:= .value (.func f),args:=xs.toArray,argTypes:=ats},ty,pos,af,g⟩ w post:=fun n a hf K Q hk=>by
 have hr:(execOp a.eval ⟨d,.call {callee:= .value (.func f),args:=xs.toArray,argTypes:=ats},ty,pos,af,g⟩).run P w= .ok (.enter f vs.toArray) w:=by
  have hev:=hf.evals hx;simp only[execOp,resolve,Act.eval,Deferred.ofValue,List.map_toArray,hev,Sem.run_bind,Sem.run_pure,Result.andThen_ok,invoke,Array.append_empty,Array.empty_append,hfn.enter]
 unfold Oper.wp;rw[hr];refine hc.mono fun e w' he=>?_;obtain⟨v,rfl,hp⟩:=he;exact hk v w' hp
theorem E_callV{f:FuncId}{x:Operand}{xs:List Operand}{vs cap:List Value}{ats:Array TypeId}{post:Value→World→Prop}(hfn:HasFn P f)(hv':ev E x=some (.func (.func f) #[] cap.toArray))(hx:evs E xs=some vs)(hc:Calls P f (vs++cap).toArray w (Rets post)):
 Eff P E ⟨d,.call {callee:= .value x,args:=xs.toArray,argTypes:=ats},ty,pos,af,g⟩ w post:=fun n a hf K Q hk=>by
 have hr:(execOp a.eval ⟨d,.call {callee:= .value x,args:=xs.toArray,argTypes:=ats},ty,pos,af,g⟩).run P w= .ok (.enter f (vs++cap).toArray) w:=by
  have hev:=hf.evals hx;have he:=hf.eval hv';simp only[execOp,resolve,he,Deferred.ofValue,List.map_toArray,hev,Sem.run_bind,Sem.run_pure,Result.andThen_ok,invoke,hfn.enter,List.append_toArray,List.nil_append]
 unfold Oper.wp;rw[hr];refine hc.mono fun e w' he=>?_;obtain⟨v,rfl,hp⟩:=he;exact hk v w' hp
end
@[reducible] def w64(x:Int):Int:=IntKind.i64.wrap x
def iterO{σ τ:Type}:Nat→(σ→Option (σ ⊕ τ))→σ→Option τ
 |0,_,_=>none
 |m+1,f,s=>match f s with
   |none=>none
   |some (.inl s')=>iterO m f s'
   |some (.inr t)=>some t
section
variable {P:Program}{ops:Array Oper}{Q:Exit→Act→World→Prop}{n:FN}{ro:Option Nat}{E:Env}{w:World}{C:Cx}{ρ:View}{hs:List Hl}
theorem C_iter{σ τ:Type}{c:Code}{f:σ→Option (σ ⊕ τ)}{t:τ}{m:Nat}{s:σ}(hI:iterO m f s=some t)(J:σ→Act→World→Prop)(h0: ∀a,Fr n a E→J s a w)
 (round: ∀s o a w,J s a w→f s=some o→(∀t',o= .inr t'→t'=t)→c.wpIn (Fx ro) 0 P (Exit.then (fun a' w'=> ∃s',o= .inl s'∧J s' a' w') Q) a w):CW ro P (.loop c) Q n E w:=by
 refine C_loop m (fun m a w=> ∃s,iterO m f s=some t∧J s a w) (fun a w h=>by obtain⟨s,h,_⟩:=h;simp[iterO]at h) (fun a hf=>⟨s,hI,h0 a hf⟩) ?_;rintro m a w ⟨s,hs,hJ⟩;rw[iterO]at hs
 cases hfs:f s with
 |none=>rw[hfs]at hs;cases hs
 |some o=>
   rw[hfs]at hs
   cases o with
   |inl s'=>
     refine wpIn_mono (round s _ a w hJ hfs (fun _ h=>by cases h)) fun e a w q=>?_;cases e<;>first|exact q|(obtain⟨s'',h1,h2⟩:=q;obtain rfl:=Sum.inl.inj h1;exact⟨_,hs,h2⟩)
   |inr t'=>
     refine wpIn_mono (round s _ a w hJ hfs (fun t'' h=>by obtain rfl:=Sum.inr.inj h;exact Option.some.inj hs)) fun e a w q=>?_;cases e<;>first|exact q|(obtain⟨s'',h1,h2⟩:=q;cases h1)
theorem C_cutQ{x:Code}(A:Act→World→Prop)(hx:CW ro P x (Exit.then A Q) n E w)(hy: ∀a w',A a w'→Q .normal a w'):CW ro P x Q n E w:=
 fun a hf=>wpIn_mono (hx a hf) fun e a w q=>by cases e<;>first|exact hy _ _ q|exact q
theorem XX.at{a:Act}{e:Exit}(hf:Fr n a E)(h:XX Q e n E w):Q e a w:=h a hf
theorem XX.sub{e:Exit}{E':Env}(hs:subE E' E)(h:XX Q e n E' w):XX Q e n E w:=fun a hf=>h a (hf.sub hs)
theorem itT{α:Type}{b:Bool}{x y z:α}(hb:b=true)(h:(if b=true then x else y)=z):x=z:=by rwa[if_pos hb]at h
theorem itF{α:Type}{b:Bool}{x y z:α}(hb:b=false)(h:(if b=true then x else y)=z):y=z:=by rwa[if_neg (by simp[hb])]at h
theorem fn_calls'{f:FuncId}{fn:Func}{c:Code}{args:List Value}{R:Ending→World→Prop}{n:Nat}(hf:P.funcs[f]? =some fn)(hb:fn.body=some c)(hnt:fn.ntmps=n)(hn:args.length≤n)
 (h:CW none P c (bodyPost P fn R) (FN.of n) (argE 0 args) w):Calls P f args.toArray w R:=by subst hnt;exact fn_calls hf hb hn h
theorem Hp.nilArr(H:Hp C w ρ hs)(k:Nat):Hp C w ρ (Arr (.slice none 0 0) k []::hs):=by
 have e:fps (Arr (.slice none 0 0) k []::hs)=fps hs:=by simp[fps,Arr,vblk]
 exact⟨H.os,H.tape,H.out,H.size,H.old,by rw[e];exact H.fresh,by rw[e];exact H.lt,by rw[e];exact H.nodup,H.view,by rw[e];exact H.apart,fun h hh=>by
  rcases List.mem_cons.1 hh with rfl|hh
  ·exact .inl ⟨rfl,rfl⟩
  exact H.all h hh⟩
theorem RdSl.cells{α:Type}{e:Enc α}{v:Value}{xs:List α}(h:RdSl ρ e v xs):v.cells= #[v]:=by
 rcases h with⟨ad,cap,rfl,_⟩|⟨b,o,cap,cs,rfl,_⟩<;>rfl
theorem RdSl.one{α:Type}{e:Enc α}{v:Value}{xs:List α}(h:RdSl ρ e v xs):v.oneCell'=true:=by
 rcases h with⟨ad,cap,rfl,_⟩|⟨b,o,cap,cs,rfl,_⟩<;>rfl
theorem RdSl.nil{α:Type}{e:Enc α}:RdSl ρ e (.slice none 0 0) []:= .inl ⟨none,0,rfl,rfl⟩
theorem arr_cells{v:Value}{k:Nat}{cs:List Value}{h:View}(hp:(Arr v k cs).P h):v.cells= #[v]∧v.oneCell'=true:=by
 rcases hp with⟨rfl,_⟩|⟨b,o,len,cap,cur,T,rfl,_⟩<;>exact⟨rfl,rfl⟩
theorem Hp.lend{A L F:List Hl}(H:Hp C w ρ (A++(L++F))): ∃C' ρ',View.le ρ ρ'∧Hp C' w ρ' A∧(∀h∈L,h.P ρ')∧
 ∀{w' ρ'' B},Hp C' w' ρ'' B→Hp C w' ρ (B++(L++F)):=by
 have e1:fps (A++(L++F))=fps A++(fps L++fps F):=by simp[fps]
 have hn:=H.nodup;rw[e1]at hn;obtain⟨nA,nLF,dA⟩:=List.nodup_append.1 hn;obtain⟨nL,nF,dL⟩:=List.nodup_append.1 nLF;have memA: ∀b∈fps A,b∈fps (A++(L++F)):=fun b hb=>by rw[e1];simp[hb]
 have memL: ∀b∈fps L,b∈fps (A++(L++F)):=fun b hb=>by rw[e1];simp[hb]
 refine⟨⟨w,fps A⟩,fun b=>if b∈fps L then hv w b else ρ b,fun b o hb=>?_,?_,fun h hh=>?_,fun{w' ρ'' B} H'=>?_⟩
 ·have:b∉fps L:=fun hc=>by have:=H.apart b (memL b hc);rw[hb]at this;cases this
  simp[this,hb]
 ·refine⟨rfl,Tp.rfl _,rfl,Nat.le_refl _,fun _ _ _=>rfl,fun b hb=> .inl hb,fun b hb=>H.lt b (memA b hb),nA,fun b o hb=>?_,fun b hb=>?_,fun h hh=>H.all h (by simp[hh])⟩
  ·split at hb
   ·exact hb
   exact H.view b o hb
  have:b∉fps L:=fun hc=>dA b hb b (by simp[hc]) rfl;simp[this,H.apart b (memA b hb)]
 ·refine h.loc (fun b hb=>?_) (H.all h (by simp[hh]));have:b∈fps L:=mem_fps.2 ⟨h,hh,hb⟩;simp[this]
 have e2:fps (B++(L++F))=fps B++(fps L++fps F):=by simp[fps]
 have lfmem: ∀b,b∈fps L++fps F→b∈fps (A++(L++F)):=fun b hb=>by rw[e1];exact List.mem_append.2 (.inr hb)
 have lfA: ∀b,b∈fps L++fps F→b∉fps A:=fun b hb hc=>dA b hc b hb rfl;have keep: ∀b,b<w.heap.size→b∉fps A→w'.heap[b]? =w.heap[b]? :=fun b h1 h2=>H'.old b h1 h2;refine⟨H'.os.trans H.os,H'.tape.trans H.tape,H'.out.trans H.out,Nat.le_trans H.size H'.size,fun b hb hS=>?_,fun b hb=>?_,fun b hb=>?_,?_,fun b o hb=>?_,fun b hb=>?_,fun h hh=>?_⟩
 ·have h1:=H.size;refine(keep b (by omega) fun hc=>?_).trans (H.old b hb hS);rcases H.fresh b (memA b hc)with h2|h2
  ·exact hS h2
  omega
 ·rw[e2]at hb;rcases List.mem_append.1 hb with hb|hb
  ·rcases H'.fresh b hb with h1|h1
   ·exact H.fresh b (memA b h1)
   have h2:w.heap.size≤b:=h1;exact .inr (Nat.le_trans H.size h2)
  exact H.fresh b (lfmem b hb)
 ·rw[e2]at hb;rcases List.mem_append.1 hb with hb|hb
  ·exact H'.lt b hb
  have h1:w.heap.size≤w'.heap.size:=H'.size;exact Nat.lt_of_lt_of_le (H.lt b (lfmem b hb)) h1
 ·rw[e2];refine List.nodup_append.2 ⟨H'.nodup,nLF,fun b hb b' hb' he=>?_⟩;subst he;rcases H'.fresh b hb with h1|h1
  ·exact lfA b hb' h1
  have h2:w.heap.size≤b:=h1;have:=H.lt b (lfmem b hb');omega
 ·have h1:=H.view b o hb;have:b∉fps A:=fun hc=>by have:=H.apart b (memA b hc);rw[hb]at this;cases this
  exact(keep b (lt_of_hv h1) this).trans h1
 ·rw[e2]at hb;rcases List.mem_append.1 hb with hb|hb
  ·rcases H'.fresh b hb with h1|h1
   ·exact H.apart b (memA b h1)
   have h2:w.heap.size≤b:=h1
   cases hr:ρ b with
   |none=>rfl
   |some x=>have:=lt_of_hv (H.view _ x hr);omega
  exact H.apart b (lfmem b hb)
 rcases List.mem_append.1 hh with hh|hh
 ·exact H'.all h hh
 refine h.loc (fun b hb=>?_) (H.all h (List.mem_append.2 (.inr hh)))
 have hb':b∈fps L++fps F:=by
  rcases List.mem_append.1 hh with h1|h1
  ·exact List.mem_append.2 (.inl (mem_fps.2 ⟨h,h1,hb⟩))
  exact List.mem_append.2 (.inr (mem_fps.2 ⟨h,h1,hb⟩))
 exact(keep b (H.lt b (lfmem b hb')) (lfA b hb')).symm
theorem arr_rd{α:Type}{e:Enc α}{v:Value}{xs:List α}{cs:List Value}{ρ':View}(hn:0<e.n)(hl:View.le ρ ρ')(hp:(Arr v e.n cs).P ρ')(hr:rdL e ρ xs cs):RdSl ρ' e v xs:=by
 rcases hp with⟨rfl,rfl⟩|⟨b,o,len,cap,cur,T,rfl,h1,h2,h3,h4,h5⟩
 ·have:=rdL.nil_of hn hr;subst this;exact .inl ⟨none,0,rfl,rfl⟩
 have hlen:=hr.len;rw[h1]at hlen;have:=Nat.eq_of_mul_eq_mul_right hn hlen;subst this;refine .inr ⟨b,o,cap,cs,rfl,h2,rdL.up hl hr,fun j u hj=>?_⟩;rw[←h5,List.getElem?_take]at hj;split at hj
 ·rw[List.getElem?_drop]at hj;simp[View.cell,h4];simpa using hj
 cases hj
end
section
variable {P:Program}{E:Env}{w:World}{C:Cx}{ρ:View}{hs:List Hl}{d:Option Tmp}{ty:TypeId}{pos:String}{af:Array Edge}{g:Option (Nat×Bool)}
theorem idx_lt{α:Type}{xs:List α}{N:Nat}{i:Int}{x:α}(hl:xs.length=N)(h:idx xs i=some x):0≤i∧i<(N:Int):=by
 obtain⟨h0,h1,_⟩:=idx_some h;omega
theorem app_fit{α:Type}{e:Enc α}{xs ys:List α}{cs ds:List Value}(h:rdL e ρ xs cs)(h':rdL e ρ ys ds)(hl:xs.length+ys.length≤4294967296):cs.length+ds.length≤4294967296*e.n:=by
 rw[h.len,h'.len,←Nat.add_mul];exact Nat.mul_le_mul_right _ hl
theorem eA.len{α:Type}{e:Enc α}{N:Nat}{xs:List α}{cs:List Value}(h:(eA N e).rd ρ xs cs):xs.length=N:=h.1
theorem Q_ixI{k:IntKind}{t e:TypeId}{x i:Operand}{N:Nat}{cs:List Value}{xs:List Int}{m y:Int}{n' by_:Nat}{z:Value}{k':IntKind}(hr:rdL (eI k) ρ xs cs)(hl:xs.length=N)(hy:idx xs m=some y)
 (ht:P.underlying t=some (.array N e)) (hx:ev E x=some (.agg cs.toArray)) (hi:ev E i=some (.int k' m)) (hty:Ty P e n' by_ z false) (hn:n'=1):Qv P E ⟨d,.index t x i,ty,pos,af,g⟩ (.int k y) w:=fun n a hf=>by
 obtain⟨h0,hN⟩:=idx_lt hl hy;obtain⟨_,h1,hy⟩:=idx_some hy;obtain rfl:=rdL_ints_eq hr;subst hn
 have hp:(part e (xs.map (Value.int k)).toArray m.toNat).run P w= .ok (.int k y) w:=by
  unfold part;rw[Sem.run_bind,hty.isAgg];simp[hy]
 simp[execOp,hf.eval hx,hf.eval hi,Instr.index,asIntOf,run_underlying ht,h0,hN,hty.sizeOf,hp]
theorem Q_build0{t e:TypeId}{N n by_ n' by':Nat}{z z':Value}{zs:List Value}{ag:Bool}(hty:Ty P t n by_ z true)(ht:P.underlying t=some (.array N e))(hty':Ty P e n' by' z' ag)(hz:z.cells=zs.toArray):
 Qv P E ⟨d,.build t #[],ty,pos,af,g⟩ (.agg zs.toArray) w:=fun n a hf=>by
 simp[execOp,Instr.build,hty.zeroValue,run_underlying ht,hty'.sizeOf,Instr.fill,hz]
structure St(P:Program)(T:TypeId)(fs:Array Field)(pl:List (Nat×Nat))(zs:List Value):Prop where
 und:P.underlying T=some (.struct fs)
 places:fs.toList.mapM (fun f=>(P.info? f.type).map fun i=>(f.offset,i.size))=some pl
 zero: ∃n by_ z ag,Ty P T n by_ z ag∧z.cells=zs.toArray
theorem foldl_set(cs:List Value): ∀(k off:Nat) (cells:Array Value),off+k+cs.length≤cells.size→((cs.zipIdx k).foldl (fun(acc:Array Value) x=>acc.setIfInBounds (off+x.2) x.1) cells).toList=setC cells.toList (off+k) cs:=by
 induction cs with
 |nil=>intro k off cells h;simp[setC]
 |cons c cs ih=>
   intro k off cells h;simp only[List.length_cons]at h;rw[List.zipIdx_cons,List.foldl_cons,ih (k+1) off _ (by simp;omega)];simp only[setC,Array.toList_setIfInBounds,List.length_cons];apply List.ext_getElem?;intro j;simp only[List.append_assoc];by_cases h1:j<off+k
   ·rw[List.getElem?_append_left (by simp;omega),List.getElem?_append_left (by simp;omega),List.getElem?_take,List.getElem?_take,if_pos (by omega),if_pos h1,List.getElem?_set_ne (by omega)]
   by_cases h2:j=off+k
   ·subst h2;rw[List.getElem?_append_left (by simp;omega),List.getElem?_append_right (by simp;omega),List.getElem?_take,if_pos (by omega),List.getElem?_set_self (by simp;omega)];have:(List.take (off+k) cells.toList).length=off+k:=by simp;omega
    rw[this];simp
   by_cases h3:j<off+k+1+cs.length
   ·rw[List.getElem?_append_right (by simp;omega),List.getElem?_append_left (by simp;omega),List.getElem?_append_right (by simp;omega),List.getElem?_append_left (by simp;omega)];simp only[List.length_take,List.length_set,Array.length_toList];have e1:j-min (off+(k+1)) cells.size=j-(off+k)-1:=by omega
    have e2:j-min (off+k) cells.size=(j-(off+k)-1)+1:=by omega
    rw[e1,e2,List.getElem?_cons_succ]
   rw[List.getElem?_append_right (by simp;omega),List.getElem?_append_right (by simp;omega),List.getElem?_append_right (by simp;omega),List.getElem?_append_right (by simp;omega),List.getElem?_drop,List.getElem?_drop];simp only[List.length_take,List.length_set,Array.length_toList,List.length_cons];rw[List.getElem?_set_ne (by omega)]
   congr 1
   omega
def partsOk(pl:List (Nat×Nat))(N:Nat):List (Nat×Value)→List (Nat×List Value)→Prop
 | [],[]=>True
 |(i,v)::r,(off,c)::s=>pl[i]? =some (off,c.length)∧v.cells=c.toArray∧off+c.length≤N∧partsOk pl N r s
 |_,_=>False
theorem fill_parts{pl:List (Nat×Nat)}{N:Nat}: ∀(parts:List (Nat×Value)) (ps:List (Nat×List Value)) (cells:Array Value),cells.size=N→partsOk pl N parts ps→
 Instr.fill (fun i=>pl[i]?) cells parts=some (ps.foldl (fun acc p=>setC acc p.1 p.2) cells.toList).toArray
 | [],[],cells,_,_=>by simp[Instr.fill]
 |(i,v)::r,(off,c)::s,cells,hN,h=>by
   obtain⟨h1,h2,h3,h4⟩:=h;have hf:=foldl_set c 0 off cells (by omega)
   have hf':(v.cells.zipIdx.foldl (fun(cs:Array Value) x=>cs.setIfInBounds (off+x.2) x.1) cells)=(setC cells.toList off c).toArray:=by
    rw[h2];apply Array.toList_inj.1;rw[Nat.add_zero]at hf;rw[←hf];rw[←Array.foldl_toList];simp
   simp only[Instr.fill,h1];rw[if_neg (by simp[h2];omega)];rw[hf',fill_parts r s _ (by rw[List.size_toArray,setC_length (by simp;omega)];simpa using hN) h4];simp
 | [],_::_,_,_,h=>by cases h
 |_::_,[],_,_,h=>by cases h
def evP(E:Env):List (Nat×Operand)→Option (List (Nat×Value))
 | []=>some []
 |(i,x)::r=>match ev E x,evP E r with
   |some v,some vs=>some ((i,v)::vs)
   |_,_=>none
theorem Fr.evalP{n:FN}{a:Act}(h:Fr n a E): ∀{l:List (Nat×Operand)} {vs:List (Nat×Value)},evP E l=some vs→(l.map fun(i,x)=>(i,a.eval x))=vs
 | [],vs,hx=>by simpa[evP]using hx
 |(i,x)::r,vs,hx=>by
   simp only[evP]at hx
   cases hv:ev E x with
   |none=>simp[hv]at hx
   |some v=>
     cases hr:evP E r with
     |none=>simp[hv,hr]at hx
     |some us=>
       simp[hv,hr]at hx;subst hx;simp[h.eval hv,h.evalP hr]
theorem Q_buildS{T:TypeId}{fs:Array Field}{pl:List (Nat×Nat)}{zs:List Value}{parts:List (Nat×Operand)}{vs:List (Nat×Value)}{ps:List (Nat×List Value)}{res:List Value}(hst:St P T fs pl zs)
 (hvs:evP E parts=some vs) (hok:partsOk pl zs.length vs ps) (hres:ps.foldl (fun acc p=>setC acc p.1 p.2) zs=res):Qv P E ⟨d,.build T parts.toArray,ty,pos,af,g⟩ (.agg res.toArray) w:=fun n a hf=>by
 obtain⟨n',by_,z,ag,hty,hz⟩:=hst.zero;obtain⟨it,hit,_,_,hzi⟩:=hty.parts;have hev:=hf.evalP hvs
 have hb:P.built T vs=some res.toArray:=by
  unfold Program.built;simp only[hit,hst.und,hzi,hst.places];have:=fill_parts (N:=zs.length) vs ps z.cells (by rw[hz];simp) hok;simp only[List.getElem?_toArray];rw[this,hz,hres]
 have:=run_build (P:=P) w T vs.toArray res.toArray (by simpa using hb);have e:(parts.toArray.map fun(i,x)=>(i,a.eval x))=vs.toArray:=by rw[←hev];simp
 simp only[execOp,e];simp[this]
end
def Flat{α:Type}(e:Enc α):Prop:= ∀ρ ρ' x cs,e.rd ρ x cs→e.rd ρ' x cs
theorem rdL.flat{α:Type}{e:Enc α}{ρ ρ':View}(hf:Flat e): ∀{xs:List α} {cs:List Value},rdL e ρ xs cs→rdL e ρ' xs cs
 | [],_,h=>h
 |_::_,_,h=>by obtain⟨c,d,rfl,h1,h2⟩:=h;exact⟨c,d,rfl,hf _ _ _ _ h1,rdL.flat hf h2⟩
def RV(P:Program)(w:World)(E:Env):List ResultVar→List Value→Prop
 | [],[]=>True
 | .tmp t::r,v::vs=>look E t=some v∧RV P w E r vs
 | .cell a T::r,v::vs=>(∃ad,look E a=some (.pointer (some ad))∧(loadVar T ad).run P w= .ok v w)∧RV P w E r vs
 |_,_=>False
theorem results_runV{P:Program}{w:World}{E:Env}{n:FN}{fn:Func}{rs:List ResultVar}(hrs:fn.results=rs.toArray){a:Act}{vs:List Value}(hf:Fr n a E)(hv:RV P w E rs vs):(results fn a.tmps).run P w= .ok (packR vs) w:=by
 have key: ∀(f:ResultVar→Sem Value),(∀t,f (.tmp t)=pure (a.tmps.getD t undef))→(∀ad t,f (.cell ad t)=do loadVar t (←asAddr (a.tmps.getD ad undef)))→ ∀(rs:List ResultVar) (vs:List Value),RV P w E rs vs→
  ∀acc:List Value,(rs.foldlM (m:=Sem) (fun(acc:Array Value) r=>do acc.push <$> f r) acc.toArray).run P w= .ok (acc++vs).toArray w:=by
  intro f hf1 hf2 rs
  induction rs with
  |nil=>intro vs h acc;cases vs with|nil=>simp|cons v vs=>cases h
  |cons r rs ih=>
    intro vs h acc
    cases vs with
    |nil=>cases r<;>cases h
    |cons v vs=>
      cases r with
      |tmp t=>
        have h3:=ih vs h.2 (acc++ [v]);have h4:a.tmps.getD t undef=v:=hf.slots t v h.1;simp only[List.foldlM_cons,hf1,h4];simp at h3 ⊢;exact h3
      |cell ad t=>
        obtain⟨⟨p,hp,hl⟩,h2⟩:=h;have h3:=ih vs h2 (acc++ [v]);have h4:a.tmps.getD ad undef= .pointer (some p):=hf.slots ad _ hp;simp only[List.foldlM_cons,hf2,h4];simp[asAddr,hl]at h3 ⊢;exact h3
 have hm: ∀(f:ResultVar→Sem Value),(∀t,f (.tmp t)=pure (a.tmps.getD t undef))→(∀ad t,f (.cell ad t)=do loadVar t (←asAddr (a.tmps.getD ad undef)))→(fn.results.mapM f).run P w= .ok vs.toArray w:=by
  intro f h1 h2;rw[hrs,Array.mapM_eq_foldlM];simpa using key f h1 h2 rs vs hv []
 unfold results;rw[Sem.run_bind,hm _ (fun _=>rfl) (fun _ _=>rfl)];simp only[Result.andThen_ok];clear key hm hv hf
 match vs with
 | []=>simp[packR]
 | [v]=>simp[packR]
 |v::u::r=>simp[packR]
theorem fn_retV{P:Program}{w:World}{E:Env}{n:FN}{fn:Func}{rs:List ResultVar}{vs:List Value}{post:Value→World→Prop}(hrs:fn.results=rs.toArray)(hv:RV P w E rs vs)(h:post (packR vs) w)(hn:n.ds= []:=by rfl):XX (bodyPost P fn (Rets post)) .ret n E w:=
 fun _ hf=>⟨by rw[hf.defers,hn];rfl,_,results_runV hrs hf hv,_,rfl,h⟩
theorem fn_endV{P:Program}{w:World}{E:Env}{n:FN}{fn:Func}{rs:List ResultVar}{vs:List Value}{post:Value→World→Prop}(hrs:fn.results=rs.toArray)(hv:RV P w E rs vs)(h:post (packR vs) w)(hn:n.ds= []:=by rfl):XX (bodyPost P fn (Rets post)) .normal n E w:=
 fun _ hf=>⟨by rw[hf.defers,hn];rfl,_,results_runV hrs hf hv,_,rfl,h⟩
section
variable {P:Program}{E:Env}{w:World}{C:Cx}{ρ:View}{hs:List Hl}{d:Option Tmp}{ty:TypeId}{pos:String}{af:Array Edge}{g:Option (Nat×Bool)}
theorem E_bslice0(H:Hp C w ρ hs){t e:TypeId}{n by_:Nat}{z:Value}{ag:Bool}(ht:P.underlying t=some (.slice e))(hty:Ty P e n by_ z ag):
 Eff P E ⟨d,.buildSlice t 0 #[],ty,pos,af,g⟩ w (fun v w'=> ∃b,v= .slice (some ⟨b,0,none⟩) 0 0∧Hp C w' ρ (Arr (.slice (some ⟨b,0,none⟩) 0 0) n []::hs)):=by
 refine Eff.of_run fun n' a hf=>⟨.slice (some ⟨w.heap.size,0,none⟩) 0 0,w.alloc (.cells #[] e),?_,w.heap.size,rfl,H.alloc _ rfl (.inr ⟨_,0,0,0,_,e,rfl,by simp,Nat.le_refl _,by simp,hv_alloc_new w _,by simp⟩)⟩;have h1:=hty.sizeOf (w:=w);have h2: ∀f:Nat→Value,Array.map f (Array.range 0)= #[]:=fun f=>Array.eq_empty_of_size_eq_zero (by simp);simp[execOp,Instr.buildSlice,run_underlying ht,h1,Instr.fill,run_newRow,h2]
end
theorem one_nil: ∀u∈([]:List Value),u.oneCell'=true:=by simp
theorem one_cons{x:Value}{l:List Value}(h:x.oneCell'=true)(t: ∀u∈l,u.oneCell'=true): ∀u∈x::l,u.oneCell'=true:=by
 intro u hu;rcases List.mem_cons.1 hu with rfl|hu
 ·exact h
 exact t u hu
section
variable {P:Program}{E:Env}{w:World}{C:Cx}{ρ:View}{hs:List Hl}{d:Option Tmp}{ty:TypeId}{pos:String}{af:Array Edge}{g:Option (Nat×Bool)}
theorem run_forEq{N:Nat}{xs ys:List Int}(hx:xs.length=N)(hy:ys.length=N)(f:Nat→Option Bool×Unit→Sem (ForInStep (Option Bool×Unit)))
 (hf: ∀i s,i<N→(f i s).run P w= .ok (if xs[i]? =ys[i]? then .yield (none,())else .done (some false,())) w):
 ∀m i,i+m=N→(forIn (m:=Sem) (List.range' i m) ((none,()):Option Bool×Unit) f).run P w= .ok (if xs.drop i=ys.drop i then(none,())else(some false,())) w
 |0,i,h=>by
   have h1:xs.drop i= []:=List.drop_eq_nil_of_le (by omega);have h2:ys.drop i= []:=List.drop_eq_nil_of_le (by omega);simp[h1,h2]
 |m+1,i,h=>by
   have h1:xs.drop i=xs[i]'(by omega)::xs.drop (i+1):=(List.drop_eq_getElem_cons (by omega));have h2:ys.drop i=ys[i]'(by omega)::ys.drop (i+1):=(List.drop_eq_getElem_cons (by omega));rw[List.range'_succ,List.forIn_cons,Sem.run_bind,hf i _ (by omega)];have e1:xs[i]? =some (xs[i]'(by omega)):=List.getElem?_eq_getElem (by omega);have e2:ys[i]? =some (ys[i]'(by omega)):=List.getElem?_eq_getElem (by omega);simp only[Result.andThen_ok]
   have h3:(xs.drop i=ys.drop i)↔(xs[i]'(by omega)=ys[i]'(by omega)∧xs.drop (i+1)=ys.drop (i+1)):=by
    rw[h1,h2];exact List.cons_eq_cons
   by_cases he:xs[i]'(by omega)=ys[i]'(by omega)
   ·rw[if_pos (by rw[e1,e2,he])];simp only;rw[run_forEq hx hy f hf m (i+1) (by omega)];by_cases ht:xs.drop (i+1)=ys.drop (i+1)
    ·rw[if_pos ht,if_pos (h3.2 ⟨he,ht⟩)]
    rw[if_neg ht,if_neg (fun h=>ht (h3.1 h).2)]
   rw[if_neg (by rw[e1,e2];simpa using he),if_neg (fun h=>he (h3.1 h).1)];simp
theorem run_eqInts{t e:TypeId}{N by_:Nat}{z:Value}{k k':IntKind}{xs ys:List Int}(ht:P.underlying t=some (.array N e))(hty:Ty P e 1 by_ z false)(hu:P.underlying e=some (.int k'))(hx:xs.length=N)(hy:ys.length=N)(D:Nat):
 (Op.equalIn (D+2) t (.agg (xs.map (Value.int k)).toArray) (.agg (ys.map (Value.int k)).toArray)).run P w= .ok (xs==ys) w:=by
 have hp: ∀(l:List Int) (i:Nat) (a:Int),l[i]? =some a→(part e (l.map (Value.int k)).toArray i).run P w= .ok (.int k a) w:=by
  intro l i a hl;unfold part;rw[Sem.run_bind,hty.isAgg];simp[hl]
 have he: ∀a b:Int,(Op.equalIn (D+1) e (.int k a) (.int k b)).run P w= .ok (a==b) w:=by
  intro a b;simp[Op.equalIn,run_underlying hu]
 unfold Op.equalIn;simp only[Sem.run_bind,run_underlying ht,Result.andThen_ok,hty.sizeOf];simp;rw[run_forEq hx hy _ (fun i s hi=>?_) N 0 (by omega)]
 ·simp only[Result.andThen_ok,List.drop_zero];by_cases h:xs=ys<;>simp[h]
 have e1:xs[i]? =some (xs[i]'(by omega)):=List.getElem?_eq_getElem (by omega);have e2:ys[i]? =some (ys[i]'(by omega)):=List.getElem?_eq_getElem (by omega);simp only[Sem.run_bind,hp xs i _ e1,hp ys i _ e2,Result.andThen_ok,he];by_cases h:xs[i]'(by omega)=ys[i]'(by omega)<;>simp[h,e1,e2]
section
variable {t e:TypeId}{N by_:Nat}{z:Value}{k k':IntKind}{xs ys:List Int}{x y:Operand}{t':TypeId}{cs ds:List Value}(ht:P.underlying t=some (.array N e))(hty:Ty P e 1 by_ z false)(hg:P.eqGuardType P.depth t=false)(hu:P.underlying e=some (.int k'))
 (hr:rdL (eI k) ρ xs cs) (hx:xs.length=N) (hr':rdL (eI k) ρ ys ds) (hy:ys.length=N) (he:ev E x=some (.agg cs.toArray)) (he':ev E y=some (.agg ds.toArray))
include ht hty hg hu hr hx hr' hy he he'
theorem Q_eqlA:Qv P E ⟨d,.binOp .eql t x y t',ty,pos,af,g⟩ (.bool (xs==ys)) w:=fun n a hf=>by
 obtain rfl:=rdL_ints_eq hr;obtain rfl:=rdL_ints_eq hr';have:=run_eqInts (P:=P) (w:=w) (k:=k) ht hty hu hx hy 9998;simp[execOp,hf.eval he,hf.eval he',eqGuard,hg,binOp,Op.equal,Op.maxDepth,this]
theorem Q_neqA:Qv P E ⟨d,.binOp .neq t x y t',ty,pos,af,g⟩ (.bool (xs != ys)) w:=fun n a hf=>by
 obtain rfl:=rdL_ints_eq hr;obtain rfl:=rdL_ints_eq hr';have:=run_eqInts (P:=P) (w:=w) (k:=k) ht hty hu hx hy 9998;simp[execOp,hf.eval he,hf.eval he',eqGuard,hg,binOp,Op.equal,Op.maxDepth,this,bne]
end
end
def shlI(k:IntKind)(x y:Int):Int:=k.wrap (x*2^(min y.toNat k.bits))
def shrI(k:IntKind)(x y:Int):Int:=x.fdiv (2^(min y.toNat k.bits))
def nn(y:Int):Option Unit:=if 0≤y then some ()else none
theorem nn_some{y:Int}{u:Unit}(h:nn y=some u):0≤y:=by
 unfold nn at h;split at h
 ·assumption
 cases h
def GErr(ρ:View)(g:Nat)(v:Value):Prop:=cellsAt ρ g 0 [v]∧ ∃T a,v= .iface T (.pointer (some a))
theorem GErr.up{ρ ρ':View}{g:Nat}{v:Value}(hl:View.le ρ ρ')(h:GErr ρ g v):GErr ρ' g v:=⟨h.1.up hl,h.2⟩
theorem GErr.one{ρ:View}{g:Nat}{v:Value}(h:GErr ρ g v):v.oneCell'=true:=by obtain⟨_,T,a,rfl⟩:=h;rfl
theorem GErr.cells{ρ:View}{g:Nat}{v:Value}(h:GErr ρ g v):v.cells= #[v]:=by obtain⟨_,T,a,rfl⟩:=h;rfl
section
variable {P:Program}{E:Env}{w:World}{C:Cx}{ρ:View}{hs:List Hl}{d:Option Tmp}{ty:TypeId}{pos:String}{af:Array Edge}{g:Option (Nat×Bool)}{ops:Array Oper}{Q:Exit→Act→World→Prop}{n:FN}{S:World→Prop}
theorem Q_shl{k k':IntKind}{t t':TypeId}{x y:Operand}{m l:Int}(hx:ev E x=some (.int k m))(hy:ev E y=some (.int k' l))(h0:0≤l):Qv P E ⟨d,.binOp .shl t x y t',ty,pos,af,g⟩ (.int k (shlI k m l)) w:=fun n a hf=>by
 have: ¬l<0:=by omega
 simp[execOp,hf.eval hx,hf.eval hy,eqGuard,binOp,Op.shift,this,shlI]
theorem Q_shr{k k':IntKind}{t t':TypeId}{x y:Operand}{m l:Int}(hx:ev E x=some (.int k m))(hy:ev E y=some (.int k' l))(h0:0≤l):Qv P E ⟨d,.binOp .shr t x y t',ty,pos,af,g⟩ (.int k (shrI k m l)) w:=fun n a hf=>by
 have: ¬l<0:=by omega
 simp[execOp,hf.eval hx,hf.eval hy,eqGuard,binOp,Op.shift,this,shrI]
theorem Q_neg{k:IntKind}{t:TypeId}{x:Operand}{m:Int}(hx:ev E x=some (.int k m)):Qv P E ⟨d,.unOp .neg t x,ty,pos,af,g⟩ (.int k (k.wrap (0-m))) w:=fun n a hf=>by
 simp[execOp,hf.eval hx,Op.unary,Op.intArith]
theorem Q_ldG{T:TypeId}{gl by_:Nat}{z v:Value}(hok:Ok w ρ hs)(hg:GErr ρ gl v)(hty:Ty P T 1 by_ z false):Qv P E ⟨d,.load T (.global gl),ty,pos,af,g⟩ v w:=
 Q_ld (hg.1.up hok.view) hty rfl (fun _=>rfl) rfl rfl
theorem eqIn_EN{t:TypeId}{ms:Array (String×TypeId)}(ht:P.underlying t=some (.interface ms))(D:Nat)(T:TypeId)(v:Value):(Op.equalIn (D+1) t (.iface T v) .nilIface).run P w= .ok false w:=by
 simp[Op.equalIn,run_underlying ht]
theorem eqIn_NN{t:TypeId}{ms:Array (String×TypeId)}(ht:P.underlying t=some (.interface ms))(D:Nat):(Op.equalIn (D+1) t .nilIface .nilIface).run P w= .ok true w:=by
 simp[Op.equalIn,run_underlying ht]
theorem eqIn_SN{t e:TypeId}(ht:P.underlying t=some (.slice e))(D:Nat)(o:Option Addr)(l c:Nat):(Op.equalIn (D+1) t (.slice o l c) (.slice none 0 0)).run P w= .ok o.isNone w:=by
 cases o<;>simp[Op.equalIn,run_underlying ht]
theorem Q_neqE{t t':TypeId}{ms:Array (String×TypeId)}{x:Operand}{v:Value}{gl:Nat}(ht:P.underlying t=some (.interface ms))(hg:GErr ρ gl v)(hx:ev E x=some v):Qv P E ⟨d,.binOp .neq t x (.const .nilIface) t',ty,pos,af,g⟩ (.bool true) w:=fun n a hf=>by
 obtain⟨_,T,ad,rfl⟩:=hg;have h1:a.eval (.const .nilIface)= .nilIface:=rfl;have h2:=fun w=>eqIn_EN (P:=P) (w:=w) ht 9999 T (.pointer (some ad));simp[execOp,hf.eval hx,h1,eqGuard,binOp,Op.equal,Op.maxDepth,h2]
theorem Q_eqlE{t t':TypeId}{ms:Array (String×TypeId)}{x:Operand}{v:Value}{gl:Nat}(ht:P.underlying t=some (.interface ms))(hg:GErr ρ gl v)(hx:ev E x=some v):Qv P E ⟨d,.binOp .eql t x (.const .nilIface) t',ty,pos,af,g⟩ (.bool false) w:=fun n a hf=>by
 obtain⟨_,T,ad,rfl⟩:=hg;have h1:a.eval (.const .nilIface)= .nilIface:=rfl;have h2:=fun w=>eqIn_EN (P:=P) (w:=w) ht 9999 T (.pointer (some ad));simp[execOp,hf.eval hx,h1,eqGuard,binOp,Op.equal,Op.maxDepth,h2]
theorem Q_neqN{t t':TypeId}{ms:Array (String×TypeId)}{x:Operand}(ht:P.underlying t=some (.interface ms))(hx:ev E x=some .nilIface):Qv P E ⟨d,.binOp .neq t x (.const .nilIface) t',ty,pos,af,g⟩ (.bool false) w:=fun n a hf=>by
 have h1:a.eval (.const .nilIface)= .nilIface:=rfl;have h2:=fun w=>eqIn_NN (P:=P) (w:=w) ht 9999;simp[execOp,hf.eval hx,h1,eqGuard,binOp,Op.equal,Op.maxDepth,h2]
theorem Q_eqlN{t t':TypeId}{ms:Array (String×TypeId)}{x:Operand}(ht:P.underlying t=some (.interface ms))(hx:ev E x=some .nilIface):Qv P E ⟨d,.binOp .eql t x (.const .nilIface) t',ty,pos,af,g⟩ (.bool true) w:=fun n a hf=>by
 have h1:a.eval (.const .nilIface)= .nilIface:=rfl;have h2:=fun w=>eqIn_NN (P:=P) (w:=w) ht 9999;simp[execOp,hf.eval hx,h1,eqGuard,binOp,Op.equal,Op.maxDepth,h2]
theorem Q_eqlS{t e t':TypeId}{x:Operand}{o:Option Addr}{l c:Nat}(ht:P.underlying t=some (.slice e))(hx:ev E x=some (.slice o l c)):Qv P E ⟨d,.binOp .eql t x (.const (.slice none 0 0)) t',ty,pos,af,g⟩ (.bool o.isNone) w:=fun n a hf=>by
 have h1:a.eval (.const (.slice none 0 0))= .slice none 0 0:=rfl;have h2:=fun w=>eqIn_SN (P:=P) (w:=w) ht 9999 o l c;simp[execOp,hf.eval hx,h1,eqGuard,binOp,Op.equal,Op.maxDepth,h2]
def gdU(ops:Array Oper)(E:Env)(j:Nat):Prop:= ∃o d,ops[j]? =some o∧o.dst=some d∧look E d=some undef
theorem gdU_yielded{a:Act}(hf:Fr n a E){j:Nat}(h:gdU ops E j):yielded ops a.tmps j=none:=by
 obtain⟨o,d,ho,hd,hl⟩:=h;have:=hf.slots d _ hl;unfold yielded;simp only[Array.getD_eq_getD_getElem?]at this;simp only[ho,Option.bind_some,hd]
 cases ht:a.tmps[d]? with
 |none=>rfl
 |some u=>simp[ht]at this;subst this;rfl
theorem gsu{o:Oper}{rest:List Oper}{j:Nat}{b:Bool}(hg:o.guard=some (j,b))(hj:gdU ops E j)(hd:inN n o.dst=true)(h:WL P ops Q rest n (putE E o.dst undef) w):WL P ops Q (o::rest) n E w:=
 fun a hf=>wpListIn_step fun K hK=>by
  have hw:Region.wanted o (yielded ops a.tmps)=false:=by simp[Region.wanted,hg,gdU_yielded hf hj]
  rw[if_neg (by simp[hw])];exact⟨fun _ _=>trivial,hK _ _ (h _ (hf.putE hd _))⟩
theorem dgsu{i:Nat}{r:Ord}{o:Oper}{j:Nat}{b:Bool}(hi:ops[i]? =some o)(hg:o.guard=some (j,b))(hj:gdU ops E j)(hd:inN n o.dst=true)(h:DL P ops S Q r n (putE E o.dst undef) w):DL P ops S Q (.take i r) n E w:=
 fun a hf=>⟨o,hi,by
  rw[if_neg (by simp[Region.wanted,hg,gdU_yielded hf hj])];exact h _ (hf.putE hd _)⟩
theorem dgesu{i:Nat}{r:Ord}{o:Oper}{j:Nat}{b:Bool}(hi:ops[i]? =some o)(hg:o.guard=some (j,b))(hj:gdU ops E j)(hd:inN n o.dst=true)(h:DL P ops S Q r n (putE E o.dst undef) w):DO P ops S Q i r n E w:=
 fun a hf=>⟨o,hi,by
  rw[if_neg (by simp[Region.wanted,hg,gdU_yielded hf hj])];exact h _ (hf.putE hd _)⟩
end
theorem setC_in{cs c:List Value}{a b n:Nat}(h1:b+c.length≤n)(h2:a+n≤cs.length):setC cs a (setC ((cs.drop a).take n) b c)=setC cs (a+b) c:=by
 have hl:((cs.drop a).take n).length=n:=by simp;omega
 unfold setC;rw[List.take_take,List.length_append,List.length_append,List.length_drop,hl];have e0:min b n=b:=by omega
 have e1:(List.take b (List.drop a cs)).length=b:=by simp;omega
 rw[e0,e1];have e2:a+(b+c.length+(n-(b+c.length)))=a+n:=by omega
 rw[e2,List.drop_take,List.drop_drop];have e3:List.take (a+b) cs=List.take a cs++List.take b (List.drop a cs):=by rw[←List.take_add]
 have e4:List.drop (a+b+c.length) cs=List.take (n-(b+c.length)) (List.drop (a+(b+c.length)) cs)++List.drop (a+n) cs:=by
  have:a+b+c.length=a+(b+c.length):=by omega
  rw[this]
  have h5:List.drop (a+n) cs=List.drop (n-(b+c.length)) (List.drop (a+(b+c.length)) cs):=by
   rw[List.drop_drop];congr 1;omega
  rw[h5,List.take_append_drop]
 rw[e3,e4];simp only[List.append_assoc]
section
variable {P:Program}{E:Env}{w:World}{C:Cx}{ρ:View}{hs:List Hl}{d:Option Tmp}{ty:TypeId}{pos:String}{af:Array Edge}{g:Option (Nat×Bool)}
theorem eqIn_PN{t e:TypeId}(ht:P.underlying t=some (.pointer e))(D:Nat)(o:Option Addr):(Op.equalIn (D+1) t (.pointer o) (.pointer none)).run P w= .ok o.isNone w:=by
 cases o<;>simp[Op.equalIn,run_underlying ht]
theorem Q_eqlP{t e t':TypeId}{x:Operand}{o:Option Addr}(ht:P.underlying t=some (.pointer e))(hx:ev E x=some (.pointer o)):Qv P E ⟨d,.binOp .eql t x (.const (.pointer none)) t',ty,pos,af,g⟩ (.bool o.isNone) w:=fun n a hf=>by
 have h1:a.eval (.const (.pointer none))= .pointer none:=rfl;have h2:=fun w=>eqIn_PN (P:=P) (w:=w) ht 9999 o;simp[execOp,hf.eval hx,h1,eqGuard,binOp,Op.equal,Op.maxDepth,h2]
def imax(m l:Int):Int:=if l>m then l else m
def imin(m l:Int):Int:=if l<m then l else m
theorem Q_max{k:IntKind}{x y:Operand}{ts:Array TypeId}{m l:Int}(hx:ev E x=some (.int k m))(hy:ev E y=some (.int k l)):
 Qv P E ⟨d,.call {callee:= .builtin .max,args:= #[x,y],argTypes:=ts},ty,pos,af,g⟩ (.int k (imax m l)) w:=fun n a hf=>by
 simp[execOp,resolve,invoke,builtin,Builtin.max_,Builtin.max2,hf.eval hx,hf.eval hy,imax]
theorem Q_min{k:IntKind}{x y:Operand}{ts:Array TypeId}{m l:Int}(hx:ev E x=some (.int k m))(hy:ev E y=some (.int k l)):
 Qv P E ⟨d,.call {callee:= .builtin .min,args:= #[x,y],argTypes:=ts},ty,pos,af,g⟩ (.int k (imin m l)) w:=fun n a hf=>by
 simp[execOp,resolve,invoke,builtin,Builtin.min_,Builtin.min2,hf.eval hx,hf.eval hy,imin]
end
theorem Ok.subS{w:World}{ρ:View}{l l':List Hl}(h: ∀x∈l,x∈l')(H:Ok w ρ l'):Ok w ρ l:=⟨H.view,fun x hx=>H.all x (h x hx)⟩
theorem sz_nil{n:Nat}: ∀v∈([]:List Value),v.cells.size=n:=by simp
theorem sz_cons{n:Nat}{x:Value}{l:List Value}(h:x.cells.size=n)(t: ∀v∈l,v.cells.size=n): ∀v∈x::l,v.cells.size=n:=by
 intro u hu;rcases List.mem_cons.1 hu with rfl|hu
 ·exact h
 exact t u hu
def GTab(ρ:View)(g:Nat)(k:IntKind)(xs:List Int):Prop:=cellsAt ρ g 0 (xs.map (.int k))
theorem GTab.up{ρ ρ':View}{g:Nat}{k:IntKind}{xs:List Int}(hl:View.le ρ ρ')(h:GTab ρ g k xs):GTab ρ' g k xs:=cellsAt.up hl h
theorem GTab.at{ρ:View}{g:Nat}{k:IntKind}{xs:List Int}{i y:Int}(h:GTab ρ g k xs)(hy:idx xs i=some y):cellsAt ρ g (0+i.toNat*1) [.int k y]:=by
 obtain⟨h0,h1,hy⟩:=idx_some hy;intro j u hj
 have hj0:j=0:=by
  cases j with
  |zero=>rfl
  |succ j=>simp at hj
 subst hj0;simp at hj;subst hj;have:=h i.toNat (.int k y) (by simp[hy]);simpa using this
def slc{α:Type}(xs:List α)(lo hi:Int):Option (List α):=if 0≤lo∧lo≤hi∧hi≤xs.length then some ((xs.take hi.toNat).drop lo.toNat)else none
theorem slc_some{α:Type}{xs ys:List α}{lo hi:Int}(h:slc xs lo hi=some ys):0≤lo∧lo≤hi∧hi≤xs.length∧ys=(xs.take hi.toNat).drop lo.toNat:=by
 unfold slc at h;split at h
 ·rename_i hc;exact⟨hc.1,hc.2.1,hc.2.2,(Option.some.inj h).symm⟩
 cases h
section
variable {P:Program}{E:Env}{w:World}{C:Cx}{ρ:View}{hs:List Hl}{d:Option Tmp}{ty:TypeId}{pos:String}{af:Array Edge}{g:Option (Nat×Bool)}
theorem eqIn_B{t:TypeId}(ht:P.underlying t=some .bool)(D:Nat)(a b:Bool):(Op.equalIn (D+1) t (.bool a) (.bool b)).run P w= .ok (a==b) w:=by
 simp[Op.equalIn,run_underlying ht]
theorem Q_eqlB{t t':TypeId}{x y:Operand}{a b:Bool}(ht:P.underlying t=some .bool)(hx:ev E x=some (.bool a))(hy:ev E y=some (.bool b)):Qv P E ⟨d,.binOp .eql t x y t',ty,pos,af,g⟩ (.bool (a==b)) w:=fun n ac hf=>by
 have h2:=fun w=>eqIn_B (P:=P) (w:=w) ht 9999 a b;simp[execOp,hf.eval hx,hf.eval hy,eqGuard,binOp,Op.equal,Op.maxDepth,h2]
theorem Q_neqB{t t':TypeId}{x y:Operand}{a b:Bool}(ht:P.underlying t=some .bool)(hx:ev E x=some (.bool a))(hy:ev E y=some (.bool b)):Qv P E ⟨d,.binOp .neq t x y t',ty,pos,af,g⟩ (.bool (a != b)) w:=fun n ac hf=>by
 have h2:=fun w=>eqIn_B (P:=P) (w:=w) ht 9999 a b;simp[execOp,hf.eval hx,hf.eval hy,eqGuard,binOp,Op.equal,Op.maxDepth,h2,bne]
theorem run_bound{v:Value}{k:IntKind}{i:Int}{y:Nat}{code:BoundsCode}(hv:v= .int k i)(h0:0≤i)(h1:i≤y):(Instr.sliceBound v y code).run P w= .ok i.toNat w:=by
 subst hv;simp[Instr.sliceBound,asIntOf,h0,h1]
theorem run_slice{t e:TypeId}{a:Option Addr}{len cap n by_:Nat}{z:Value}{ag:Bool}{lo hi:Int}{vlo vhi:Option Value}(ht:P.underlying t=some (.slice e))(hty:Ty P e n by_ z ag)
 (hlo:vlo=none∧lo=0∨ ∃k,vlo=some (.int k lo)) (hhi:vhi=none∧hi=len∨ ∃k,vhi=some (.int k hi)) (h0:0≤lo) (h1:lo≤hi) (h2:hi≤cap):
 (Instr.slice t (.slice a len cap) vlo vhi none).run P w= .ok (.slice (if cap=lo.toNat then a else a.map (·.add (lo.toNat*n))) (hi.toNat-lo.toNat) (cap-lo.toNat)) w:=by
 have hb:(Instr.sliceBounds true len cap vlo vhi none).run P w= .ok (lo.toNat,hi.toNat,cap) w:=by
  have e1:(match vhi with|some v=>Instr.sliceBound v cap .sliceAcap|none=>pure len:Sem Nat).run P w= .ok hi.toNat w:=by
   rcases hhi with⟨rfl,rfl⟩|⟨k,rfl⟩
   ·simp
   exact run_bound rfl (by omega) h2
  have e2:(match vlo with|some v=>Instr.sliceBound v hi.toNat .sliceB|none=>pure 0:Sem Nat).run P w= .ok lo.toNat w:=by
   rcases hlo with⟨rfl,rfl⟩|⟨k,rfl⟩
   ·simp
   exact run_bound rfl h0 (by omega)
  unfold Instr.sliceBounds;rcases hhi with⟨rfl,rfl⟩|⟨k,rfl⟩<;>rcases hlo with⟨rfl,rfl⟩|⟨k',rfl⟩<;>simp at e1 e2 ⊢ <;>simp[e1,e2]
 simp[Instr.slice,run_underlying ht,hb,hty.sizeOf]
def Bd(E:Env)(dft:Int):Option Operand→Int→Prop
 |none,i=>i=dft
 |some x,i=> ∃k,ev E x=some (.int k i)
theorem Bd.val{n:FN}{a:Act}(hf:Fr n a E){dft:Int}{x:Option Operand}{i:Int}(h:Bd E dft x i):x.map a.eval=none∧i=dft∨ ∃k,x.map a.eval=some (.int k i):=by
 cases x with
 |none=>exact .inl ⟨rfl,h⟩
 |some x=>obtain⟨k,h⟩:=h;exact .inr ⟨k,by simp[hf.eval h]⟩
theorem sliceR{α:Type}{en:Enc α}{v:Value}{xs:List α}{lo hi:Int}(hr:RdSl ρ en v xs)(h0:0≤lo)(h1:lo≤hi)(h2:hi≤xs.length):
 ∃v',RdSl ρ en v' ((xs.take hi.toNat).drop lo.toNat)∧ ∀(E:Env) (w:World) (d:Option Tmp) (ty:TypeId) (pos:String) (af:Array Edge) (g:Option (Nat×Bool)) (t e:TypeId) (by_:Nat) (z:Value) (ag:Bool) (x:Operand) (l h:Option Operand),
   P.underlying t=some (.slice e)→Ty P e en.n by_ z ag→ev E x=some v→Bd E 0 l lo→Bd E xs.length h hi→Qv P E ⟨d,.slice t x l h none,ty,pos,af,g⟩ v' w:=by
 have hlen:((xs.take hi.toNat).drop lo.toNat).length=hi.toNat-lo.toNat:=by simp;omega
 rcases hr with⟨ad,cap,rfl,rfl⟩|⟨b,o,cap,cs,rfl,hc,h3,h4⟩
 ·simp at h2;obtain rfl:hi=0:=by omega
  obtain rfl:lo=0:=by omega
  refine⟨.slice ad 0 cap,.inl ⟨ad,cap,rfl,by simp⟩,?_⟩;intro E w d ty pos af g t e by_ z ag x l h ht hty hx hl hh n a hf;have:=run_slice (P:=P) (w:=w) (a:=ad) (len:=0) (cap:=cap) (lo:=0) (hi:=0) ht hty (hl.val hf) (by exact hh.val hf) (by omega) (by omega) (by omega);simp only[execOp,hf.eval hx,Instr.sliceAt,Sem.run_bind,run_underlying ht,Result.andThen_ok,Option.map_none,this];cases ad<;>simp[Addr.add]
 refine⟨.slice (if cap=lo.toNat then some ⟨b,o,none⟩else(some ⟨b,o,none⟩:Option Addr).map (·.add (lo.toNat*en.n))) (hi.toNat-lo.toNat) (cap-lo.toNat),?_,?_⟩
 ·by_cases hcl:cap=lo.toNat
  ·have hnil:(xs.take hi.toNat).drop lo.toNat= []:=List.eq_nil_of_length_eq_zero (by omega);refine .inr ⟨b,o,cap-lo.toNat,[],?_,by omega,?_,fun j u hj=>by simp at hj⟩
   ·simp[hcl,hnil];omega
   rw[hnil];rfl
  refine .inr ⟨b,o+lo.toNat*en.n,cap-lo.toNat,_,?_,by omega,(h3.take hi.toNat).drop lo.toNat,fun j u hj=>?_⟩
  ·simp only[if_neg hcl,Option.map_some,Addr.add_none,hlen]
  rw[List.getElem?_drop,List.getElem?_take]at hj;split at hj
  ·have:=h4 (lo.toNat*en.n+j) u hj;rwa[←Nat.add_assoc]at this
  cases hj
 intro E w d ty pos af g t e by_ z ag x l h ht hty hx hl hh n a hf;have:=run_slice (P:=P) (w:=w) (a:=some ⟨b,o,none⟩) (len:=xs.length) (cap:=cap) (lo:=lo) (hi:=hi) ht hty (hl.val hf) (hh.val hf) h0 h1 (by omega);simp only[execOp,hf.eval hx,Instr.sliceAt,Sem.run_bind,run_underlying ht,Result.andThen_ok,Option.map_none,this];simp
theorem sliceO{v:Value}{k n lo hi len:Nat}{cs:List Value}(H:Hp C w ρ hs)(hk:hs[k]? =some (Arr v n cs))(hn:0<n)(hl:cs.length=len*n)(h1:lo≤hi)(h2:hi≤len):
 ∃v',Hp C w ρ (hs.set k (Arr v' n ((cs.take (hi*n)).drop (lo*n))))∧ ∀(E:Env) (d:Option Tmp) (ty:TypeId) (pos:String) (af:Array Edge) (g:Option (Nat×Bool)) (t e:TypeId) (by_:Nat) (z:Value) (ag:Bool) (x:Operand) (l h:Option Operand),
   P.underlying t=some (.slice e)→Ty P e n by_ z ag→ev E x=some v→Bd E 0 l lo→Bd E len h hi→ ∀w,Qv P E ⟨d,.slice t x l h none,ty,pos,af,g⟩ v' w:=by
 rcases H.ok.get hk with⟨rfl,rfl⟩|⟨b,o,len',cap,cur,T,rfl,hcl,hlc,hfit,hb,htake⟩
 ·have hl0:len=0:=by
   have:len*n=0:=by simpa using hl.symm
   rcases Nat.mul_eq_zero.1 this with h|h
   ·exact h
   omega
  subst hl0;obtain rfl:hi=0:=by omega
  obtain rfl:lo=0:=by omega
  refine⟨.slice none 0 0,?_,?_⟩
  ·simp only[List.take_nil,List.drop_nil];rw[set_self hk];exact H
  intro E d ty pos af g t e by_ z ag x l h ht hty hx hlo hh w n' a hf;have:=run_slice (P:=P) (w:=w) (a:=none) (len:=0) (cap:=0) (lo:=((0:Nat):Int)) (hi:=((0:Nat):Int)) ht hty (by exact hlo.val hf) (by exact hh.val hf) (by omega) (by omega) (by omega);simp only[execOp,hf.eval hx,Instr.sliceAt,Sem.run_bind,run_underlying ht,Result.andThen_ok,Option.map_none,this];simp
 have e1:len'=len:=Nat.eq_of_mul_eq_mul_right hn (hcl.symm.trans hl);subst e1
 have hlen2:((cs.take (hi*n)).drop (lo*n)).length=(hi-lo)*n:=by
  simp only[List.length_drop,List.length_take,hcl];have:hi*n≤len'*n:=Nat.mul_le_mul_right _ h2;rw[Nat.sub_mul];omega
 have hq: ∀(E:Env) (d:Option Tmp) (ty:TypeId) (pos:String) (af:Array Edge) (g:Option (Nat×Bool)) (t e:TypeId) (by_:Nat) (z:Value) (ag:Bool) (x:Operand) (l h:Option Operand),
  P.underlying t=some (.slice e)→Ty P e n by_ z ag→ev E x=some (.slice (some ⟨b,o,none⟩) len' cap)→Bd E 0 l lo→Bd E len' h hi→ ∀w,Qv P E ⟨d,.slice t x l h none,ty,pos,af,g⟩ (.slice (if cap=lo then some ⟨b,o,none⟩else some ⟨b,o+lo*n,none⟩) (hi-lo) (cap-lo)) w:=by
  intro E d ty pos af g t e by_ z ag x l h ht hty hx hlo hh w n' a hf;have:=run_slice (P:=P) (w:=w) (a:=some ⟨b,o,none⟩) (len:=len') (cap:=cap) (lo:=lo) (hi:=hi) ht hty (hlo.val hf) (hh.val hf) (by omega) (by omega) (by omega);simp only[execOp,hf.eval hx,Instr.sliceAt,Sem.run_bind,run_underlying ht,Result.andThen_ok,Option.map_none,this];simp[Addr.add_none]
 refine⟨_,?_,hq⟩;have hbw:w.heap[b]? =some (.cells cur T (0,0)):=hb;have hfp: ∀o' c1 c2,(Arr (.slice (some ⟨b,o',none⟩) c1 c2) n ((cs.take (hi*n)).drop (lo*n))).fp= [b]:=fun _ _ _=>rfl;have hmn:lo*n+(hi-lo)*n=hi*n:=by rw[←Nat.add_mul];congr 1;omega
 have hmc:hi*n≤cs.length:=by rw[hcl];exact Nat.mul_le_mul_right _ h2
 have hpart:(cur.toList.drop (o+lo*n)).take ((hi-lo)*n)=(cs.take (hi*n)).drop (lo*n):=by
  rw[←htake,List.take_take,Nat.min_eq_left hmc,←hmn,List.drop_take,List.drop_drop]
  congr 1
  omega
 have hcapn:lo*n+(cap-lo)*n=cap*n:=by rw[←Nat.add_mul];congr 1;omega
 by_cases hcl2:cap=lo
 ·simp only[if_pos hcl2];have hz:hi-lo=0:=by omega
  refine H.upd hk rfl (Tp.rfl _) rfl (Nat.le_refl _) (fun _ _ _=>rfl) (by simp[Arr,vblk]) (fun b' hb'=> .inl hb') (fun b' hb'=>by simp[Arr,vblk]at hb';subst hb';exact lt_of_hv hb) (.inr ⟨b,o,hi-lo,cap-lo,cur,T,rfl,hlen2,by omega,by omega,hb,?_⟩);rw[hlen2,hz];have:((cs.take (hi*n)).drop (lo*n)).length=0:=by rw[hlen2,hz];simp
  rw[List.eq_nil_of_length_eq_zero this];simp
 simp only[if_neg hcl2];refine H.upd hk rfl (Tp.rfl _) rfl (Nat.le_refl _) (fun _ _ _=>rfl) (by simp[Arr,vblk]) (fun b' hb'=> .inl hb') (fun b' hb'=>by simp[Arr,vblk]at hb';subst hb';exact lt_of_hv hb) (.inr ⟨b,o+lo*n,hi-lo,cap-lo,cur,T,rfl,hlen2,by omega,by omega,hb,?_⟩);rw[hlen2];exact hpart
end
open Go Go.Proofs.YtnkednnnkifenaaGreatDoor
structure Reads{α:Type}(P:Program)(t:TypeId)(e:Enc α)(Q:α→Prop)(m:α→Nat):Prop where
 n:P.cellsOf t=e.n
 rd: ∀{H:Type} {enc:TypeId×Value→H} {w:World} {sp:Nat→Bool} {held:Bool} {fuel:Nat} {cs:List Value} {x:DataW H×List MemPlace},DataW.trod enc P w 0 sp held fuel t cs=some x→
  ∃a,e.rd (hv w) a cs∧Q a∧m a≤Rows.uptoBulk x.1
section
variable {P:Program}{t:TypeId}
def InK(k:IntKind)(x:Int):Prop:=k.min≤x∧x≤k.max
theorem u8_rng{x:Int}(h:InK .u8 x):0≤x∧x<256:=by
 unfold InK at h;have e1:IntKind.min .u8=0:=rfl;have e2:IntKind.max .u8=255:=rfl;rw[e1,e2]at h;omega
theorem Reads.int{k:IntKind}(ht:P.underlying t=some (.int k))(hn:P.cellsOf t=1):Reads P t (eI k) (InK k) (fun _=>1):=
 ⟨hn,fun h=>by
  obtain⟨n,rfl,rfl,hw⟩:=DataW.trod_int ht h;exact⟨n,rfl,by simpa[Lit.wf,InK]using hw,by simp[Rows.uptoBulk]⟩⟩
theorem Reads.bool(ht:P.underlying t=some .bool)(hn:P.cellsOf t=1):Reads P t eB (fun _=>True) (fun _=>1):=
 ⟨hn,fun h=>by
  obtain⟨b,rfl,rfl⟩:=DataW.trod_bool ht h;exact⟨b,rfl,trivial,by simp[Rows.uptoBulk]⟩⟩
theorem Reads.str(ht:P.underlying t=some .string)(hn:P.cellsOf t=1):Reads P t eS (fun s=>s.size≤maxLen) (fun s=>s.size+1):=
 ⟨hn,fun h=>by
  obtain⟨s,rfl,rfl,hm⟩:=DataW.trod_string ht h;refine⟨s,rfl,hm,?_⟩;simp only[Rows.uptoBulk,Array.length_toList];exact Nat.le_refl _⟩
def sumOf{α:Type}(m:α→Nat):List α→Nat
 | []=>0
 |x::l=>m x+sumOf m l
theorem sumOf_app{α:Type}(m:α→Nat): ∀l r:List α,sumOf m (l++r)=sumOf m l+sumOf m r
 | [],r=>by simp[sumOf]
 |x::l,r=>by simp[sumOf,sumOf_app m l r];omega
theorem bulkAll_app{H:Type}: ∀l r:List (DataW H),Rows.uptoBulkAll (l++r)=Rows.uptoBulkAll l+Rows.uptoBulkAll r
 | [],r=>by simp[Rows.uptoBulkAll]
 |x::l,r=>by simp[Rows.uptoBulkAll,bulkAll_app l r];omega
theorem cellsAt_of{w:World}{a:Addr}{n:Nat}{cs:List Value}(ha:a.spot=none)(h:w.cells? 0 a n=some cs):cellsAt (hv w) a.block a.off cs:=fun j u hj=>by
 obtain⟨_,hl,hc⟩:=World.cells?_some h;have hlt:=(List.getElem?_eq_some_iff.1 hj).1;have:=hc j (by omega);obtain⟨b,o,s⟩:=a;simp at ha;subst ha;rw[Addr.add_none,hv_cell,hj]at this;exact this
theorem cellsAt.app{ρ:View}{b o:Nat}{c1 c2:List Value}(h1:cellsAt ρ b o c1)(h2:cellsAt ρ b (o+c1.length) c2):cellsAt ρ b o (c1++c2):=fun j u hj=>by
 by_cases hlt:j<c1.length
 ·rw[List.getElem?_append_left hlt]at hj;exact h1 j u hj
 rw[List.getElem?_append_right (by omega)]at hj;have:=h2 _ u hj;rwa[show o+c1.length+(j-c1.length)=o+j by omega]at this
theorem Reads.slice{α:Type}{e:TypeId}{en:Enc α}{Q:α→Prop}{m:α→Nat}(h:Reads P e en Q m)(ht:P.underlying t=some (.slice e))(hn:P.cellsOf t=1)(hp:0<en.n):
 Reads P t (eL en) (fun l=>l.length≤maxLen∧ ∀x∈l,Q x) (fun l=>sumOf m l+1):=
 ⟨hn,fun{H enc w sp held fuel cs x} hx=>by
  rcases Deep.open_slice ht hx with⟨rfl,rfl⟩|⟨a,len,cap,M,n,D,Pl,rfl,_,hlc,hcm,hM,rfl,hel⟩
  ·exact⟨[],⟨_,rfl,.inl ⟨none,0,rfl,rfl⟩⟩,⟨by simp,by simp⟩,by simp[sumOf,Rows.uptoBulk]⟩
  have hle:len≤M:=by rw[hM];split<;>omega
  by_cases h0:len=0
  ·subst h0;exact⟨[],⟨_,rfl,.inl ⟨some a,cap,rfl,rfl⟩⟩,⟨by simp,by simp⟩,by simp[sumOf,Rows.uptoBulk]⟩
  have hsp:a.spot=none:=by
   obtain⟨cs',h1,_⟩:=hel 0 (by omega);obtain⟨_,hl,hc⟩:=World.cells?_some h1;have h2:=hc 0 (by rw[h.n];exact hp);have hlt:0<cs'.length:=by rw[hl,h.n];exact hp
   rw[List.getElem?_eq_getElem hlt]at h2;simp only[Nat.zero_mul]at h2;have e0:(a.add 0).add 0=a:=by simp[Addr.add]
   rw[e0]at h2;unfold World.cell? at h2;split at h2
   ·split at h2
    ·cases h2
    rename_i hs;simpa using hs
   cases h2
  have key: ∀k,k≤len→ ∃(xs:List α) (cs:List Value),xs.length=k∧rdL en (hv w) xs cs∧cellsAt (hv w) a.block a.off cs∧(∀x∈xs,Q x)∧sumOf m xs≤Rows.uptoBulkAll ((List.range k).map D):=by
   intro k
   induction k with
   |zero=>intro _;exact⟨[],[],rfl,rfl,fun j u hj=>by simp at hj,by simp,by simp[sumOf]⟩
   |succ k ih=>
     intro hk;obtain⟨xs,cs,hl,hr,hat,hq,hb⟩:=ih (by omega);obtain⟨cs',h1,h2⟩:=hel k (by omega);obtain⟨y,hy1,hy2,hy3⟩:=h.rd h2;have hlen:cs.length=k*en.n:=by rw[hr.len,hl]
     refine⟨xs++ [y],cs++cs',by simp[hl],hr.app (rdL.single hy1),hat.app ?_,?_,?_⟩
     ·obtain⟨b,o,s⟩:=a;simp at hsp;subst hsp;rw[h.n,Addr.add_none]at h1;rw[hlen];exact cellsAt_of rfl h1
     ·intro x hx;rcases List.mem_append.1 hx with hx|hx
      ·exact hq x hx
      simp at hx;subst hx;exact hy2
     rw[sumOf_app,List.range_succ,List.map_append,bulkAll_app];simp only[sumOf,List.map_cons,List.map_nil,Rows.uptoBulkAll];simp only at hy3;omega
  obtain⟨xs,cs,hl,hr,hat,hq,hb⟩:=key len (Nat.le_refl _);obtain⟨b,o,s⟩:=a;simp at hsp;subst hsp;refine⟨xs,⟨_,rfl,.inr ⟨b,o,cap,cs,by rw[hl],by omega,hr,hat⟩⟩,⟨by omega,hq⟩,?_⟩;simp only[Rows.uptoBulk];omega⟩
theorem Reads.array{α:Type}{e:TypeId}{en:Enc α}{Q:α→Prop}{m:α→Nat}{N:Nat}(h:Reads P e en Q m)(ht:P.underlying t=some (.array N e))(hn:P.cellsOf t=N*en.n):
 Reads P t (eA N en) (fun l=>l.length=N∧ ∀x∈l,Q x) (fun l=>sumOf m l+1):=
 ⟨hn,fun{H enc w sp held fuel cs x} hx=>by
  cases fuel with
  |zero=>simp[DataW.trod]at hx
  |succ fuel=>
    unfold DataW.trod at hx;rw[ht]at hx;simp only at hx;split at hx
    ·rename_i hcl;obtain⟨xs,hmap,rfl⟩:=Option.map_eq_some_iff.1 hx;have hxl:xs.length=N:=by simpa using mapM_some_length hmap
     have key: ∀k,k≤N→ ∃(l:List α),l.length=k∧rdL en (hv w) l (cs.take (k*en.n))∧(∀x∈l,Q x)∧sumOf m l≤Rows.uptoBulkAll ((xs.take k).map (·.1)):=by
      intro k
      induction k with
      |zero=>intro _;exact⟨[],rfl,by simp[rdL],by simp,by simp[sumOf]⟩
      |succ k ih=>
        intro hk;obtain⟨l,hl,hr,hq,hb⟩:=ih (by omega);have h2:=mapM_some_get hmap k k (by rw[List.getElem?_range (by omega)]);obtain⟨y,hy1,hy2,hy3⟩:=h.rd (h2.trans (List.getElem?_eq_getElem (by omega)));rw[h.n]at hy1;refine⟨l++ [y],by simp[hl],?_,?_,?_⟩
        ·have:=hr.app (rdL.single hy1);rw[Nat.add_mul,Nat.one_mul,List.take_add];exact this
        ·intro x hx;rcases List.mem_append.1 hx with hx|hx
         ·exact hq x hx
         simp at hx;subst hx;exact hy2
        rw[sumOf_app,List.take_add_one,List.getElem?_eq_getElem (by omega),List.map_append,bulkAll_app];simp only[sumOf,Option.toList,List.map_cons,List.map_nil,Rows.uptoBulkAll];omega
     obtain⟨l,hl,hr,hq,hb⟩:=key N (Nat.le_refl _);have e1:cs.take (N*en.n)=cs:=List.take_of_length_le (by omega);have e2:xs.take N=xs:=List.take_of_length_le (by omega);rw[e1]at hr;rw[e2]at hb;refine⟨l,⟨hl,hr⟩,⟨hl,hq⟩,?_⟩;simp only[Rows.uptoBulk];omega
    cases hx⟩
end
theorem Hp.start(W:World):Hp ⟨W,[]⟩ W (hv W) [] where
 os:=rfl
 tape:=Tp.rfl _
 out:=rfl
 size:=Nat.le_refl _
 old _ _ _:=rfl
 fresh _ h:=by simp[fps]at h
 lt _ h:=by simp[fps]at h
 nodup:=by simp[fps]
 view:=View.le_refl _
 apart _ h:=by simp[fps]at h
 all _ h:=by simp at h
theorem Hp.below{W w':World}{ρ:View}{hs:List Hl}(H:Hp ⟨W,[]⟩ w' ρ hs):RowKit.Below W.heap.size W w':=
 ⟨H.os,H.tape.1,H.out,H.size,fun b hb=>H.old b hb (by simp)⟩
section
variable {H:Type}{enc:TypeId×Value→H}{P:Program}
theorem trodAll_stays(hl:laidOutB P=true){W W':World}(hb:RowKit.Below W.heap.size W W'){sp':Nat→Bool}:
 ∀{ts:List TypeId} {vs:List Value} {ds:List (DataW H)} {ps:List MemPlace},(∀t∈ts,P.readableRec t=true∧t<P.types.size)→DataW.TrodAll enc P W 0 (fun _=>true) true ts vs ds ps→
   (∀p∈ps,p.block<W.heap.size)→(∀p∈ps,sp' p.block=true)→DataW.TrodAll enc P W' 0 sp' true ts vs ds ps
 | [],_,_,_,_,h,_,_=>by
   obtain⟨rfl,rfl,rfl⟩:=ChangeShapes.trodAll_nil h;exact rfl
 |t::ts,_,_,_,ht,h,h1,h2=>by
   obtain⟨v,vs,d,ds,a,b,rfl,rfl,rfl,hd,hr⟩:=ChangeShapes.trodAll_cons h;have hlt:=ht t (by simp)
   exact⟨a,b,WideElems.Trod_stays hl hlt.1 hlt.2 hd (fun x hx=>hb.same (h1 x (by simp[hx]))) (fun x hx=>h2 x (by simp[hx])),
    trodAll_stays hl hb (fun t ht'=>ht t (by simp[ht'])) hr (fun x hx=>h1 x (by simp[hx])) (fun x hx=>h2 x (by simp[hx])),rfl⟩
theorem post_law{f:Func}{s:ChangeSpec}{apart fresh handsOn again:Bool}{W W':World}{args:Array Value}{ds gs:List (DataW H)}{before:List MemPlace}{tb:TypeId}
 (hl:laidOutB P=true) (hrd: ∀t∈f.params.toList,P.readableRec t=true∧t<P.types.size) (hs:s.vars= []) (hfn:(s.fn H ds).results= [.lit (.bool true)]∧(s.fn H ds).args=ds∧(s.fn H ds).vars= [])
 (hr:f.resultTypes= #[tb]) (htb:P.underlying tb=some .bool) (hW:DataW.Whole enc P f.params.toList s.vars apart W args.toList ds gs before) (hb:RowKit.Below W.heap.size W W'):
 s.post enc P f apart fresh handsOn again W args (.bool true) W':=by
 have hW':=hW;obtain⟨p,q,hA,hV,rfl,hz,hn⟩:=hW;rw[hs]at hV
 obtain⟨rfl,rfl⟩:gs= []∧q= []:=by
  cases gs with
  |nil=>exact⟨rfl,hV⟩
  |cons g gs=>exact hV.elim
 have hlt: ∀x∈p++ [],x.block<W.heap.size:=fun x hx=>by simpa using hW'.lt x hx
 have hold: ∀x∈p++ [],(fun b=>decide (b<W.heap.size)) x.block=true:=fun x hx=>by simpa using hlt x hx
 have hargs: ∀sp:Nat→Bool,(∀x∈p++ [],sp x.block=true)→DataW.TrodAll enc P W' 0 sp true f.params.toList args.toList (s.fn H (ds++ [])).args p:=fun sp hsp=>by
  rw[List.append_nil,hfn.2.1];exact trodAll_stays hl hb hrd hA (fun x hx=>hlt x (by simp[hx])) (fun x hx=>hsp x (by simp[hx]))
 have hres: ∀(b:Nat) (sp:Nat→Bool) (hd:Bool),DataW.TrodAll enc P W' b sp hd f.resultTypes.toList ((Value.bool true).resultList f.resultTypes.size) (s.fn H (ds++ [])).results []:=fun b sp hd=>by
  rw[List.append_nil,hfn.1,hr];exact Go.trodAll_cons_mk (RowKit.shut_bool htb true) ChangeShapes.trodAll_mk0
 have hvars: ∀sp:Nat→Bool,DataW.TrodVars enc P W' sp s.vars (s.fn H (ds++ [])).vars []:=fun sp=>by
  rw[List.append_nil,hfn.2.2,hs];exact rfl
 refine⟨ds,[],p++ [],[],p,[],hW',hres _ _ _,hargs _ hold,hvars _,hb.frame _,fun _=>⟨?_,_,_,([]++p)++ [],⟨[]++p,[],ChangeShapes.trodAll_append (hargs _ (fun _ _=>rfl)) (hres _ _ _),hvars _,rfl,?_,?_⟩,?_⟩⟩
 ·intro j t r hj hv;rw[hr]at hj hv
  match j,hj,hv with
  |0,hj,hv=>
    simp[Value.resultList]at hj hv;subst hj;subst hv;exact RowKit.okWide_bool_mk htb _
 ·intro b off hp;have hp':MemPlace.cell b off∈p++ []:=by simpa using hp
  rw[hb.frozen (hlt _ hp')];exact hz b off hp'
 ·intro ha;have:=hn ha;simpa using this
 intro x hx _;simpa using hx
end
structure ReadsFs{α:Type}(P:Program)(fs:List Field)(off:Nat)(e:Enc α)(Q:α→Prop)(m:α→Nat):Prop where
 rd: ∀{H:Type} {enc:TypeId×Value→H} {w:World} {sp:Nat→Bool} {held:Bool} {n:Nat} {cs:List Value} {xs:List (DataW H×List MemPlace)},xs.length=fs.length→
  (∀(i:Nat) (f:Field),fs[i]? =some f→DataW.trod enc P w 0 sp held n f.type ((cs.drop f.offset).take (P.cellsOf f.type))=xs[i]?)→
  ∃a,e.rd (hv w) a ((cs.drop off).take e.n)∧Q a∧m a≤Rows.uptoBulkAll (xs.map (·.1))
section
variable {P:Program}{t:TypeId}
theorem ReadsFs.one{α:Type}{f:Field}{off:Nat}{e:Enc α}{Q:α→Prop}{m:α→Nat}(h:Reads P f.type e Q m)(ho:f.offset=off):ReadsFs P [f] off e Q m:=
 ⟨fun{H enc w sp held n cs xs} hl hx=>by
  obtain⟨y,rfl⟩: ∃y,xs= [y]:=by
   match xs,hl with
   | [y],_=>exact⟨y,rfl⟩
  have h0:=hx 0 f rfl;rw[h.n,ho]at h0;obtain⟨a,h1,h2,h3⟩:=h.rd (h0.trans rfl);exact⟨a,h1,h2,by simpa[Rows.uptoBulkAll]using h3⟩⟩
theorem ReadsFs.cons{α β:Type}{f:Field}{fs:List Field}{off:Nat}{e:Enc α}{e2:Enc β}{Q:α→Prop}{Q2:β→Prop}{m:α→Nat}{m2:β→Nat}(h:Reads P f.type e Q m)(ho:f.offset=off)(h2:ReadsFs P fs (off+e.n) e2 Q2 m2):
 ReadsFs P (f::fs) off (eP e e2) (fun x=>Q x.1∧Q2 x.2) (fun x=>m x.1+m2 x.2):=
 ⟨fun{H enc w sp held n cs xs} hl hx=>by
  obtain⟨y,ys,rfl⟩: ∃y ys,xs=y::ys:=by
   match xs,hl with
   |y::ys,_=>exact⟨y,ys,rfl⟩
  have h0:=hx 0 f rfl;rw[h.n,ho]at h0;obtain⟨a,a1,a2,a3⟩:=h.rd (h0.trans rfl);obtain⟨b,b1,b2,b3⟩:=h2.rd (xs:=ys) (by simpa using hl) (fun i g hg=>hx (i+1) g hg);refine⟨(a,b),⟨_,_,?_,a1,b1⟩,⟨a2,b2⟩,?_⟩
  ·show(cs.drop off).take (e.n+e2.n)=_;rw[List.take_add,List.drop_drop]
  simp only[List.map_cons,Rows.uptoBulkAll];omega⟩
theorem Reads.struct{α:Type}{fs:Array Field}{e:Enc α}{Q:α→Prop}{m:α→Nat}(ht:P.underlying t=some (.struct fs))(hn:P.cellsOf t=e.n)(h:ReadsFs P fs.toList 0 e Q m):Reads P t e Q (fun x=>m x+1):=
 ⟨hn,fun{H enc w sp held fuel cs x} hx=>by
  obtain⟨xs,n,rfl,rfl,hl,hs,hf⟩:=DataW.trod_struct ht hx;obtain⟨a,h1,h2,h3⟩:=h.rd (xs:=xs) (by simpa using hs) (fun i f hi=>hf i f (by simpa using hi));refine⟨a,?_,h2,?_⟩
  ·rw[List.drop_zero,List.take_of_length_le (by omega)]at h1;exact h1
  simp only[Rows.uptoBulk];omega⟩
end
theorem cellsAt.cg{ρ:View}{b o:Nat}{cs cs':List Value}(e:cs=cs')(h:cellsAt ρ b o cs):cellsAt ρ b o cs':=e▸h
theorem cat2{c a b a' b':List Value}(h:c=a++b)(ha:a=a')(hb:b=b'):c=a'++b':=by subst ha hb;exact h
def nz(y:Int):Option Unit:=if y=0 then none else some ()
theorem nz_some{y:Int}{u:Unit}(h:nz y=some u):y≠0:=by
 unfold nz at h;split at h
 ·cases h
 assumption
theorem Bd.cast{E:Env}{dft:Int}{x:Option Operand}{i:Int}(h0:0≤i)(h:Bd E dft x i):Bd E dft x ((i.toNat:Nat):Int):=by
 rw[Int.toNat_of_nonneg h0];exact h
section
variable {P:Program}{w:World}{C:Cx}{ρ ρ':View}{hs:List Hl}
theorem sliceW{α:Type}{en:Enc α}{xs ys:List α}{v:Value}{k:Nat}{cs:List Value}{lo hi:Int}(H:Hp C w ρ hs)(hk:hs[k]? =some (Arr v en.n cs))(hn:0<en.n)(hr:rdL en ρ xs cs)(hx:slc xs lo hi=some ys):
 ∃v' cs',Hp C w ρ (hs.set k (Arr v' en.n cs'))∧rdL en ρ ys cs'∧ ∀(E:Env) (w:World) (d:Option Tmp) (ty:TypeId) (pos:String) (af:Array Edge) (g:Option (Nat×Bool)) (t e:TypeId) (by_:Nat) (z:Value) (ag:Bool) (x:Operand) (l h:Option Operand),
   P.underlying t=some (.slice e)→Ty P e en.n by_ z ag→ev E x=some v→Bd E 0 l lo→Bd E xs.length h hi→Qv P E ⟨d,.slice t x l h none,ty,pos,af,g⟩ v' w:=by
 obtain⟨h0,h1,h2,rfl⟩:=slc_some hx;obtain⟨v',H',hq⟩:=sliceO (P:=P) (lo:=lo.toNat) (hi:=hi.toNat) H hk hn hr.len (by omega) (by omega);refine⟨v',_,H',(hr.take hi.toNat).drop lo.toNat,fun E w d ty pos af g t e by_ z ag x l h ht hty hx hl hh=>hq E d ty pos af g t e by_ z ag x l h ht hty hx (hl.cast h0) (hh.cast (by omega)) w⟩
theorem Hp.frz{α:Type}{en:Enc α}{xs:List α}{v:Value}{cs:List Value}(H:Hp C w ρ (Arr v en.n cs::hs))(hn:0<en.n)(hr:rdL en ρ xs cs): ∃ρ',View.le ρ ρ'∧Hp C w ρ' hs∧RdSl ρ' en v xs:=by
 obtain⟨ρ',hl,H',hp⟩:=H.freeze;exact⟨ρ',hl,H',arr_rd hn hl hp hr⟩
theorem Ok.low(hl:View.le ρ ρ')(h:Ok w ρ' hs):Ok w ρ hs:=⟨View.le_trans hl h.view,h.all⟩
theorem fstR{α β:Type}{e:Enc α}{f:Enc β}{x:α×β}{c:List Value}{b o:Nat}(h:(eP e f).rd ρ x c)(ha:cellsAt ρ b o c): ∃c1,e.rd ρ x.1 c1∧cellsAt ρ b o c1:=by
 obtain⟨c1,c2,rfl,h1,h2⟩:=h;exact⟨c1,h1,ha.left⟩
theorem sndR{α β:Type}{e:Enc α}{f:Enc β}{x:α×β}{c:List Value}{b o:Nat}(h:(eP e f).rd ρ x c)(ha:cellsAt ρ b o c): ∃c2,f.rd ρ x.2 c2∧cellsAt ρ b (o+e.n) c2:=by
 obtain⟨c1,c2,rfl,h1,h2⟩:=h;have:=ha.right;rw[e.len h1]at this;exact⟨c2,h2,this⟩
theorem fstO{α β:Type}{e:Enc α}{f:Enc β}{x:α×β}{c:List Value}{b o:Nat}{l:List Hl}(h:(eP e f).rd ρ x c)(ha: ∀w,Ok w ρ l→cellsAt (hv w) b o c): ∃c1,e.rd ρ x.1 c1∧ ∀w,Ok w ρ l→cellsAt (hv w) b o c1:=by
 obtain⟨c1,c2,rfl,h1,h2⟩:=h;exact⟨c1,h1,fun w ok=>(ha w ok).left⟩
theorem sndO{α β:Type}{e:Enc α}{f:Enc β}{x:α×β}{c:List Value}{b o:Nat}{l:List Hl}(h:(eP e f).rd ρ x c)(ha: ∀w,Ok w ρ l→cellsAt (hv w) b o c): ∃c2,f.rd ρ x.2 c2∧ ∀w,Ok w ρ l→cellsAt (hv w) b (o+e.n) c2:=by
 obtain⟨c1,c2,rfl,h1,h2⟩:=h;refine⟨c2,h2,fun w ok=>?_⟩;have:=(ha w ok).right;rwa[e.len h1]at this
theorem rdI{k:IntKind}{x:Int}{c:List Value}(h:(eI k).rd ρ x c):c= [.int k x]:=h
theorem rdS{x:BA}{c:List Value}(h:eS.rd ρ x c):c= [.string x]:=h
theorem IdxOk.uniq{v:Value}{i:Int}{n b o b' o':Nat}(h:IdxOk v i n b o)(h':IdxOk v i n b' o'):b'=b∧o'=o:=by
 obtain⟨a0,len,cap,rfl,_,_,rfl⟩:=h;obtain⟨a0',len',cap',h1,_,_,rfl⟩:=h';injection h1 with h1 _ _;injection h1 with h1;injection h1 with h1 h2;subst h1 h2;exact⟨rfl,rfl⟩
end
def mget{α β:Type}[BEq α](m:List (α×β))(k:α):Option β:=(m.find? fun e=>e.1==k).map (·.2)
def mset{α β:Type}[BEq α](m:List (α×β))(k:α)(v:β):List (α×β):=
 match m.findIdx? fun e=>e.1==k with
 |some i=>m.modify i fun _=>(k,v)
 |none=>m++ [(k,v)]
structure KE(α:Type) where
 kv:α→Value
 ok:α→Prop
def kS:KE BA:=⟨.string,fun _=>True⟩
structure KOk{α:Type}[BEq α](P:Program)(t:TypeId)(K:KE α):Prop where
 law: ∀a b:α,(a==b)=true↔a=b
 chk: ∀(e:Bool) (a:α) (w:World),K.ok a→(Instr.checkKey e 10000 t (K.kv a)).run P w= .ok () w
 stays: ∀a:α,Instr.sameBits 10000 (K.kv a) (K.kv a)=true
 fnd: ∀(a:α) (l:List (α×Value)) (es:List MapEntry) (w:World),K.ok a→(∀e∈l,K.ok e.1)→es.map (fun e=>(e.key,e.val))=l.map (fun e=>(K.kv e.1,e.2))→
  (Instr.findKey t (K.kv a) es).run P w= .ok ((l.findIdx? fun e=>e.1==a).bind fun i=>(l[i]?).map fun e=>(i,e.2)) w
section
variable {P:Program}{t:TypeId}
theorem findNow_gen{α:Type}[BEq α]{d:TypeDesc}{kv:α→Value}(h: ∀a b:α,Instr.sameNow d (kv a) (kv b)=some (b==a))(a:α): ∀(l:List (α×Value)) (es:List MapEntry) (i:Nat),es.map (fun e=>(e.key,e.val))=l.map (fun e=>(kv e.1,e.2))→
 Instr.findNow d (kv a) es i=some ((l.findIdx? fun e=>e.1==a).bind fun j=>(l[j]?).map fun e=>(i+j,e.2))
 | [],[],i,_=>rfl
 | [],_::_,i,he=>by simp at he
 |_::_,[],i,he=>by simp at he
 |x::l,e::es,i,he=>by
   simp only[List.map_cons,List.cons.injEq,Prod.mk.injEq]at he;obtain⟨⟨h1,h2⟩,h3⟩:=he;rw[Instr.findNow,h1,h a x.1]
   cases hx:x.1==a with
   |true=>simp[List.findIdx?_cons,hx,h2]
   |false=>
     simp only[List.findIdx?_cons,hx];rw[findNow_gen h a l es (i+1) h3]
     cases l.findIdx? fun e=>e.1==a with
     |none=>rfl
     |some j=>simp[show i+1+j=i+(j+1) by omega]
theorem chk_S(ht:P.underlying t=some .string)(em:Bool)(D:Nat)(a:BA)(w:World):(Instr.checkKey em (D+1) t (.string a)).run P w= .ok () w:=by simp[Instr.checkKey,run_underlying ht]
theorem ba_refl(a:BA):(a==a)=true:=by
 obtain⟨d⟩:=a;exact(beq_self_eq_true d:(d==d)=true)
theorem ba_law(a b:BA):(a==b)=true↔a=b:=by
 constructor
 ·intro h;obtain⟨a⟩:=a;obtain⟨b⟩:=b;have:(a==b)=true:=h;rw[beq_iff_eq]at this;rw[this]
 rintro rfl;exact ba_refl a
theorem sb_S(D:Nat)(a:BA):Instr.sameBits D (.string a) (.string a)=true:=by
 have:=ba_refl a;cases D<;>simp[Instr.sameBits,this]
theorem kOk_S(ht:P.underlying t=some .string):KOk P t kS where
 law:=ba_law
 chk e a w _:=chk_S ht e 9999 a w
 stays a:=sb_S 10000 a
 fnd a l es w _ _ he:=by
  have:=findNow_gen (d:= .string) (kv:=Value.string) (fun a b=>by simp only[Instr.sameNow,Option.some.injEq];rw[Bool.eq_iff_iff,ba_law,ba_law];exact eq_comm) a l es 0 he;simp[kS,Instr.findKey,run_underlying ht,this]
end
def Bn(es:Array MapEntry)(clock:Nat):Prop:=(∀e∈es.toList,e.born<clock)∧(es.toList.map (·.born)).Nodup
theorem Bn.push{es:Array MapEntry}{c:Nat}(h:Bn es c)(k v:Value):Bn (es.push {key:=k,val:=v,born:=c}) (c+1):=by
 constructor
 ·intro e he;rw[Array.toList_push,List.mem_append]at he;rcases he with he|he
  ·have:=h.1 e he;omega
  simp at he;subst he;simp
 rw[Array.toList_push,List.map_append,List.nodup_append];refine⟨h.2,by simp,?_⟩;intro x hx y hy hxy;obtain⟨e,he,rfl⟩:=List.mem_map.1 hx;have:=h.1 e he;simp at hy;omega
theorem Bn.modify{es:Array MapEntry}{c:Nat}(h:Bn es c)(i:Nat)(f:MapEntry→MapEntry)(hf: ∀e,(f e).born=e.born):Bn (es.modify i f) c:=by
 have e1:(es.modify i f).toList.map (·.born)=es.toList.map (·.born):=by
  apply List.ext_getElem?;intro j;simp only[Array.toList_modify,List.getElem?_map,List.getElem?_modify];by_cases hj:i=j
  ·subst hj
   cases es.toList[i]? with
   |none=>simp
   |some e=>simp[hf]
  simp[hj]
 refine⟨fun e he=>?_,by rw[e1];exact h.2⟩;have:e.born∈(es.modify i f).toList.map (·.born):=List.mem_map_of_mem he;rw[e1]at this;obtain⟨e',he',h2⟩:=List.mem_map.1 this;rw[←h2];exact h.1 e' he'
def Mp{α β:Type}(K:KE α)(vv:β→Value)(r:Nat)(m:List (α×β)):Hl where
 fp:=[r]
 P h:=(∃es clock,h r=some (.map es clock)∧es.toList.map (fun e=>(e.key,e.val))=m.map (fun e=>(K.kv e.1,vv e.2))∧Bn es clock)∧ ∀e∈m,K.ok e.1
 loc he hp:=by obtain⟨⟨es,c,h1,h2⟩,h3⟩:=hp;exact⟨⟨es,c,(he _ (by simp)).symm.trans h1,h2⟩,h3⟩
theorem findIdx_map{α β γ:Type}(f:β→γ)(p:α→Bool): ∀(m:List (α×β)),((m.map fun e=>(e.1,f e.2)).findIdx? fun e=>p e.1)=m.findIdx? fun e=>p e.1
 | []=>rfl
 |x::m=>by simp[List.findIdx?_cons,findIdx_map f p m]
theorem find_of_idx{α:Type}{p:α→Bool}: ∀{l:List α},l.find? p=(l.findIdx? p).bind fun i=>l[i]?
 | []=>rfl
 |x::l=>by
   rw[List.find?_cons,List.findIdx?_cons]
   cases p x with
   |true=>rfl
   |false=>simp[find_of_idx (p:=p) (l:=l)];cases l.findIdx? p<;>rfl
section
variable {P:Program}{E:Env}{w:World}{C:Cx}{ρ:View}{hs:List Hl}{d:Option Tmp}{ty:TypeId}{pos:String}{af:Array Edge}{g:Option (Nat×Bool)}
variable {α β:Type}{K:KE α}{vv:β→Value}
theorem E_makeMap(K:KE α)(vv:β→Value)(H:Hp C w ρ hs){mt:TypeId}:Eff P E ⟨d,.makeMap mt none,ty,pos,af,g⟩ w (fun v w'=> ∃r,v= .map (some r)∧Hp C w' ρ (Mp K vv r ([]:List (α×β))::hs)):=
 Eff.of_run fun n a hf=>⟨_,_,by
  simp only[execOp,Instr.makeMap,Sem.run_bind,Option.map_none,run_newObj_alloc,Result.andThen_ok,Sem.run_pure],w.heap.size,rfl,H.alloc _ rfl ⟨⟨#[],0,hv_alloc_new w _,by simp,by simp[Bn]⟩,by simp⟩⟩
theorem Hp.mset{k r:Nat}{m m':List (α×β)}{w':World}(H:Hp C w ρ hs)(hk:hs[k]? =some (Mp K vv r m))(h1:w'.os=w.os)(h2:Tp w w')(h3:w'.output=w.output)(h4:w'.heap.size=w.heap.size)
 (h5: ∀b',b'≠r→w'.heap[b']? =w.heap[b']?) (h6:(Mp K vv r m').P (hv w')):Hp C w' ρ (hs.set k (Mp K vv r m')):=
 H.upd hk h1 h2 h3 (by omega) (fun b' _ hn=>h5 b' (by simpa[Mp]using hn)) (by simp[Mp]) (fun b' hb=> .inl hb) (fun b' hb=>by
  have:=H.lt b' (mem_fps.2 ⟨_,List.mem_of_getElem? hk,hb⟩);omega) h6
section
variable [BEq α]
theorem Mp.find{r:Nat}{m:List (α×β)}{kt:TypeId}(hK:KOk P kt K)(hp:(Mp K vv r m).P (hv w))(a:α)(ha:K.ok a):
 ∃es clock,w.heap[r]? =some (.map es clock)∧es.toList.map (fun e=>(e.key,e.val))=m.map (fun e=>(K.kv e.1,vv e.2))∧(Instr.findKey kt (K.kv a) es.toList).run P w= .ok ((m.findIdx? fun e=>e.1==a).bind fun i=>(m[i]?).map fun e=>(i,vv e.2)) w∧Bn es clock:=by
 obtain⟨⟨es,clock,h1,h2,hbn⟩,h3⟩:=hp;refine⟨es,clock,h1,h2,?_,hbn⟩
 have:=hK.fnd a (m.map fun e=>(e.1,vv e.2)) es.toList w ha (fun e he=>by
  obtain⟨x,hx,rfl⟩:=List.mem_map.1 he;exact h3 x hx) (by rw[h2,List.map_map];rfl)
 rw[this,findIdx_map vv fun x=>x==a]
 congr 1
 cases m.findIdx? fun e=>e.1==a with
 |none=>rfl
 |some i=>simp[Function.comp_def]
theorem Q_look{mt kt vt:TypeId}{x y:Operand}{k r:Nat}{m:List (α×β)}{a:α}{n by_:Nat}{z:Value}{ag:Bool}{zp:β}(hok:Ok w ρ hs)(hk:hs[k]? =some (Mp K vv r m))(hm:P.underlying mt=some (.map kt vt))(hK:KOk P kt K)(ha:K.ok a)
 (hty:Ty P vt n by_ z ag) (hz:vv zp=z) (hx:ev E x=some (.map (some r))) (hy:ev E y=some (K.kv a)):
 Qv P E ⟨d,.lookup mt x y true,ty,pos,af,g⟩ (.tuple [vv ((mget m a).getD zp),.bool (mget m a).isSome].toArray) w:=fun n' ac hf=>by
 obtain⟨es,clock,h1,h2,h3,_⟩:=Mp.find hK (hok.get hk) a ha;have h4:=hK.chk es.isEmpty a w ha;have h5:(m.find? fun e=>e.1==a)=_:=find_of_idx;simp only[execOp,hf.eval hx,hf.eval hy,Instr.lookup,Sem.run_bind,run_underlying hm,Result.andThen_ok,MapKept.run_getObj_map h1,h4,h3,Sem.run_pure];unfold mget;rw[h5]
 cases hi:m.findIdx? fun e=>e.1==a with
 |none=>simp[hty.zeroValue,hz]
 |some i=>
   have hlt:i<m.length:=(List.findIdx?_eq_some_iff_getElem.1 hi).1;simp[List.getElem?_eq_getElem hlt]
theorem run_mset{mt kt vt:TypeId}{r:Nat}{m:List (α×β)}{a:α}{b:β}(hm:P.underlying mt=some (.map kt vt))(hK:KOk P kt K)(ha:K.ok a)(hp:(Mp K vv r m).P (hv w)):
 ∃w',(Instr.mapUpdate mt (.map (some r)) (K.kv a) (vv b)).run P w= .ok () w'∧w'.os=w.os∧Tp w w'∧w'.output=w.output∧w'.heap.size=w.heap.size∧(∀b',b'≠r→w'.heap[b']? =w.heap[b']?)∧(Mp K vv r (mset m a b)).P (hv w'):=by
 obtain⟨es,clock,h1,h2,h3,hbn⟩:=Mp.find hK hp a ha;have hmok:=hp.2;have h4:=hK.chk false a w ha;have hlt:r<w.heap.size:=(Array.getElem?_eq_some_iff.1 h1).1;have hset: ∀o:Obj,(setObj r o).run P w= .ok () {w with heap:=w.heap.setIfInBounds r o}:=fun o=>MapKept.run_setObj_map o h1;unfold mset
 cases hi:m.findIdx? fun e=>e.1==a with
 |none=>
   rw[hi]at h3;refine⟨{w with heap:=w.heap.setIfInBounds r (.map (es.push {key:=K.kv a,val:=vv b,born:=clock}) (clock+1))},?_,rfl,Tp.rfl w,rfl,by simp,fun b' hb=>by simp[Array.getElem?_setIfInBounds_ne (Ne.symm hb)],⟨es.push {key:=K.kv a,val:=vv b,born:=clock},clock+1,by simp[hv,hlt],?_,hbn.push _ _⟩,?_⟩
   ·simp only[Instr.mapUpdate,Sem.run_bind,run_underlying hm,Result.andThen_ok,MapKept.run_getObj_map h1,h4,h3,Option.bind_none];exact hset _
   ·simp[h2]
   intro e he;rcases List.mem_append.1 he with he|he
   ·exact hmok e he
   simp at he;subst he;exact ha
 |some i=>
   rw[hi]at h3;obtain⟨hil,hia,_⟩:=List.findIdx?_eq_some_iff_getElem.1 hi
   have hsz:es.size=m.length:=by
    have:=congrArg List.length h2;simpa using this
   have hkey:(es[i]?).map (·.key)=some (K.kv a):=by
    have h5:=congrArg (fun l:List (Value×Value)=>(l[i]?).map (·.1)) h2;have h6:(m[i]).1=a:=(hK.law _ _).1 hia;simp[List.getElem?_eq_getElem hil,h6]at h5;have h7:i<es.size:=by omega
    simp[h7]at h5 ⊢;exact h5
   have hst:(Instr.keyThatStays (K.kv a) (K.kv a)).run P w= .ok (K.kv a) w:=by simp[Instr.keyThatStays,hK.stays]
   refine⟨{w with heap:=w.heap.setIfInBounds r (.map (es.modify i fun e=>{e with key:=K.kv a,val:=vv b}) clock)},?_,rfl,Tp.rfl w,rfl,by simp,fun b' hb=>by simp[Array.getElem?_setIfInBounds_ne (Ne.symm hb)],⟨es.modify i fun e=>{e with key:=K.kv a,val:=vv b},clock,by simp[hv,hlt],?_,hbn.modify _ _ fun _=>rfl⟩,?_⟩
   ·simp only[Instr.mapUpdate,Sem.run_bind,run_underlying hm,Result.andThen_ok,MapKept.run_getObj_map h1,h4,h3,Option.bind_some,List.getElem?_eq_getElem hil,Option.map_some,hkey,Option.getD_some,hst];exact hset _
   ·apply List.ext_getElem?;intro j;have h5:=congrArg (fun l:List (Value×Value)=>l[j]?) h2;simp only[List.getElem?_map,Array.getElem?_toList]at h5;simp only[Array.toList_modify,List.getElem?_map,List.getElem?_modify,Array.getElem?_toList];by_cases hj:i=j
    ·subst hj;have h7:i<es.size:=by omega
     simp[List.getElem?_eq_getElem hil,h7]
    simp[hj];cases hej:es[j]? <;>cases hmj:m[j]? <;>simp_all
   intro e he;obtain⟨j,hj⟩:=List.mem_iff_getElem?.1 he;rw[List.getElem?_modify]at hj;by_cases hij:i=j
   ·subst hij;simp[List.getElem?_eq_getElem hil]at hj;subst hj;exact ha
   simp[hij]at hj;exact hmok e (List.mem_of_getElem? hj)
theorem E_msetu{mt kt vt:TypeId}{x y u:Operand}{k r:Nat}{m:List (α×β)}{a:α}{b:β}(H:Hp C w ρ hs)(hk:hs[k]? =some (Mp K vv r m))(hm:P.underlying mt=some (.map kt vt))(hK:KOk P kt K)(ha:K.ok a)
 (hx:ev E x=some (.map (some r))) (hy:ev E y=some (K.kv a)) (hu:ev E u=some (vv b)):Eff P E ⟨d,.mapUpdate mt x y u,ty,pos,af,g⟩ w (fun v w'=>v=undef∧Hp C w' ρ (hs.set k (Mp K vv r (mset m a b)))):=by
 obtain⟨w',hr,h1,h2,h3,h4,h5,h6⟩:=run_mset (P:=P) (b:=b) hm hK ha (H.ok.get hk);refine Eff.of_skip fun n ac hf=>⟨w',?_,rfl,H.mset hk h1 h2 h3 h4 h5 h6⟩;simp[execOp,hf.eval hx,hf.eval hy,hf.eval hu,hr]
end
end
def bstr(xs:List Int):BA:=xs.foldl (fun r n=>r.push (UInt8.ofNat n.toNat)) ByteArray.empty
section
variable {P:Program}{E:Env}{w:World}{C:Cx}{ρ:View}{hs:List Hl}{d:Option Tmp}{ty:TypeId}{pos:String}{af:Array Edge}{g:Option (Nat×Bool)}
theorem run_bstr{xs:List Int}{v:Value}{cs:List Value}(hr:rdL (eI .u8) ρ xs cs)(hs:Src (hv w) v 1 cs)(hl: ∃o c,v= .slice o xs.length c):(Conv.bytesToString v).run P w= .ok (.string (bstr xs)) w:=by
 obtain rfl:=rdL_ints_eq hr;obtain⟨o,c,rfl⟩:=hl;rcases hs with⟨ad,c',h1,h2⟩|⟨b,o',m,c',h1,h2,h3⟩
 ·injection h1 with h1 h3 h4;have:xs= []:=List.eq_nil_of_length_eq_zero h3;subst this h1
  cases o with
  |none=>simp[Conv.bytesToString,bstr]
  |some a=>
    have hld:(loadCells a 0).run P w= .ok (([]:List Int).map (Value.int .u8)).toArray w:=by simp[loadCells,loadCellsFrom]
    exact run_bytesToString w a 0 c [] hld
 injection h1 with h1 h4 h5;subst h1
 have hld:(loadCells ⟨b,o',none⟩ xs.length).run P w= .ok (xs.map (Value.int .u8)).toArray w:=by
  have:=run_loadCells_list (P:=P) w ⟨b,o',none⟩ (xs.map (Value.int .u8)) (fun j u hj=>by rw[Addr.add_none,hv_cell];exact h3 j u hj);simpa using this
 exact run_bytesToString w _ _ c xs hld
theorem E_bstr{s t e:TypeId}{x:Operand}{xs:List Int}{v:Value}{cs:List Value}(hs':P.underlying s=some (.slice e))(he:P.underlying e=some (.int .u8))(ht:P.underlying t=some .string)(hx:ev E x=some v)
 (hr:rdL (eI .u8) ρ xs cs) (hsr:Src (hv w) v 1 cs) (hl: ∃o c,v= .slice o xs.length c):Eff P E ⟨d,.convert s t x,ty,pos,af,g⟩ w (fun u w'=>u= .string (bstr xs)∧w'=w):=by
 refine Eff.of_run fun n a hf=>⟨.string (bstr xs),w,?_,rfl,rfl⟩;obtain⟨o,c,rfl⟩:=hl;simp only[execOp,hf.eval hx];have:=run_bstr (P:=P) hr hsr ⟨o,c,rfl⟩;simp[run_convert_bytes_string w s t e o xs.length c hs' he ht,this]
theorem E_bstrR{s t e:TypeId}{x:Operand}{xs:List Int}{v:Value}(H:Hp C w ρ hs)(hs':P.underlying s=some (.slice e))(he:P.underlying e=some (.int .u8))(ht:P.underlying t=some .string)(hx:ev E x=some v)(hr:RdSl ρ (eI .u8) v xs):
 Eff P E ⟨d,.convert s t x,ty,pos,af,g⟩ w (fun u w'=>u= .string (bstr xs)∧w'=w):=by
 obtain⟨cs,h1,h2⟩:=Src.ofRd H.ok hr;refine E_bstr hs' he ht hx h1 h2 ?_;rcases hr with⟨ad,cap,rfl,rfl⟩|⟨b,o,cap,cs,rfl,_⟩
 ·exact⟨_,_,rfl⟩
 exact⟨_,_,rfl⟩
theorem Q_eqlStr{t t':TypeId}{x y:Operand}{a b:BA}(_ht:P.underlying t=some .string)(hx:ev E x=some (.string a))(hy:ev E y=some (.string b)):Qv P E ⟨d,.binOp .eql t x y t',ty,pos,af,g⟩ (.bool (a.toList==b.toList)) w:=fun n ac hf=>by
 simp[execOp,hf.eval hx,hf.eval hy,eqGuard,binOp,Op.stringOp]
theorem Q_neqStr{t t':TypeId}{x y:Operand}{a b:BA}(_ht:P.underlying t=some .string)(hx:ev E x=some (.string a))(hy:ev E y=some (.string b)):Qv P E ⟨d,.binOp .neq t x y t',ty,pos,af,g⟩ (.bool (a.toList != b.toList)) w:=fun n ac hf=>by
 simp[execOp,hf.eval hx,hf.eval hy,eqGuard,binOp,Op.stringOp,bne]
end
def nov:View:=fun _=>none
theorem nov_le(ρ:View):View.le nov ρ:=fun _ _ h=>by cases h
def FamP{α:Type}(e:Enc α)(h:View):List Value→List (List α)→Prop
 | [],xs=>xs= []
 |v::cs,xs=> ∃x r,xs=x::r∧(∃c,(Arr v e.n c).P h∧rdL e nov x c)∧FamP e h cs r
section
variable {α:Type}{e:Enc α}{h h':View}
theorem FamP.len: ∀{cs:List Value} {xs:List (List α)},FamP e h cs xs→cs.length=xs.length
 | [],_,hf=>by cases hf;rfl
 |_::_,_,hf=>by obtain⟨x,r,rfl,_,h2⟩:=hf;simp[FamP.len h2]
theorem FamP.get: ∀{cs:List Value} {xs:List (List α)} {j:Nat} {x:List α},FamP e h cs xs→xs[j]? =some x→ ∃v c,cs[j]? =some v∧(Arr v e.n c).P h∧rdL e nov x c
 | [],_,_,_,hf,hx=>by cases hf;simp at hx
 |v::cs,_,0,x,hf,hx=>by
   obtain⟨x',r,rfl,⟨c,h1,h2⟩,_⟩:=hf;simp at hx;subst hx;exact⟨v,c,rfl,h1,h2⟩
 |v::cs,_,j+1,x,hf,hx=>by
   obtain⟨x',r,rfl,_,h2⟩:=hf;obtain⟨v',c,h3,h4,h5⟩:=FamP.get (j:=j) h2 (by simpa using hx);exact⟨v',c,by simpa using h3,h4,h5⟩
theorem FamP.erase: ∀{cs:List Value} {xs:List (List α)} (j:Nat),FamP e h cs xs→FamP e h (cs.eraseIdx j) (xs.eraseIdx j)
 | [],_,_,hf=>by cases hf;exact rfl
 |v::cs,_,0,hf=>by obtain⟨x',r,rfl,_,h2⟩:=hf;exact h2
 |v::cs,_,j+1,hf=>by
   obtain⟨x',r,rfl,h1,h2⟩:=hf;exact⟨x',r.eraseIdx j,by simp,h1,FamP.erase j h2⟩
theorem FamP.put: ∀{cs:List Value} {xs:List (List α)} {j:Nat} {v:Value} {x:List α} {c:List Value},FamP e h (cs.eraseIdx j) (xs.eraseIdx j)→j<cs.length→j<xs.length→(Arr v e.n c).P h→rdL e nov x c→FamP e h (cs.set j v) (xs.set j x)
 | [],_,_,_,_,_,_,hj,_,_,_=>by simp at hj
 |_,[],_,_,_,_,_,_,hj,_,_=>by simp at hj
 |v0::cs,x0::xs,0,v,x,c,hf,_,_,h1,h2=>⟨x,xs,rfl,⟨c,h1,h2⟩,by simpa using hf⟩
 |v0::cs,x0::xs,j+1,v,x,c,hf,hj,hk,h1,h2=>by
   simp only[List.eraseIdx_cons_succ]at hf;obtain⟨x',r,he,h3,h4⟩:=hf;injection he with he1 he2;subst he1 he2;exact⟨x0,xs.set j x,rfl,h3,FamP.put h4 (by simpa using hj) (by simpa using hk) h1 h2⟩
theorem FamP.app: ∀{cs ds:List Value} {xs ys:List (List α)},FamP e h cs xs→FamP e h ds ys→FamP e h (cs++ds) (xs++ys)
 | [],_,_,_,h1,h2=>by cases h1;exact h2
 |v::cs,ds,_,ys,h1,h2=>by
   obtain⟨x,r,rfl,h3,h4⟩:=h1;exact⟨x,r++ys,rfl,h3,FamP.app h4 h2⟩
theorem FamP.nils: ∀n,FamP e h (List.replicate n (.slice none 0 0)) (List.replicate n [])
 |0=>rfl
 |n+1=>⟨[],List.replicate n [],rfl,⟨[],.inl ⟨rfl,rfl⟩,rdL.nil⟩,FamP.nils n⟩
theorem FamP.loc: ∀{cs:List Value} {xs:List (List α)},(∀b∈cs.flatMap vblk,h b=h' b)→FamP e h cs xs→FamP e h' cs xs
 | [],_,_,hf=>hf
 |v::cs,_,hl,hf=>by
   obtain⟨x,r,rfl,⟨c,h1,h2⟩,h3⟩:=hf;refine⟨x,r,rfl,⟨c,(Arr v e.n c).loc (fun b hb=>hl b ?_) h1,h2⟩,FamP.loc (fun b hb=>hl b ?_) h3⟩
   ·simp only[List.flatMap_cons,List.mem_append];exact .inl hb
   simp only[List.flatMap_cons,List.mem_append];exact .inr hb
end
def Fm{α:Type}(e:Enc α)(cs:List Value)(xs:List (List α)):Hl where
 fp:=cs.flatMap vblk
 P h:=FamP e h cs xs
 loc he hp:=FamP.loc he hp
theorem perm_erase{α β:Type}(f:α→List β): ∀{l:List α} {j:Nat} {x:α},l[j]? =some x→(l.flatMap f).Perm (f x++(l.eraseIdx j).flatMap f)
 | [],_,_,h=>by simp at h
 |y::l,0,x,h=>by simp at h;subst h;simp
 |y::l,j+1,x,h=>by
   have ih:=perm_erase f (l:=l) (j:=j) (x:=x) (by simpa using h);simp only[List.flatMap_cons,List.eraseIdx_cons_succ];refine(ih.append_left (f y)).trans ?_;rw[←List.append_assoc,←List.append_assoc];exact(List.perm_append_comm).append_right _
section
variable {P:Program}{E:Env}{w:World}{C:Cx}{ρ:View}{hs:List Hl}{d:Option Tmp}{ty:TypeId}{pos:String}{af:Array Edge}{g:Option (Nat×Bool)}
variable {α:Type}{e:Enc α}{n:Nat}{v:Value}{cs:List Value}{xs:List (List α)}
theorem Hp.conv{l:List Hl}(H:Hp C w ρ hs)(hp:(fps hs).Perm (fps l))(ha: ∀h∈l,h.P (hv w)):Hp C w ρ l:=
 ⟨H.os,H.tape,H.out,H.size,H.old,fun b hb=>H.fresh b (hp.mem_iff.2 hb),fun b hb=>H.lt b (hp.mem_iff.2 hb),hp.nodup_iff.1 H.nodup,H.view,fun b hb=>H.apart b (hp.mem_iff.2 hb),ha⟩
theorem Hp.head{h:Hl}(H:Hp C w ρ (h::hs)):h.P (hv w):=H.all h (by simp)
theorem arr_cells_at{b o len cap:Nat}{h:View}(hp:(Arr (.slice (some ⟨b,o,none⟩) len cap) n cs).P h):cellsAt h b o cs:=by
 rcases hp with⟨h6,_⟩|⟨b',o',len',cap',cur',T',h6,h7,h8,h9,h10,h11⟩
 ·cases h6
 injection h6 with h6 h12 h13;injection h6 with h6;injection h6 with h6 h14;subst h6 h12 h13 h14;intro j a hj;rw[←h11,List.getElem?_take]at hj;by_cases hlt:j<cs.length
 ·rw[if_pos hlt,List.getElem?_drop]at hj;simp only[View.cell,h10];rw[←Array.getElem?_toList];exact hj
 rw[if_neg hlt]at hj;cases hj
theorem Q_lenI{β:Type}{t et:TypeId}{x:Operand}{u:Value}{l:List β}(hl: ∃o c,u= .slice o l.length c)(ht:P.underlying t=some (.slice et))(hx:ev E x=some u):
 Qv P E ⟨d,.call {callee:= .builtin .len,args:= #[x],argTypes:= #[t]},ty,pos,af,g⟩ (.int .i64 l.length) w:=by
 obtain⟨o,c,rfl⟩:=hl;exact Q_lenS ht hx
theorem Q_field1{T:TypeId}{x:Operand}{f:Nat}{fs:Array Field}{fd:Field}{vs:List Value}{u:Value}{by_:Nat}{z:Value}(hT:P.underlying T=some (.struct fs))(hf':fs[f]? =some fd)(hty:Ty P fd.type 1 by_ z false)(hx:ev E x=some (.agg vs.toArray))(hu:vs[fd.offset]? =some u):
 Qv P E ⟨d,.field T x f,ty,pos,af,g⟩ u w:=fun n a hf=>by
 simp[execOp,hf.eval hx,Instr.field,run_underlying hT,hf',asAgg,part,hty.isAgg,hu]
theorem Q_fieldN{T:TypeId}{x:Operand}{f m:Nat}{fs:Array Field}{fd:Field}{vs us:List Value}{by_:Nat}{z:Value}(hT:P.underlying T=some (.struct fs))(hf':fs[f]? =some fd)(hty:Ty P fd.type m by_ z true)(hx:ev E x=some (.agg vs.toArray))(hu:(vs.drop fd.offset).take m=us):
 Qv P E ⟨d,.field T x f,ty,pos,af,g⟩ (.agg us.toArray) w:=fun n a hf=>by
 subst hu
 have e1:(vs.toArray.extract fd.offset (fd.offset+m))=((vs.drop fd.offset).take m).toArray:=by
  apply Array.ext';simp
 simp[execOp,hf.eval hx,Instr.field,run_underlying hT,hf',asAgg,part,hty.isAgg,hty.sizeOf]
end
section
variable {C:Cx}{w:World}{ρ:View}{hs:List Hl}
theorem Hp.f1{h0 x:Hl}(H:Hp C w ρ (h0::x::hs)):Hp C w ρ (x::h0::hs):=H.front 1 rfl
theorem Hp.f2{h0 h1 x:Hl}(H:Hp C w ρ (h0::h1::x::hs)):Hp C w ρ (x::h0::h1::hs):=H.front 2 rfl
theorem Hp.f3{h0 h1 h2 x:Hl}(H:Hp C w ρ (h0::h1::h2::x::hs)):Hp C w ρ (x::h0::h1::h2::hs):=H.front 3 rfl
theorem Hp.f4{h0 h1 h2 h3 x:Hl}(H:Hp C w ρ (h0::h1::h2::h3::x::hs)):Hp C w ρ (x::h0::h1::h2::h3::hs):=H.front 4 rfl
theorem Hp.f5{h0 h1 h2 h3 h4 x:Hl}(H:Hp C w ρ (h0::h1::h2::h3::h4::x::hs)):Hp C w ρ (x::h0::h1::h2::h3::h4::hs):=H.front 5 rfl
theorem Hp.f6{h0 h1 h2 h3 h4 h5 x:Hl}(H:Hp C w ρ (h0::h1::h2::h3::h4::h5::x::hs)):Hp C w ρ (x::h0::h1::h2::h3::h4::h5::hs):=H.front 6 rfl
theorem Hp.f7{h0 h1 h2 h3 h4 h5 h6 x:Hl}(H:Hp C w ρ (h0::h1::h2::h3::h4::h5::h6::x::hs)):Hp C w ρ (x::h0::h1::h2::h3::h4::h5::h6::hs):=H.front 7 rfl
theorem Hp.f8{h0 h1 h2 h3 h4 h5 h6 h7 x:Hl}(H:Hp C w ρ (h0::h1::h2::h3::h4::h5::h6::h7::x::hs)):Hp C w ρ (x::h0::h1::h2::h3::h4::h5::h6::h7::hs):=H.front 8 rfl
theorem Hp.f9{h0 h1 h2 h3 h4 h5 h6 h7 h8 x:Hl}(H:Hp C w ρ (h0::h1::h2::h3::h4::h5::h6::h7::h8::x::hs)):Hp C w ρ (x::h0::h1::h2::h3::h4::h5::h6::h7::h8::hs):=H.front 9 rfl
theorem Hp.f10{h0 h1 h2 h3 h4 h5 h6 h7 h8 h9 x:Hl}(H:Hp C w ρ (h0::h1::h2::h3::h4::h5::h6::h7::h8::h9::x::hs)):Hp C w ρ (x::h0::h1::h2::h3::h4::h5::h6::h7::h8::h9::hs):=H.front 10 rfl
theorem Hp.f11{h0 h1 h2 h3 h4 h5 h6 h7 h8 h9 h10 x:Hl}(H:Hp C w ρ (h0::h1::h2::h3::h4::h5::h6::h7::h8::h9::h10::x::hs)):Hp C w ρ (x::h0::h1::h2::h3::h4::h5::h6::h7::h8::h9::h10::hs):=H.front 11 rfl
theorem Hp.e0{x:Hl}(H:Hp C w ρ (x::hs)):Hp C w ρ (hs):=H.drop 0 rfl
theorem Hp.e1{h0 x:Hl}(H:Hp C w ρ (h0::x::hs)):Hp C w ρ (h0::hs):=H.drop 1 rfl
theorem Hp.e2{h0 h1 x:Hl}(H:Hp C w ρ (h0::h1::x::hs)):Hp C w ρ (h0::h1::hs):=H.drop 2 rfl
theorem Hp.e3{h0 h1 h2 x:Hl}(H:Hp C w ρ (h0::h1::h2::x::hs)):Hp C w ρ (h0::h1::h2::hs):=H.drop 3 rfl
theorem Hp.e4{h0 h1 h2 h3 x:Hl}(H:Hp C w ρ (h0::h1::h2::h3::x::hs)):Hp C w ρ (h0::h1::h2::h3::hs):=H.drop 4 rfl
theorem Hp.e5{h0 h1 h2 h3 h4 x:Hl}(H:Hp C w ρ (h0::h1::h2::h3::h4::x::hs)):Hp C w ρ (h0::h1::h2::h3::h4::hs):=H.drop 5 rfl
theorem Hp.e6{h0 h1 h2 h3 h4 h5 x:Hl}(H:Hp C w ρ (h0::h1::h2::h3::h4::h5::x::hs)):Hp C w ρ (h0::h1::h2::h3::h4::h5::hs):=H.drop 6 rfl
theorem Hp.e7{h0 h1 h2 h3 h4 h5 h6 x:Hl}(H:Hp C w ρ (h0::h1::h2::h3::h4::h5::h6::x::hs)):Hp C w ρ (h0::h1::h2::h3::h4::h5::h6::hs):=H.drop 7 rfl
theorem Hp.e8{h0 h1 h2 h3 h4 h5 h6 h7 x:Hl}(H:Hp C w ρ (h0::h1::h2::h3::h4::h5::h6::h7::x::hs)):Hp C w ρ (h0::h1::h2::h3::h4::h5::h6::h7::hs):=H.drop 8 rfl
theorem Hp.dr{P:Program}{Q:Exit→Act→World→Prop}{n:FN}{E:Env}{ro:Option Nat}{id:Nat}{l:List Oper}(H:Hp C w ρ hs)(r:Ord)(K:Option Nat)(hm:P.follows .mixedOrders=true)(ho:dchk l r K=true)
 (h:DL P l.toArray (fun w'=>Ok w' ρ hs) Q r n E w.drew):CW ro P (.region id l.toArray true) Q n E w:=R_dr r K hm ho (S:=fun w'=>Ok w' ρ hs) H.drew.ok h
theorem Hp.okF{P:Program}{ops:Array Oper}{Q:Exit→Act→World→Prop}{n:FN}{E:Env}{r:Ord}(H:Hp C w ρ hs)(h:DL P ops (fun w'=>Ok w' ρ hs) Q r n E w): ∃S',S' w∧DL P ops S' Q r n E w:=
 ⟨fun w'=>Ok w' ρ hs,H.ok,h⟩
theorem dgbsu{P:Program}{ops:Array Oper}{Q:Exit→Act→World→Prop}{n:FN}{E:Env}{S:World→Prop}{i:Nat}{K:Option Nat}{r:Ord}{o:Oper}{j:Nat}{b:Bool}(hi:ops[i]? =some o)(hg:o.guard=some (j,b))(hj:gdU ops E j)(hd:inN n o.dst=true)(h: ∃S',S' w∧DL P ops S' Q r n (putE E o.dst undef) w):DL P ops S Q (.bar i K r) n E w:=
 fun a hf=>⟨o,hi,by
  rw[if_neg (by simp[Region.wanted,hg,gdU_yielded hf hj])];obtain⟨S',h1,h2⟩:=h;exact⟨S',h1,h2 _ (hf.putE hd _)⟩⟩
end
def sidx(b:BA)(i:Int):Option Int:=if 0≤i then(b.data.toList[i.toNat]?).map fun u=>((u.toNat:Nat):Int)else none
def sslc(b:BA)(lo hi:Int):Option BA:=if 0≤lo∧lo≤hi∧hi≤b.size then some (b.extract lo.toNat hi.toNat)else none
def scat(a b:BA):Option BA:=if a.size+b.size≤4294967296 then some (a++b)else none
theorem scat_some{a b r:BA}(h:scat a b=some r):a.size+b.size≤4294967296∧r=a++b:=by
 unfold scat at h;split at h
 ·rename_i hc;exact⟨hc,(Option.some.inj h).symm⟩
 cases h
theorem sslc_some{b r:BA}{lo hi:Int}(h:sslc b lo hi=some r):0≤lo∧lo≤hi∧hi≤b.size∧r=b.extract lo.toNat hi.toNat:=by
 unfold sslc at h;split at h
 ·rename_i hc;exact⟨hc.1,hc.2.1,hc.2.2,(Option.some.inj h).symm⟩
 cases h
def OB(E:Env)(l:Option Operand)(m dflt:Int):Prop:=match l with
 |none=>m=dflt
 |some x=> ∃k,ev E x=some (.int k m)
section
variable {P:Program}{E:Env}{w:World}{d:Option Tmp}{ty:TypeId}{pos:String}{af:Array Edge}{g:Option (Nat×Bool)}{C:Cx}{ρ:View}{hs:List Hl}
theorem Q_lenStr{t:TypeId}{x:Operand}{b:BA}(ht:P.underlying t=some .string)(hx:ev E x=some (.string b)):
 Qv P E ⟨d,.call {callee:= .builtin .len,args:= #[x],argTypes:= #[t]},ty,pos,af,g⟩ (.int .i64 b.size) w:=fun n a hf=>by
 simp[execOp,resolve,invoke,builtin,Builtin.len_,run_underlying ht,hf.eval hx,goInt]
theorem Q_lenStrC{t:TypeId}{x:Operand}{b:BA}{m:Int}(ht:P.underlying t=some .string)(hx:ev E x=some (.string b))(hm:(b.size:Int)=m):
 Qv P E ⟨d,.call {callee:= .builtin .len,args:= #[x],argTypes:= #[t]},ty,pos,af,g⟩ (.int .i64 m) w:=hm▸Q_lenStr ht hx
theorem Q_ixS{t:TypeId}{x i:Operand}{b:BA}{m y:Int}{k:IntKind}(hy:sidx b m=some y)(ht:P.underlying t=some .string)(hx:ev E x=some (.string b))(hi:ev E i=some (.int k m)):
 Qv P E ⟨d,.index t x i,ty,pos,af,g⟩ (.int .u8 y) w:=fun n a hf=>by
 unfold sidx at hy;split at hy
 ·rename_i h0;obtain⟨u,hu,rfl⟩:=Option.map_eq_some_iff.1 hy;obtain⟨hlt,hu⟩:=List.getElem?_eq_some_iff.1 hu;have hlt':m.toNat<b.size:=by simpa using hlt
  have hb:b[m.toNat]? =some u:=by
   rw[getElem?_pos b m.toNat hlt'];exact congrArg some hu
  simp[execOp,hf.eval hx,hf.eval hi,Instr.index,asIntOf,run_underlying ht,h0,hb]
 cases hy
theorem Q_slStr{t:TypeId}{x:Operand}{l h:Option Operand}{b r:BA}{lo hi:Int}(hr:sslc b lo hi=some r)(ht:P.underlying t=some .string)(hx:ev E x=some (.string b))(hl:OB E l lo 0)(hh:OB E h hi b.size):
 Qv P E ⟨d,.slice t x l h none,ty,pos,af,g⟩ (.string r) w:=fun n a hf=>by
 obtain⟨h0,h1,h2,rfl⟩:=sslc_some hr
 cases l with
 |none=>
   obtain rfl:lo=0:=hl
   cases h with
   |none=>
     obtain rfl:hi=b.size:=hh;simp[execOp,hf.eval hx,Instr.slice,Instr.sliceAt,run_underlying ht,Instr.sliceBounds]
   |some y=>
     obtain⟨k,hk⟩:=hh;simp[execOp,hf.eval hx,hf.eval hk,Instr.slice,Instr.sliceAt,run_underlying ht,Instr.sliceBounds,Instr.sliceBound,asIntOf,h1,h2]
 |some z=>
   obtain⟨k1,hk1⟩:=hl
   cases h with
   |none=>
     obtain rfl:hi=b.size:=hh;simp[execOp,hf.eval hx,hf.eval hk1,Instr.slice,Instr.sliceAt,run_underlying ht,Instr.sliceBounds,Instr.sliceBound,asIntOf,h0,h1]
   |some y=>
     obtain⟨k,hk⟩:=hh;have h4:lo≤((hi.toNat:Nat):Int):=by omega
     simp[execOp,hf.eval hx,hf.eval hk,hf.eval hk1,Instr.slice,Instr.sliceAt,run_underlying ht,Instr.sliceBounds,Instr.sliceBound,asIntOf,show 0≤hi by omega,h0,h2,h4,-Int.ofNat_toNat]
theorem Q_cat{t t':TypeId}{x y:Operand}{a b r:BA}(hr:scat a b=some r)(hx:ev E x=some (.string a))(hy:ev E y=some (.string b)):
 Qv P E ⟨d,.binOp .add t x y t',ty,pos,af,g⟩ (.string r) w:=fun n ac hf=>by
 obtain⟨h1,rfl⟩:=scat_some hr;simp[execOp,hf.eval hx,hf.eval hy,eqGuard,binOp,Op.stringOp];omega
theorem Q_known{o:Oper}{b r:Bool}(hr:b=r)(h:Qv P E o (.bool b) w):Qv P E o (.bool r) w:=hr▸h
def HasExt(P:Program)(f:FuncId)(e:Array Value→Sem Value):Prop:= ∃fn,P.funcs[f]? =some fn∧(fn.name== "runtime.NumGoroutine")=false∧fn.body.isNone=true∧Extern.findNext fn=none∧Extern.find fn=some e
theorem Q_ext{f:FuncId}{e:Array Value→Sem Value}{xs:List Operand}{vs:List Value}{ats:Array TypeId}{v:Value}(hfn:HasExt P f e)(hx:evs E xs=some vs)(hr:(e vs.toArray).run P w= .ok v w):
 Qv P E ⟨d,.call {callee:= .value (.func f),args:=xs.toArray,argTypes:=ats},ty,pos,af,g⟩ v w:=fun n a hf=>by
 obtain⟨fn,h1,h2,h3,h4,h5⟩:=hfn;have hev:=hf.evals hx;simp only[execOp,resolve,Act.eval,Deferred.ofValue,List.map_toArray,hev,Sem.run_bind,Sem.run_pure,Result.andThen_ok,invoke,Array.append_empty,Array.empty_append,run_callFunc_extern h1 h2 h3 h4 h5,hr]
def sfind(b:BA)(c:Int):Int:=firstIdx b c.toNat.toUInt8
theorem Q_idxByte{f:FuncId}{x y:Operand}{b:BA}{c:Int}{ats:Array TypeId}(hfn:HasExt P f Extern.BytealgIndexByte.indexByte)(hx:ev E x=some (.string b))(hy:ev E y=some (.int .u8 c)):
 Qv P E ⟨d,.call {callee:= .value (.func f),args:= #[x,y],argTypes:=ats},ty,pos,af,g⟩ (.int .i64 (sfind b c)) w:=
 Q_ext (xs:=[x,y]) (vs:=[.string b,.int .u8 c]) hfn (by simp[evs,hx,hy]) (run_indexByte_string b c w)
def scount(b:BA)(c:Int):Int:=b.foldl (fun(n:Int) x=>if x==c.toNat.toUInt8 then n+1 else n) ((0:Nat):Int)
theorem Q_count{f:FuncId}{x y:Operand}{b:BA}{c:Int}{ats:Array TypeId}(hfn:HasExt P f Extern.BytealgCount.count)(hx:ev E x=some (.string b))(hy:ev E y=some (.int .u8 c)):
 Qv P E ⟨d,.call {callee:= .value (.func f),args:= #[x,y],argTypes:=ats},ty,pos,af,g⟩ (.int .i64 (scount b c)) w:=
 Q_ext (xs:=[x,y]) (vs:=[.string b,.int .u8 c]) hfn (by simp[evs,hx,hy]) (by
  change Sem.run P (do
   let b ←Extern.Bytes.bytesOf (.string b);let c ←Extern.Bytes.asByte (.int .u8 c)
   pure (goInt (b.foldl (fun n x=>if x==c then n+1 else n) (0:Nat)))) w=_
  simp only[Extern.Bytes.bytesOf,Extern.Bytes.asByte,Sem.run_bind,Sem.run_pure,Result.andThen,scount,goInt])
end
def eOk(ids:List Nat)(c:Int):Bool:=decide (0<c)&&ids.contains (c.toNat-1)
def errV(ids:List Nat)(ge:Nat→Value)(c:Int):Value:=if eOk ids c=true then ge (c.toNat-1)else .nilIface
structure GErrs(ρ:View)(T:TypeId)(ids:List Nat)(ge:Nat→Value):Prop where
 g: ∀k∈ids,GErr ρ k (ge k)
 p: ∀k∈ids,∃a ca ta,ge k= .iface T (.pointer (some a))∧ρ a.block=some (.cells ca ta (0,0))
 inj: ∀k∈ids,∀l∈ids,ge k=ge l→k=l
theorem GErrs.up{ρ ρ':View}{T:TypeId}{ids:List Nat}{ge:Nat→Value}(hl:View.le ρ ρ')(h:GErrs ρ T ids ge):GErrs ρ' T ids ge:=
 ⟨fun k hk=>(h.g k hk).up hl,fun k hk=>by obtain⟨a,ca,ta,e1,e2⟩:=h.p k hk;exact⟨a,ca,ta,e1,hl _ _ e2⟩,h.inj⟩
theorem eOk_mem{ids:List Nat}{c:Int}(h:eOk ids c=true):c.toNat-1∈ids∧0<c:=by
 unfold eOk at h;rw[Bool.and_eq_true]at h;exact⟨by simpa using h.2,of_decide_eq_true h.1⟩
section
variable {ρ:View}{T:TypeId}{ids:List Nat}{ge:Nat→Value}
theorem errV_yes{c:Int}(h:eOk ids c=true):errV ids ge c=ge (c.toNat-1):=by rw[errV,if_pos h]
theorem errV_no{c:Int}(h:eOk ids c=false):errV ids ge c= .nilIface:=by rw[errV,if_neg (by simp[h])]
theorem errV_one(h:GErrs ρ T ids ge)(c:Int):(errV ids ge c).oneCell'=true:=by
 cases hc:eOk ids c with
 |true=>rw[errV_yes hc];exact(h.g _ (eOk_mem hc).1).one
 |false=>rw[errV_no hc];rfl
theorem errV_cells(h:GErrs ρ T ids ge)(c:Int):(errV ids ge c).cells= #[errV ids ge c]:=by
 cases hc:eOk ids c with
 |true=>rw[errV_yes hc];exact(h.g _ (eOk_mem hc).1).cells
 |false=>rw[errV_no hc];rfl
def eE(ids:List Nat)(ge:Nat→Value):Enc Int where
 n:=1
 rd _ x cs:=cs= [errV ids ge x]∧(errV ids ge x).oneCell'=true
 len h:=by obtain⟨rfl,_⟩:=h;rfl
 one h u hu:=by obtain⟨rfl,h1⟩:=h;simp at hu;subst hu;exact h1
 up _ h:=h
end
section
variable {P:Program}{E:Env}{w:World}{d:Option Tmp}{ty:TypeId}{pos:String}{af:Array Edge}{g:Option (Nat×Bool)}{C:Cx}{ρ:View}{hs:List Hl}{T:TypeId}{ids:List Nat}{ge:Nat→Value}
theorem Q_ldV{t:TypeId}{gl by_:Nat}{z:Value}(hok:Ok w ρ hs)(hg:GErrs ρ T ids ge)(hk:eOk ids ((gl+1:Nat):Int)=true)(hty:Ty P t 1 by_ z false):Qv P E ⟨d,.load t (.global gl),ty,pos,af,g⟩ (errV ids ge ((gl+1:Nat):Int)) w:=by
 rw[errV_yes hk];have e:((gl+1:Nat):Int).toNat-1=gl:=by omega
 rw[e];have:=(eOk_mem hk).1;rw[e]at this;exact Q_ldG hok (hg.g gl this) hty
theorem Q_neqV{t t':TypeId}{ms:Array (String×TypeId)}{x:Operand}{c:Int}(ht:P.underlying t=some (.interface ms))(hg:GErrs ρ T ids ge)(hx:ev E x=some (errV ids ge c)):Qv P E ⟨d,.binOp .neq t x (.const .nilIface) t',ty,pos,af,g⟩ (.bool (eOk ids c)) w:=by
 cases hc:eOk ids c with
 |true=>rw[errV_yes hc]at hx;exact Q_neqE ht (hg.g _ (eOk_mem hc).1) hx
 |false=>rw[errV_no hc]at hx;exact Q_neqN ht hx
theorem Q_eqlV{t t':TypeId}{ms:Array (String×TypeId)}{x:Operand}{c:Int}(ht:P.underlying t=some (.interface ms))(hg:GErrs ρ T ids ge)(hx:ev E x=some (errV ids ge c)):Qv P E ⟨d,.binOp .eql t x (.const .nilIface) t',ty,pos,af,g⟩ (.bool (!eOk ids c)) w:=by
 cases hc:eOk ids c with
 |true=>rw[errV_yes hc]at hx;exact Q_eqlE ht (hg.g _ (eOk_mem hc).1) hx
 |false=>rw[errV_no hc]at hx;exact Q_eqlN ht hx
end
def sentD(nm:String)(text:List UInt8):DataW Unit:= .iface nm (.ptr (.agg [.lit (.string text)]))
structure SentT(P:Program)(nm:String)(ti tp te ts:TypeId)(ms:Array (String×TypeId))(f:Field):Prop where
 hi:P.underlying ti=some (.interface ms)
 hrow: ∀u,P.typeName? 3 u=some nm→u=tp
 hp:P.underlying tp=some (.pointer te)
 he:P.underlying te=some (.struct #[f])
 hft:f.type=ts
 hfo:f.offset=0
 hs:P.underlying ts=some .string
 hc:P.cellsOf te=1
 hcs:P.cellsOf ts=1
section
variable {P:Program}{W:World}{nm:String}{ti tp te ts:TypeId}{ms:Array (String×TypeId)}{f:Field}
theorem sent_mem(hT:SentT P nm ti tp te ts ms f): ∀{l:List (String×DataW Unit)} {ps:List MemPlace},DataW.LaidVars P W l ps→
 (∀b off,MemPlace.cell b off∈ps→(∃c t,W.heap[b]? =some (.cells c t (0,0)))∧ ∀u v,W.cell? ⟨b,off,none⟩=some (.iface u v)→Value.okWide P W .any 0 u v)→
 ∀{n:String} {g:Nat} {text:List UInt8},(n,sentD nm text)∈l→P.globalNamed n=some g→(P.globals[g]?).map (·.type)=some ti→
 ∃a,W.var? P n=some #[.iface tp (.pointer (some a))]∧MemPlace.cell a.block a.off∈ps:=by
 intro l
 induction l with
 |nil=>intro _ _ _ n g text h;simp at h
 |cons x l ih=>
   intro ps hl hr n g text hm hg ht;obtain⟨n',d'⟩:=x;obtain⟨g',t',cs,fuel,p,q,h1,h2,h3,h4,h5,rfl⟩:=hl;rcases List.mem_cons.1 hm with he|he
   ·simp only[Prod.mk.injEq]at he;obtain⟨rfl,rfl⟩:=he;obtain rfl:=Option.some.inj (hg.symm.trans h1);obtain rfl:=Option.some.inj (ht.symm.trans h2);obtain⟨ls⟩:=cs
    have ok0: ∀u v,ls= [.iface u v]→Value.okWide P W .any 0 u v:=fun u v e=>by
     subst e;exact(hr g 0 (by simp[MemPlace.row])).2 u v (by simpa using World.var?_cell hg h3 0)
    obtain⟨a0,s0,rfl,_,_,_,rfl⟩:=errorString_of_trod hT.hi hT.hrow hT.hp hT.he hT.hft hT.hfo hT.hs hT.hc hT.hcs h4 ok0;exact⟨a0,h3,by simp[MemPlace.row]⟩
   obtain⟨a,a1,a2⟩:=ih h5 (fun b off hb=>hr b off (by simp[hb])) he hg ht;exact⟨a,a1,by simp[a2]⟩
theorem sent_ne(hT:SentT P nm ti tp te ts ms f): ∀{l:List (String×DataW Unit)} {ps:List MemPlace},DataW.LaidVars P W l ps→ps.Nodup→
 (∀b off,MemPlace.cell b off∈ps→(∃c t,W.heap[b]? =some (.cells c t (0,0)))∧ ∀u v,W.cell? ⟨b,off,none⟩=some (.iface u v)→Value.okWide P W .any 0 u v)→
 ∀{n m:String} {g k:Nat} {text text':List UInt8} {a:Addr},(n,sentD nm text)∈l→(m,sentD nm text')∈l→P.globalNamed n=some g→(P.globals[g]?).map (·.type)=some ti→P.globalNamed m=some k→(P.globals[k]?).map (·.type)=some ti→
 W.var? P n=some #[.iface tp (.pointer (some a))]→W.var? P m=some #[.iface tp (.pointer (some a))]→n=m:=by
 intro l
 induction l with
 |nil=>intro _ _ _ _ n m g k text text' a h;simp at h
 |cons x l ih=>
   intro ps hl hnd hr n m g k text text' a hm hm' hg ht hg' ht' hv hv';obtain⟨n',d'⟩:=x;have hl0:=hl;obtain⟨g',t',cs,fuel,p,q,h1,h2,h3,h4,h5,rfl⟩:=hl;have hq: ∀b off,MemPlace.cell b off∈q→(∃c t,W.heap[b]? =some (.cells c t (0,0)))∧ ∀u v,W.cell? ⟨b,off,none⟩=some (.iface u v)→Value.okWide P W .any 0 u v:=fun b off hb=>hr b off (by simp[hb])
   have cross: ∀{n m:String} {g k:Nat} {text text':List UInt8},(n,sentD nm text)=(n',d')→(m,sentD nm text')∈l→P.globalNamed n=some g→(P.globals[g]?).map (·.type)=some ti→P.globalNamed m=some k→(P.globals[k]?).map (·.type)=some ti→
    W.var? P n=some #[.iface tp (.pointer (some a))]→W.var? P m=some #[.iface tp (.pointer (some a))]→False:=by
    intro n m g k text text' je jm' jg jt jg' jt' jv jv';simp only[Prod.mk.injEq]at je;obtain⟨rfl,rfl⟩:=je;obtain rfl:=Option.some.inj (jg.symm.trans h1);obtain rfl:=Option.some.inj (jt.symm.trans h2);obtain⟨ls⟩:=cs
    have ok0: ∀u v,ls= [.iface u v]→Value.okWide P W .any 0 u v:=fun u v e=>by
     subst e;exact(hr g 0 (by simp[MemPlace.row])).2 u v (by simpa using World.var?_cell jg h3 0)
    obtain⟨a0,s0,rfl,_,_,_,rfl⟩:=errorString_of_trod hT.hi hT.hrow hT.hp hT.he hT.hft hT.hfo hT.hs hT.hc hT.hcs h4 ok0;obtain⟨a1,b1,b2⟩:=sent_mem hT h5 hq jm' jg' jt'
    have e1:a0=a:=by
     have:=jv.symm.trans h3;simpa using this.symm
    have e2:a1=a:=by
     have:=jv'.symm.trans b1;simpa using this.symm
    subst e1;subst e2;rw[List.nodup_append]at hnd;exact hnd.2.2 (MemPlace.cell a1.block a1.off) (by simp[MemPlace.row]) _ b2 rfl
   rcases List.mem_cons.1 hm with he|he
   ·rcases List.mem_cons.1 hm' with he'|he'
    ·exact congrArg Prod.fst (he.trans he'.symm)
    exact(cross he he' hg ht hg' ht' hv hv').elim
   rcases List.mem_cons.1 hm' with he'|he'
   ·exact(cross he' he hg' ht' hg ht hv' hv).elim
   exact ih h5 (List.nodup_append.1 hnd).2.1 hq he he' hg ht hg' ht' hv hv'
theorem gErrs_of(hT:SentT P nm ti tp te ts ms f){laid:List (String×DataW Unit)}(h:laidMet P laid W){ids:List Nat}
 (hall: ∀k∈ids,∃n text,(n,sentD nm text)∈laid∧P.globalNamed n=some k∧(P.globals[k]?).map (·.type)=some ti): ∃ge,GErrs (hv W) tp ids ge:=by
 obtain⟨ps,hl,hnd,hr⟩:=h
 have key: ∀k∈ids,∃n text a,(n,sentD nm text)∈laid∧P.globalNamed n=some k∧(P.globals[k]?).map (·.type)=some ti∧W.var? P n=some #[.iface tp (.pointer (some a))]∧MemPlace.cell a.block a.off∈ps:=by
  intro k hk;obtain⟨n,text,h1,h2,h3⟩:=hall k hk;obtain⟨a,h4,h5⟩:=sent_mem hT hl hr h1 h2 h3;exact⟨n,text,a,h1,h2,h3,h4,h5⟩
 have cell: ∀{k:Nat} {n:String} {a:Addr},P.globalNamed n=some k→W.var? P n=some #[.iface tp (.pointer (some a))]→(hv W).cell k 0=some (.iface tp (.pointer (some a))):=by
  intro k n a h1 h2;rw[←hv_cell,World.var?_cell h1 h2 0];rfl
 have gk: ∀{k:Nat},k∈ids→ ∃a,(hv W).cell k 0=some (.iface tp (.pointer (some a)))∧MemPlace.cell a.block a.off∈ps:=by
  intro k hk;obtain⟨n,text,a,h1,h2,h3,h4,h5⟩:=key k hk;exact⟨a,cell h2 h4,h5⟩
 have ge: ∀{k:Nat} {a:Addr},(hv W).cell k 0=some (.iface tp (.pointer (some a)))→((hv W).cell k 0).getD .nilIface= .iface tp (.pointer (some a)):=fun h=>by rw[h];rfl
 refine⟨fun k=>((hv W).cell k 0).getD .nilIface,fun k hk=>?_,fun k hk=>?_,fun k hk l hl' he=>?_⟩
 ·obtain⟨a,h1,_⟩:=gk hk;refine⟨fun j u hj=>?_,tp,a,ge h1⟩
  cases j with
  |zero=>
    simp only[List.getElem?_cons_zero,Option.some.injEq]at hj;rw[←hj,ge h1,Nat.zero_add];exact h1
  |succ j=>simp at hj
 ·obtain⟨a,h1,h2⟩:=gk hk;obtain⟨c,t,h3⟩:=(hr _ _ h2).1;exact⟨a,c,t,ge h1,h3⟩
 obtain⟨n,text,a,h1,h2,h3,h4,h5⟩:=key k hk;obtain⟨m,text',b,i1,i2,i3,i4,i5⟩:=key l hl'
 have he':Value.iface tp (.pointer (some a))= .iface tp (.pointer (some b)):=by
  have:=he;simp only[ge (cell h2 h4),ge (cell i2 i4)]at this;exact this
 have hab:a=b:=by simpa using he'
 subst hab;have:=sent_ne hT hl hnd hr h1 i1 h2 h3 i2 i3 h4 i4;subst this;exact Option.some.inj (h2.symm.trans i2)
end
theorem gTab_of{P:Program}{W:World}{name:String}{g:Nat}{t e:TypeId}{n:Nat}{k:IntKind}{zs:List Int}{laid:List (String×DataW Unit)}(hg:P.globalNamed name=some g)(hty:(P.globals[g]?).map (·.type)=some t)
 (ht:P.underlying t=some (.array n e)) (he:P.underlying e=some (.int k)) (hce:P.cellsOf e=1) (hct:P.cellsOf t=n) (hm:(name,Lib.tabData k zs)∈laid) (h:laidMet P laid W):GTab (hv W) g k zs:=by
 obtain⟨ps,hps,_,_⟩:=h
 have key: ∀(l:List (String×DataW Unit)) (ps:List MemPlace),DataW.LaidVars P W l ps→(name,Lib.tabData k zs)∈l→
  ∃cs fuel p,W.var? P name=some cs∧DataW.trod (fun _=>()) P W 0 (fun _=>true) false fuel t cs.toList=some (Lib.tabData k zs,p):=by
  intro l
  induction l with
  |nil=>intro _ _ h;simp at h
  |cons x l ih=>
    intro ps hps hmem;obtain⟨n,e⟩:=x;obtain⟨g',t',cs,fuel,p,q,h1,h2,h3,h4,h5,rfl⟩:=hps;rcases List.mem_cons.1 hmem with he|he
    ·simp only[Prod.mk.injEq]at he;obtain⟨rfl,rfl⟩:=he;obtain rfl:=Option.some.inj (hg.symm.trans h1);obtain rfl:=Option.some.inj (hty.symm.trans h2);exact⟨cs,fuel,p,h3,h4⟩
    obtain⟨cs',fuel',p',a1,a2⟩:=ih q h5 he;exact⟨cs',fuel',p',a1,a2⟩
 obtain⟨cs,fuel,p,h3,h4⟩:=key laid ps hps hm;have hcs:=Lib.cells_of_tab ht he hce hct h4;intro j u hj;have hcell:=World.var?_cell hg h3 j;rw[←hv_cell,Nat.zero_add,hcell];rw[←hcs]at hj;simpa using hj
def Mk(b:Nat)(cs:List Value):Hl where
 fp:=[b]
 P h:= ∃c T fr,h b=some (.cells c T fr)∧c.toList=cs
 loc he hp:=by obtain⟨c,T,fr,h1,h2⟩:=hp;exact⟨c,T,fr,(he b (by simp)).symm.trans h1,h2⟩
section
variable {P:Program}{E:Env}{w:World}{d:Option Tmp}{ty:TypeId}{pos:String}{af:Array Edge}{g:Option (Nat×Bool)}{C:Cx}{ρ:View}{hs:List Hl}
theorem freeze_at{w:World}{b m:Nat}{cur:Array Value}{T:TypeId}(h:w.heap[b]? =some (.cells cur T (0,0))):
 (w.freeze ⟨b,m,none⟩ 1).heap[b]? =some (.cells cur T (m,m+1)):=by
 unfold World.freeze;rw[if_neg (by decide)];simp[Array.getElem?_modify,h]
theorem freeze_other{w:World}{b m j:Nat}(h:j≠b):(w.freeze ⟨b,m,none⟩ 1).heap[j]? =w.heap[j]? :=by
 unfold World.freeze;rw[if_neg (by decide)];simp[Array.getElem?_modify,Ne.symm h]
theorem freeze_size{w:World}{b m:Nat}:(w.freeze ⟨b,m,none⟩ 1).heap.size=w.heap.size:=by
 unfold World.freeze;rw[if_neg (by decide)];simp
theorem E_cvB{s e:TypeId}{x:Operand}{xs:List Int}{b n c k:Nat}{cs:List Value}(H:Hp C w ρ hs)(hk:hs[k]? =some (Arr (.slice (some ⟨b,0,none⟩) n c) 1 cs))(hr:rdL (eI .u8) ρ xs cs)
 (hs':P.underlying s=some (.slice e)) (he:P.underlying e=some (.int .u8)) (hx:ev E x=some (.slice (some ⟨b,0,none⟩) n c)):
 Eff P E ⟨d,.convert s s x,ty,pos,af,g⟩ w (fun v w'=>v= .slice (some ⟨b,0,none⟩) n c∧ ∃ρ',View.le ρ ρ'∧RdSl ρ' (eI .u8) (.slice (some ⟨b,0,none⟩) n c) xs∧Hp C w' ρ' (hs.eraseIdx k)):=by
 rcases H.ok.get hk with⟨h0,_⟩|⟨b',o',len,cap,cur,T,h0,h1,h2,h3,h4,h5⟩
 ·cases h0
 simp only[Value.slice.injEq,Option.some.injEq,Addr.mk.injEq]at h0;obtain⟨⟨rfl,rfl,_⟩,rfl,rfl⟩:=h0;have hheap:w.heap[b]? =some (.cells cur T (0,0)):=h4;have hsh:w.shape? b=some (T,cur.size):=by unfold World.shape?;rw[hheap]
 have H2:Hp C (w.freeze ⟨b,cur.size,none⟩ 1) ρ (hs.set k (Mk b cur.toList)):=
  H.upd hk (by unfold World.freeze;rw[if_neg (by decide)]) ⟨by unfold World.freeze;rw[if_neg (by decide)],by unfold World.freeze;rw[if_neg (by decide)];exact Nat.le_refl _⟩ (by unfold World.freeze;rw[if_neg (by decide)]) (Nat.le_of_eq freeze_size.symm)
   (fun j _ hj=>freeze_other (by simpa[Arr,vblk]using hj)) (by simp[Mk]) (fun j hj=> .inl (by simpa[Mk,Arr,vblk]using hj)) (fun j hj=>by
    simp[Mk]at hj;subst hj;rw[freeze_size];exact lt_of_hv (by assumption)) ⟨cur,T,_,freeze_at hheap,rfl⟩
 have hkl:k<hs.length:=(List.getElem?_eq_some_iff.1 hk).1;have H3:=H2.front k (h:=Mk b cur.toList) (by simp[hkl]);obtain⟨ρ',hl,H4,hp⟩:=H3.freeze
 have hes:(hs.set k (Mk b cur.toList)).eraseIdx k=hs.eraseIdx k:=by
  apply List.ext_getElem?;intro i;simp only[List.getElem?_eraseIdx];split
  ·rw[List.getElem?_set_ne (by omega)]
  rw[List.getElem?_set_ne (by omega)]
 rw[hes]at H4;refine Eff.of_run fun n' a hf=>⟨.slice (some ⟨b,0,none⟩) n c,_,?_,rfl,ρ',hl,?_,H4⟩
 ·simp only[execOp,hf.eval hx];simp[convert,run_underlying hs',run_underlying he,markStringish,hsh]
 obtain⟨c',T',fr,hb,hc'⟩:=hp;have hlen:=hr.len
 have hn:n=xs.length:=by
  have e1:(eI .u8).n=1:=rfl;rw[h1,e1,Nat.mul_one,Nat.mul_one]at hlen;exact hlen
 subst hn;refine .inr ⟨b,0,c,cs,rfl,h2,rdL.up hl hr,fun j u hj=>?_⟩;rw[Nat.zero_add];unfold View.cell;rw[hb];rw[←h5,List.drop_zero,List.getElem?_take]at hj;split at hj
 ·rw[←hc']at hj;simpa using hj
 cases hj
end
def Star(L:List Hl):Hl where
 fp:=fps L
 P h:= ∀x∈L,x.P h
 loc he hp:=fun x hx=>x.loc (fun b hb=>he b (mem_fps.2 ⟨x,hx,hb⟩)) (hp x hx)
def Yd(l:Nat)(o:Loop)(A:Hl):Hl where
 fp:=l::A.fp
 P h:=h l=some (.loop o)∧A.P h
 loc he hp:=⟨(he l (by simp)).symm.trans hp.1,A.loc (fun b hb=>he b (by simp[hb])) hp.2⟩
def Dfr(D:Nat):Hl where
 fp:=[D]
 P h:=h D=some (.deferred (some []))
 loc he hp:=(he D (by simp)).symm.trans hp
section
variable {C:Cx}{w:World}{ρ:View}{hs L:List Hl}
theorem fps_app(L hs:List Hl):fps (L++hs)=fps L++fps hs:=by simp[fps]
theorem Hp.star(H:Hp C w ρ (L++hs)):Hp C w ρ (Star L::hs):=by
 have e:fps (Star L::hs)=fps (L++hs):=by rw[fps_cons,fps_app];rfl
 refine⟨H.os,H.tape,H.out,H.size,H.old,by rw[e];exact H.fresh,by rw[e];exact H.lt,by rw[e];exact H.nodup,H.view,by rw[e];exact H.apart,fun x hx=>?_⟩;rcases List.mem_cons.1 hx with rfl|hx
 ·exact fun y hy=>H.all y (List.mem_append.2 (.inl hy))
 exact H.all x (List.mem_append.2 (.inr hx))
theorem Hp.unstar(H:Hp C w ρ (Star L::hs)):Hp C w ρ (L++hs):=by
 have e:fps (Star L::hs)=fps (L++hs):=by rw[fps_cons,fps_app];rfl
 refine⟨H.os,H.tape,H.out,H.size,H.old,by rw[←e];exact H.fresh,by rw[←e];exact H.lt,by rw[←e];exact H.nodup,H.view,by rw[←e];exact H.apart,fun x hx=>?_⟩;rcases List.mem_append.1 hx with hx|hx
 ·exact H.all (Star L) (by simp) x hx
 exact H.all x (by simp[hx])
theorem putObj_hv_same{l:Nat}{o:Obj}(h:l<w.heap.size):hv (w.putObj l o) l=some o:=World.putObj_heap_same h
theorem putObj_hv_other{l k:Nat}{o:Obj}(h:k≠l):hv (w.putObj l o) k=hv w k:=World.putObj_heap_other h
theorem Hp.turn{l:Nat}{o:Loop}{A:Hl}(H:Hp C w ρ (Yd l o A::hs))(o':Loop):Hp C (w.putObj l (.loop o')) ρ (Yd l o' A::hs):=by
 have hl:l<w.heap.size:=H.lt l (by simp[fps_cons,Yd]);have hn:=H.nodup;rw[fps_cons]at hn;have hA:l∉A.fp:=(List.nodup_cons.1 (List.nodup_append.1 hn).1).1;have hp:=H.all (Yd l o A) (by simp)
 exact H.upd (k:=0) (h:=Yd l o A) (h':=Yd l o' A) rfl rfl (Tp.rfl _) rfl (Nat.le_of_eq (by simp)) (fun b _ hb=>World.putObj_heap_other (fun e=>hb (by simp[Yd,e])))
  (List.nodup_append.1 hn).1 (fun b hb=> .inl hb) (fun b hb=>by rw[World.putObj_size];exact H.lt b (by rw[fps_cons];exact List.mem_append.2 (.inl hb)))
  ⟨putObj_hv_same hl,A.loc (fun b hb=>(putObj_hv_other (k:=b) (by rintro rfl;exact hA hb)).symm) hp.2⟩
theorem Hp.unYd{l:Nat}{o:Loop}{A:Hl}(H:Hp C w ρ (Yd l o A::hs)):Hp C w ρ (A::hs):=by
 have hn:=H.nodup;rw[fps_cons]at hn;have e:fps (Yd l o A::hs)=l::fps (A::hs):=by rw[fps_cons,fps_cons];rfl
 refine⟨H.os,H.tape,H.out,H.size,H.old,fun b hb=>H.fresh b (by rw[e];exact .tail _ hb),fun b hb=>H.lt b (by rw[e];exact .tail _ hb),(List.nodup_cons.1 (by have:=H.nodup;rwa[e]at this)).2,H.view,fun b hb=>H.apart b (by rw[e];exact .tail _ hb),fun x hx=>?_⟩;rcases List.mem_cons.1 hx with rfl|hx
 ·exact(H.all (Yd l o x) (by simp)).2
 exact H.all x (by simp[hx])
theorem Hp.allocYd{A:Hl}(H:Hp C w ρ (A::hs))(o:Loop):Hp C (w.alloc (.loop o)) ρ (Yd w.heap.size o A::hs):=by
 have H4:=H.alloc (.loop o) (h:=⟨[w.heap.size],fun h=>h w.heap.size=some (.loop o),fun he hp=>(he _ (by simp)).symm.trans hp⟩) rfl (hv_alloc_new w _);refine⟨H4.os,H4.tape,H4.out,H4.size,H4.old,?_,?_,?_,H4.view,?_,fun x hx=>?_⟩
 ·simpa[fps_cons,Yd]using H4.fresh
 ·simpa[fps_cons,Yd]using H4.lt
 ·simpa[fps_cons,Yd]using H4.nodup
 ·simpa[fps_cons,Yd]using H4.apart
 rcases List.mem_cons.1 hx with rfl|hx
 ·exact⟨hv_alloc_new w _,H4.all A (by simp)⟩
 exact H4.all x (by simp at hx ⊢;right;right;exact hx)
theorem Hp.taken{P:Program}{D:Nat}(H:Hp C w ρ (Dfr D::hs)):(Instr.takeDeferred D).run P w= .ok [] (w.putObj D (.deferred none))∧Hp C (w.putObj D (.deferred none)) ρ hs:=by
 have hD:D<w.heap.size:=H.lt D (by simp[fps_cons,Dfr]);refine⟨run_takeDeferred (H.all (Dfr D) (by simp)),?_⟩
 have:=H.upd (w':=w.putObj D (.deferred none)) (k:=0) (h:=Dfr D) (h':=⟨[D],fun _=>True,fun _ _=>trivial⟩) rfl rfl (Tp.rfl _) rfl (Nat.le_of_eq (by simp)) (fun b _ hb=>World.putObj_heap_other (fun e=>hb (by simp[Dfr,e])))
  (by simp) (fun b hb=> .inl hb) (fun b hb=>by rw[World.putObj_size];simp at hb;subst hb;exact hD) trivial
 exact this.tail
end
theorem bnT{b:Bool}(h:(!b)=true):b=false:=by cases b<;>simp_all
theorem bnF{b:Bool}(h:(!b)=false):b=true:=by cases b<;>simp_all
section
variable {C:Cx}{w:World}{ρ:View}{hs L:List Hl}
theorem Hp.ydOpen{l:Nat}{O:Loop}(H:Hp C w ρ (Yd l O (Star L)::hs)): ∃o,o=O∧Hp C w ρ (Yd l o (Star [])::(L++hs)):=by
 have e:fps (Yd l O (Star [])::(L++hs))=fps (Yd l O (Star L)::hs):=by rw[fps_cons,fps_cons,fps_app];simp[Yd,Star,fps]
 refine⟨O,rfl,H.os,H.tape,H.out,H.size,H.old,by rw[e];exact H.fresh,by rw[e];exact H.lt,by rw[e];exact H.nodup,H.view,by rw[e];exact H.apart,fun x hx=>?_⟩;have h0:=H.all _ (List.mem_cons_self ..);rcases List.mem_cons.1 hx with rfl|hx
 ·exact⟨h0.1,fun y hy=>by cases hy⟩
 rcases List.mem_append.1 hx with hx|hx
 ·exact h0.2 x hx
 exact H.all x (by simp[hx])
theorem Hp.ydClose{l:Nat}{o:Loop}(H:Hp C w ρ (Yd l o (Star [])::(L++hs))):Hp C w ρ (Yd l o (Star L)::hs):=by
 have e:fps (Yd l o (Star [])::(L++hs))=fps (Yd l o (Star L)::hs):=by rw[fps_cons,fps_cons,fps_app];simp[Yd,Star,fps]
 refine⟨H.os,H.tape,H.out,H.size,H.old,by rw[←e];exact H.fresh,by rw[←e];exact H.lt,by rw[←e];exact H.nodup,H.view,by rw[←e];exact H.apart,fun x hx=>?_⟩;rcases List.mem_cons.1 hx with rfl|hx
 ·exact⟨(H.all _ (List.mem_cons_self ..)).1,fun y hy=>H.all y (by simp[hy])⟩
 exact H.all x (by simp[hx])
end
structure YC{σ α:Type}(P:Program)(l:Nat)(rec:Bool→σ→Loop)(I:View→σ→Hl→Prop)(R:View→α→Array Value→Prop)(Y:α→σ→Option (σ×Bool))(ρ0:View):Prop where
 go: ∀{C:Cx} {w:World} {ρ:View} {hs:List Hl} {s:σ} {A:Hl} {x:α} {args:Array Value} {r:σ×Bool},View.le ρ0 ρ→I ρ s A→R ρ x args→Hp C w ρ (Yd l (rec true s) A::hs)→Y x s=some r→
  YieldAt Fence.wide 0 P l args w (Rets fun v w'=>v= .bool r.2∧ ∃(ρ':View) (A':Hl),View.le ρ ρ'∧I ρ' r.1 A'∧Hp C w' ρ' (Yd l (rec r.2 r.1) A'::hs))
def IS{σ1 σ2:Type}(I1:View→σ1→Hl→Prop)(I2:View→σ2→Hl→Prop):View→σ1 ⊕ σ2→Hl→Prop
 |ρ,.inl s,A=>I1 ρ s A
 |ρ,.inr s,A=>I2 ρ s A
theorem IS.l{σ1 σ2:Type}{I1:View→σ1→Hl→Prop}{I2:View→σ2→Hl→Prop}{ρ:View}{s:σ1}{A:Hl}(h:I1 ρ s A):IS I1 I2 ρ (.inl s) A:=h
theorem IS.r{σ1 σ2:Type}{I1:View→σ1→Hl→Prop}{I2:View→σ2→Hl→Prop}{ρ:View}{s:σ2}{A:Hl}(h:I2 ρ s A):IS I1 I2 ρ (.inr s) A:=h
theorem IS.unl{σ1 σ2:Type}{I1:View→σ1→Hl→Prop}{I2:View→σ2→Hl→Prop}{ρ:View}{s:σ1}{A:Hl}(h:IS I1 I2 ρ (.inl s) A):I1 ρ s A:=h
theorem IS.unr{σ1 σ2:Type}{I1:View→σ1→Hl→Prop}{I2:View→σ2→Hl→Prop}{ρ:View}{s:σ2}{A:Hl}(h:IS I1 I2 ρ (.inr s) A):I2 ρ s A:=h
theorem IS.mono{σ1 σ2:Type}{I1:View→σ1→Hl→Prop}{I2:View→σ2→Hl→Prop}(h1: ∀{ρ1 ρ2:View} {s:σ1} {A:Hl},View.le ρ1 ρ2→I1 ρ1 s A→I1 ρ2 s A)(h2: ∀{ρ1 ρ2:View} {s:σ2} {A:Hl},View.le ρ1 ρ2→I2 ρ1 s A→I2 ρ2 s A)
 {ρ1 ρ2:View} {s:σ1 ⊕ σ2} {A:Hl} (hl:View.le ρ1 ρ2) (h:IS I1 I2 ρ1 s A):IS I1 I2 ρ2 s A:=by
 cases s with
 |inl s=>exact h1 hl h
 |inr s=>exact h2 hl h
def YS{σ1 σ2 α:Type}(F:α→σ1→Option ((σ1 ⊕ σ2)×Bool)):α→σ1 ⊕ σ2→Option ((σ1 ⊕ σ2)×Bool)
 |x,.inl s=>F x s
 |_,.inr _=>none
theorem YC.of2{σ1 σ2 α:Type}{P:Program}{l:Nat}{rec:Bool→σ1 ⊕ σ2→Loop}{I1:View→σ1→Hl→Prop}{I2:View→σ2→Hl→Prop}{R:View→α→Array Value→Prop}{F:α→σ1→Option ((σ1 ⊕ σ2)×Bool)}{ρ0:View}
 (h: ∀{C:Cx} {w:World} {ρ:View} {hs:List Hl} {s:σ1} {A:Hl} {x:α} {args:Array Value} {r:(σ1 ⊕ σ2)×Bool},View.le ρ0 ρ→I1 ρ s A→R ρ x args→Hp C w ρ (Yd l (rec true (.inl s)) A::hs)→F x s=some r→
  YieldAt Fence.wide 0 P l args w (Rets fun v w'=>v= .bool r.2∧ ∃(ρ':View) (A':Hl),View.le ρ ρ'∧IS I1 I2 ρ' r.1 A'∧Hp C w' ρ' (Yd l (rec r.2 r.1) A'::hs))):YC P l rec (IS I1 I2) R (YS F) ρ0:=
 ⟨fun{C w ρ hs s A x args r} h1 h2 h3 h4 h5=>by
  cases s with
  |inl s=>exact h h1 h2 h3 h4 h5
  |inr s=>cases h5⟩
theorem YC.up{σ α:Type}{P:Program}{l:Nat}{rec:Bool→σ→Loop}{I:View→σ→Hl→Prop}{R:View→α→Array Value→Prop}{Y:α→σ→Option (σ×Bool)}{ρ0 ρ1:View}(hl:View.le ρ0 ρ1)(h:YC P l rec I R Y ρ0):YC P l rec I R Y ρ1:=
 ⟨fun h1 h2 h3 h4 h5=>h.go (View.le_trans hl h1) h2 h3 h4 h5⟩
section
variable {P:Program}{E:Env}{w:World}{d:Option Tmp}{ty:TypeId}{pos:String}{af:Array Edge}{g:Option (Nat×Bool)}{C:Cx}{ρ ρ0:View}{hs:List Hl}
theorem E_yield{σ α:Type}{l:Nat}{rec:Bool→σ→Loop}{I:View→σ→Hl→Prop}{R:View→α→Array Value→Prop}{Y:α→σ→Option (σ×Bool)}{s:σ}{A:Hl}{x:α}{r:σ×Bool}{f:Operand}{xs:List Operand}{vs:List Value}{ats:Array TypeId}
 (hY:YC P l rec I R Y ρ0) (hl:View.le ρ0 ρ) (hI:I ρ s A) (H:Hp C w ρ (Yd l (rec true s) A::hs)) (hR:R ρ x vs.toArray) (hF:Y x s=some r) (hf:ev E f=some (.func (.yield l) #[] #[])) (hx:evs E xs=some vs):
 EffI P E ⟨d,.call {callee:= .value f,args:=xs.toArray,argTypes:=ats},ty,pos,af,g⟩ w (fun v w'=>v= .bool r.2∧ ∃(ρ':View) (A':Hl),View.le ρ ρ'∧I ρ' r.1 A'∧Hp C w' ρ' (Yd l (rec r.2 r.1) A'::hs)):=by
 intro n a hfr K Q hK;obtain⟨fn,tmps,assign,body,hy,hr⟩:=hY.go hl hI hR H hF;refine⟨fun _ _=>trivial,?_⟩;have hev:=hfr.evals hx
 have hrun:(execOp a.eval ⟨d,.call {callee:= .value f,args:=xs.toArray,argTypes:=ats},ty,pos,af,g⟩).run P w= .ok (.round l fn tmps assign body) w:=by
  simp only[execOp,resolve,hfr.eval hf,Deferred.ofValue,List.map_toArray,hev,Sem.run_bind,Sem.run_pure,Result.andThen_ok,invoke,Array.empty_append,hy]
 have hrun':(Oper.semAt Fence.wide.round a.eval ⟨d,.call {callee:= .value f,args:=xs.toArray,argTypes:=ats},ty,pos,af,g⟩).run P w= .ok (.round l fn tmps assign body) w:=hrun;rw[hrun'];refine⟨fun hd=>by simp[Fence.wide]at hd,hr.mono fun e w' he=>?_⟩;obtain⟨v,rfl,h1⟩:=he;exact hK v w' h1
end
def beg(P:Program)(l:Nat)(body:Code)(Q:Exit→Act→World→Prop)(a:Act)(w:World):Prop:= ∃w2,(Instr.beginRound l).run P w= .ok () w2∧body.wpIn (Fx (some l)) 0 P Q a w2
section
variable {P:Program}{n:FN}{E:Env}{w:World}{C:Cx}{ρ:View}{hs:List Hl}{l:Nat}{o:Loop}{A:Hl}{post:Value→World→Prop}
theorem x_begin{Q:Exit→Act→World→Prop}{body:Code}(hst:o.state= .ready)(H:Hp C w ρ (Yd l o A::hs))(h: ∀w2,Hp C w2 ρ (Yd l {o with state:= .busy} A::hs)→CW (some l) P body Q n E w2):
 XX (Exit.then (beg P l body Q) (fun _ _ _=>False)) .normal n E w:=
 fun a hf=>⟨_,run_beginRound (H.all (Yd l o A) (by simp)).1 hst,h _ (H.turn _) a hf⟩
theorem x_round(H:Hp C w ρ (Yd l o A::hs))(h: ∀w',Hp C w' ρ (Yd l {o with state:= .ready,pending:=none} A::hs)→post (.bool true) w'):XX (roundPost P l (Rets post)) .normal n E w:=
 fun _ _=>⟨_,_,run_endRound none (H.all (Yd l o A) (by simp)).1,_,rfl,h _ (H.turn _)⟩
theorem x_round_ret(H:Hp C w ρ (Yd l o A::hs))(h: ∀w',Hp C w' ρ (Yd l {o with state:= .done,pending:=some .ret} A::hs)→post (.bool false) w'):XX (roundPost P l (Rets post)) .ret n E w:=
 fun _ _=>⟨_,_,run_endRound (some .ret) (H.all (Yd l o A) (by simp)).1,_,rfl,h _ (H.turn _)⟩
theorem yieldAt{args:Array Value}{body assign:Code}{tmps:Array Value}{ps:List Tmp}{vs:List Value}(H:Hp C w ρ (Yd l o A::hs))(hargs:args=vs.toArray)(hp:o.params=ps.toArray)(hn:vs.length=ps.length)(ha:o.assign=assign)(hb:o.body=body)(ht:o.tmps=tmps)
 (_hk:n.ds= []) (h: ∀a,Fr n a E→assign.wpIn (Fx (some l)) 0 P (Exit.then (beg P l body (roundPost P l (Rets post))) (fun _ _ _=>False)) a w)
 (hfr:Fr n {tmps:=((ps.zip vs).foldl (fun t (p,v)=>t.setIfInBounds p v) tmps),defers:=[]} E):
 YieldAt Fence.wide 0 P l args w (Rets post):=by
 subst ha hb ht hargs;refine⟨o.fn,_,o.assign,o.body,run_yield (H.all (Yd l o A) (by simp)).1 (by rw[hp];simp[hn]),roundIn_of_wpIn trivial ?_⟩;have e:(Array.zip o.params vs.toArray).foldl (fun t (p,v)=>t.setIfInBounds p v) o.tmps=(ps.zip vs).foldl (fun t (p,v)=>t.setIfInBounds p v) o.tmps:=by rw[hp];simp
 rw[e];exact h _ hfr
end
theorem Fr.params{n:FN}: ∀{ps:List Tmp} {vs:List Value} {tmps:Array Value} {E:Env},Fr n {tmps:=tmps,defers:=[]} E→(∀p∈ps,p<n.n)→ps.length=vs.length→
 Fr n {tmps:=((ps.zip vs).foldl (fun t (p,v)=>t.setIfInBounds p v) tmps),defers:=[]} ((ps.zip vs).foldl (fun E (p,v)=>(p,v)::E) E)
 | [],_,_,_,h,_,_=>by simpa using h
 |p::ps,[],_,_,_,_,hl=>by simp at hl
 |p::ps,v::vs,tmps,E,h,hp,hl=>by
   simp only[List.zip_cons_cons,List.foldl_cons];exact Fr.params (h.put (hp p (by simp)) v) (fun q hq=>hp q (by simp[hq])) (by simpa using hl)
section
variable {P:Program}{n:FN}{E:Env}{w:World}{C:Cx}{ρ:View}{hs:List Hl}{Q:Exit→Act→World→Prop}
theorem C_range{σ α:Type}{g:Operand}{gf:Nat}{lb:List Value}{ps:List Tmp}{assign body:Code}{A0:Hl}{s0:σ}{r:σ×Bool}{I:View→σ→Hl→Prop}{R:View→α→Array Value→Prop}{Y:α→σ→Option (σ×Bool)}(K:List Hl)(jump:σ→Code)
 (hg:ev E g=some (.func (.func gf) #[] lb.toArray)) (hfn:HasFn P gf) (H:Hp C w ρ (A0::(K++hs))) (_hI:I ρ s0 A0) (hnd:n.ds= [])
 (hY: ∀(a:Act),Fr n a E→ ∀(l fn D:Nat),YC P l (fun b s=>⟨if b then .ready else .done,if b then none else some (jump s),fn,a.tmps,ps.toArray,assign,body,D⟩) I R Y ρ)
 (hit: ∀{l:Nat} {rec:Bool→σ→Loop} {W:World} {hs':List Hl},YC P l rec I R Y ρ→Hp C W ρ (Yd l (rec true s0) A0::(K++hs'))→Calls P gf ((.func (.yield l) #[] #[]::lb).toArray) W (Rets fun _ w'=> ∃(ρ':View) (A':Hl),View.le ρ ρ'∧I ρ' r.1 A'∧Hp C w' ρ' (Yd l (rec r.2 r.1) A'::hs')))
 (hk: ∀(D:Nat) (w4:World) (ρ':View) (A':Hl),View.le ρ ρ'→I ρ' r.1 A'→Hp C w4 ρ' (A'::Dfr D::hs)→(r.2=true→XX Q .normal ⟨n.n,[D]⟩ E w4)∧(r.2=false→CW none P (jump r.1) Q ⟨n.n,[D]⟩ E w4)):
 CW none P (.rangeFunc g ps.toArray assign body) Q n E w:=by
 intro a hf;refine wpIn_rangeFunc fun fn _=>?_;have hfr: ∀D,Fr ⟨n.n,[D]⟩ {a with defers:=({target:= .collected D,args:= #[]}:Deferred)::a.defers} E:=fun D=>⟨hf.size,by show _=marks [D];rw[hf.defers,hnd];rfl,hf.slots⟩;have hd0:a.defers= []:=by rw[hf.defers,hnd];rfl
 have H1:Hp C (w.alloc (.deferred (some []))) ρ (Dfr w.heap.size::A0::(K++hs)):=H.alloc _ rfl (hv_alloc_new w _);have hsz:(w.alloc (.deferred (some []))).heap.size=w.heap.size+1:=by simp
 have H3:=(H1.perm ((List.Perm.swap _ _ _).trans (List.perm_middle.symm.cons _))).allocYd ⟨.ready,none,fn,a.tmps,ps.toArray,assign,body,w.heap.size⟩;rw[hsz]at H3;have hen:=run_enterLoop_outer (P:=P) (w:=w) fn a.tmps ps.toArray assign body;generalize(w.alloc (.deferred (some []))).alloc (.loop ⟨.ready,none,fn,a.tmps,ps.toArray,assign,body,w.heap.size⟩)=W1 at H3 hen;have hY':=hY a hf (w.heap.size+1) fn w.heap.size;have hc:=hit hY' H3;refine⟨w.heap.size+1,[{target:= .collected w.heap.size,args:= #[]}],W1,{target:= .fn (.func gf) lb.toArray,args:= #[.func (.yield (w.heap.size+1)) #[] #[]]},W1,gf,(.func (.yield (w.heap.size+1)) #[] #[]::lb).toArray,W1,hen,?_,fun _ _=>trivial,?_,⟨fun hd=>by simp at hd,?_⟩⟩
 ·simp only[resolve,hf.eval hg];simp[go_sem]
 ·simp only[invoke,hfn.enter];simp
 refine callsIn_wide.2 (hc.mono fun e w' he=>?_);obtain⟨v,rfl,ρ',A',hle,hI',H5⟩:=he;have hpt:=(H5.all _ (List.mem_cons_self ..)).1;have H6:=(H5.turn (o':=⟨.exhausted,if r.2 then none else some (jump r.1),fn,a.tmps,ps.toArray,assign,body,w.heap.size⟩)).unYd;have key:=hk w.heap.size _ ρ' A' hle hI' H6;refine⟨_,_,run_endLoop hpt (by cases r.2<;>simp),?_⟩
 cases hr2:r.2 with
 |true=>
   rw[hr2]at key;have:=key.1 rfl _ (hfr w.heap.size);simpa[hr2]using this
 |false=>
   rw[hr2]at key;have:=key.2 rfl _ (hfr w.heap.size);simpa[hr2]using this
end
@[reducible] def bodyM(P:Program)(fn:Func)(R:Ending→World→Prop):Exit→Act→World→Prop:=bodyPostM Fence.wide 0 P fn R
section
variable {P:Program}{n:FN}{E:Env}{w:World}{C:Cx}{ρ:View}{hs:List Hl}{fn:Func}{post:Value→World→Prop}
theorem fn_callsM{f:FuncId}{c:Code}{args:List Value}{R:Ending→World→Prop}{n:Nat}(hf:P.funcs[f]? =some fn)(hb:fn.body=some c)(hnt:fn.ntmps=n)(hn:args.length≤n)
 (h:CW none P c (bodyM P fn R) (FN.of n) (argE 0 args) w):Calls P f args.toArray w R:=by
 subst hnt;refine(callsIn_wide (n:=0)).1 (callsIn_of_wp_marks hf hb trivial (h _ ⟨?_,rfl,?_⟩))
 ·simp;omega
 intro k v hk;have:=look_argE args 0 k v hk;have h2:args[k]? =some v:=by simpa using this.2
 have hlt:k<args.length:=(List.getElem?_eq_some_iff.1 h2).1;simpa[Array.getElem?_append,hlt]using(List.getElem?_eq_some_iff.1 h2).2
theorem fn_retM{rs:List ResultVar}{vs:List Value}(hrs:fn.results=rs.toArray)(hv:RV P w E rs vs)(h:post (packR vs) w)(hn:n.ds= []:=by rfl):XX (bodyM P fn (Rets post)) .ret n E w:=
 fun a hf=>by
  show LeavesInM Fence.wide 0 P fn a.tmps _ a.defers .returning w;rw[hf.defers,hn];exact⟨_,results_runV hrs hf hv,_,rfl,h⟩
theorem x_take{D k:Nat}{R:Ending→World→Prop}(H:Hp C w ρ (Dfr D::hs))(h: ∀w',Hp C w' ρ hs→XX (bodyM P fn R) .ret ⟨k,[]⟩ E w'):XX (bodyM P fn R) .ret ⟨k,[D]⟩ E w:=
 fun a hf=>by
  obtain⟨h1,h2⟩:=H.taken (P:=P);show LeavesInM Fence.wide 0 P fn a.tmps R a.defers .returning w;rw[hf.defers];refine⟨by simp,.inl ⟨_,_,rfl,h1,?_⟩⟩;have:=h _ h2 {a with defers:=[]} ⟨hf.size,rfl,hf.slots⟩;exact this
end
variable {P:Program}{E:Env}{w:World}{ρ:View}{hs:List Hl}{C:Cx}{d:Option Tmp}{ty:TypeId}{pos:String}{af:Array Edge}{g:Option (Nat×Bool)}
def rowF{α:Type}:Nat→Nat→(Nat→α)→List α
 |0,_,_=>[]
 |n+1,k,f=>f k::rowF n (k+1) f
theorem rowF_len{α:Type}(f:Nat→α): ∀(n k:Nat),(rowF n k f).length=n
 |0,_=>rfl
 |n+1,k=>by simp[rowF,rowF_len f n (k+1)]
theorem rowF_get{α:Type}(f:Nat→α): ∀(n k j:Nat),j<n→(rowF n k f)[j]? =some (f (k+j))
 |0,_,_,h=>by omega
 |n+1,k,0,_=>by simp[rowF]
 |n+1,k,j+1,h=>by
   simp only[rowF,List.getElem?_cons_succ];rw[rowF_get f n (k+1) j (by omega)]
   congr 2;omega
theorem rowF_map{α β:Type}(f:Nat→α)(q:α→β): ∀(n k:Nat),(rowF n k f).map q=rowF n k (fun j=>q (f j))
 |0,_=>rfl
 |n+1,k=>by simp[rowF,rowF_map f q n (k+1)]
theorem rowF_eq{ys:List Int}{n:Nat}(h:ys.length=n):rowF n 0 (fun j=>ys.getD j 0)=ys:=by
 refine List.ext_getElem? fun j=>?_;by_cases hj:j<n
 ·rw[rowF_get _ _ _ _ hj,Nat.zero_add,List.getD,List.getElem?_eq_getElem (by omega)];rfl
 rw[List.getElem?_eq_none (by rw[rowF_len];omega),List.getElem?_eq_none (by omega)]
theorem box_ix{b o:Nat}{vs:List Value}{h:View}{k:IntKind}{xs:List Int}{i y:Int}(hp:(Box b vs).P h)(hs:(vs.drop o).take xs.length=xs.map (.int k))(hx:idx xs i=some y):cellsAt h b (o+i.toNat*1) [.int k y]:=by
 obtain⟨_,h1,h2⟩:=idx_some hx;have:=box_at hp o xs.length;rw[hs]at this;intro j u hj;have hj0:j=0:=by have:=(List.getElem?_eq_some_iff.1 hj).1;simp at this;omega
 subst hj0;obtain rfl:Value.int k y=u:=by simpa using hj
 have:=this i.toNat (.int k y) (by rw[List.getElem?_map,h2];rfl);simpa using this
theorem Q_ldX{T:TypeId}{x:Operand}{by_ b o j:Nat}{z:Value}{vs:List Value}{k:IntKind}{xs:List Int}{i y:Int}(hok:Ok w ρ hs)(hk:hs[j]? =some (Box b vs))(hty:Ty P T 1 by_ z false)
 (hx:ev E x=some (.pointer (some ⟨b,o+i.toNat*1,none⟩))) (hsub:(vs.drop o).take xs.length=xs.map (.int k)) (hi:idx xs i=some y):Qv P E ⟨d,.load T x,ty,pos,af,g⟩ (.int k y) w:=
 Q_ld (box_ix (hok.get hk) hsub hi) hty rfl (fun _=>rfl) hx rfl
theorem E_stXu(H:Hp C w ρ hs){j:Nat}{T:TypeId}{x y:Operand}{by_ b o N:Nat}{z:Value}{vs vs':List Value}{k:IntKind}{xs ys:List Int}{i v:Int}(hk:hs[j]? =some (Box b vs))(hty:Ty P T 1 by_ z false)
 (hx:ev E x=some (.pointer (some ⟨b,o+i.toNat*1,none⟩))) (hy:ev E y=some (.int k v)) (hsub:(vs.drop o).take xs.length=xs.map (.int k)) (hN:xs.length=N) (hset:setI xs i v=some ys) (hfit:o+N≤vs.length)
 (hs':setC vs o (rowF N 0 fun j=> .int k (ys.getD j 0))=vs'):
 Eff P E ⟨d,.store T x y,ty,pos,af,g⟩ w (fun u w'=>u=undef∧Hp C w' ρ (hs.set j (Box b vs'))):=by
 obtain⟨_,h1,rfl⟩:=setI_some hset;refine E_stBu H hk hty hx hy (cs:=[.int k v]) rfl rfl (by simp[Value.oneCell']) (by omega) ?_;rw[←hs',←rowF_map (fun j=>(xs.set i.toNat v).getD j 0) (Value.int k),rowF_eq (by simp[hN])];refine List.ext_getElem? fun q=>?_;have hl:(xs.map (Value.int k)).length=xs.length:=List.length_map _
 have hv: ∀q,q<xs.length→vs[o+q]? =(xs.map (Value.int k))[q]? :=fun q hq=>by
  rw[←hsub,List.getElem?_take,if_pos hq,List.getElem?_drop]
 have hlo:o≤vs.length:=by omega
 unfold setC;simp only[List.length_singleton,List.length_map,List.length_set,Nat.mul_one];rw[List.append_assoc,List.append_assoc];by_cases h0:q<o
 ·rw[List.getElem?_append_left (by simp;omega),List.getElem?_append_left (by simp;omega),List.getElem?_take,List.getElem?_take,if_pos h0,if_pos (by omega)]
 rw[List.getElem?_append_right (l₁:=vs.take o) (by simp;omega)];have e1:q-(vs.take o).length=q-o:=by simp;omega
 rw[e1];by_cases h2:q<o+i.toNat
 ·rw[List.getElem?_append_left (by simp;omega),List.getElem?_take,if_pos h2,List.getElem?_append_left (by simp;omega)];have:=hv (q-o) (by omega);rw[show o+(q-o)=q by omega]at this;rw[this,List.getElem?_map,List.getElem?_map,List.getElem?_set_ne (by omega)]
 rw[List.getElem?_append_right (l₁:=vs.take (o+i.toNat)) (by simp;omega)];have e2:q-(vs.take (o+i.toNat)).length=q-(o+i.toNat):=by simp;omega
 rw[e2];by_cases h3:q=o+i.toNat
 ·subst h3;rw[List.getElem?_append_left (by simp),List.getElem?_append_left (by simp;omega),List.getElem?_map,show o+i.toNat-o=i.toNat by omega,List.getElem?_set_self (by omega)];simp
 rw[List.getElem?_append_right (by simp;omega),List.getElem?_drop];simp only[List.length_singleton];by_cases h4:q<o+xs.length
 ·rw[List.getElem?_append_left (by simp;omega)];have:=hv (q-o) (by omega);rw[show o+(q-o)=q by omega]at this;rw[show o+i.toNat+1+(q-(o+i.toNat)-1)=q by omega,this,List.getElem?_map,List.getElem?_map,List.getElem?_set_ne (by omega)]
 rw[List.getElem?_append_right (by simp;omega),List.getElem?_drop]
 congr 1
 simp only[List.length_map,List.length_set];omega
def inv(k:IntKind)(m:Int):Int:=ixor k (if k.signed then-1 else k.max) m
theorem Q_inv{k:IntKind}{t:TypeId}{x:Operand}{m:Int}(hx:ev E x=some (.int k m)):Qv P E ⟨d,.unOp .xor t x,ty,pos,af,g⟩ (.int k (inv k m)) w:=fun n a hf=>by
 simp[execOp,hf.eval hx,Op.unary,Op.intBits,inv,ixor]
theorem Hp.bfrz{b:Nat}{cs:List Value}(H:Hp C w ρ (Box b cs::hs)): ∃ρ',View.le ρ ρ'∧Hp C w ρ' hs∧cellsAt ρ' b 0 cs:=by
 obtain⟨ρ',hl,H',hp⟩:=H.freeze;have:=box_at hp 0 cs.length;rw[List.drop_zero,List.take_length]at this;exact⟨ρ',hl,H',this⟩
theorem errV0{ids:List Nat}{ge:Nat→Value}:errV ids ge 0= .nilIface:=by
 unfold errV;rw[if_neg];intro h;have:=(eOk_mem h).2;omega
theorem Hp.cast{hs':List Hl}(h:hs'=hs)(H:Hp C w ρ hs):Hp C w ρ hs':=h▸H
theorem oneA{cs:List Value}(h:cs.all (fun u=>u.oneCell')=true): ∀u∈cs,u.oneCell'=true:=List.all_eq_true.1 h
theorem one4{a b c d:Value}{cs:List Value}(h: [a,b,c,d].all (fun u=>u.oneCell')=true)(h2: ∀u∈cs,u.oneCell'=true): ∀u∈a::b::c::d::cs,u.oneCell'=true:=fun u hu=>by
 have h1:=List.all_eq_true.1 h;simp only[List.mem_cons]at hu;rcases hu with rfl|rfl|rfl|rfl|hu
 ·exact h1 _ (by simp)
 ·exact h1 _ (by simp)
 ·exact h1 _ (by simp)
 ·exact h1 _ (by simp)
 exact h2 u hu
def eH:Enc Value where
 n:=1
 rd _ u cs:=cs= [u]∧u.oneCell'=true
 len h:=by rw[h.1];rfl
 one h:=by rw[h.1];intro u hu;simp at hu;subst hu;exact h.2
 up _ h:=h
section
variable {α β:Type}{e:Enc α}{r:Enc β}{h:View}
def NS(e:Enc α)(r:Enc β)(v:Value)(us:List Value)(xs:List (List α×β)):Hl where
 fp:=vblk v++us.flatMap vblk
 P h:= ∃cs,(Arr v (1+r.n) cs).P h∧FamP e h us (xs.map (·.1))∧rdL (eP eH r) nov (us.zip (xs.map (·.2))) cs
 loc he hp:=by
  obtain⟨cs,h1,h2,h3⟩:=hp;exact⟨cs,(Arr v (1+r.n) cs).loc (fun b hb=>he b (List.mem_append.2 (.inl hb))) h1,FamP.loc (fun b hb=>he b (List.mem_append.2 (.inr hb))) h2,h3⟩
theorem rdL_ns(hen:0<e.n): ∀{us cs:List Value} {xs:List (List α×β)},FamP e h us (xs.map (·.1))→rdL (eP eH r) nov (us.zip (xs.map (·.2))) cs→rdL (eP (eL e) r) h xs cs
 | [],cs,xs,hf,hr=>by
   have:xs= []:=by
    have:=hf.len;simp at this;exact List.eq_nil_of_length_eq_zero this.symm
   subst this;exact hr
 |u::us,cs,[],hf,_=>by have:=hf.len;simp at this
 |u::us,cs,x::xs,hf,hr=>by
   obtain⟨l,rest,he,⟨c,h1,h2⟩,h3⟩:=hf;simp only[List.map_cons,List.cons.injEq]at he;obtain⟨rfl,rfl⟩:=he;simp only[List.map_cons,List.zip_cons_cons]at hr;obtain⟨cu,t,rfl,⟨c1,c2,rfl,⟨rfl,_⟩,h5⟩,h6⟩:=hr;exact⟨[u]++c2,t,rfl,⟨[u],c2,rfl,⟨u,rfl,arr_rd (ρ:=nov) hen (nov_le h) h1 h2⟩,r.up (nov_le h) h5⟩,rdL_ns hen h3 h6⟩
end
section
variable {P:Program}{E:Env}{w:World}{C:Cx}{ρ:View}{hs:List Hl}{d:Option Tmp}{ty:TypeId}{pos:String}{af:Array Edge}{g:Option (Nat×Bool)}
variable {α β:Type}{e:Enc α}{r:Enc β}{v:Value}{us cs:List Value}{xs:List (List α×β)}
theorem ns_rd{ρ':View}(hen:0<e.n)(_hl:View.le ρ ρ')(hp:(NS e r v us xs).P ρ'):RdSl ρ' (eP (eL e) r) v xs:=
 have⟨_,h1,h2,h3⟩:=hp
 arr_rd (e:=eP (eL e) r) (ρ:=ρ') (by show 0<1+r.n;omega) (View.le_refl _) h1 (rdL_ns hen h2 h3)
theorem Hp.ssplit(H:Hp C w ρ (NS e r v us xs::hs)): ∃cs,Hp C w ρ (Arr v (1+r.n) cs::Fm e us (xs.map (·.1))::hs)∧rdL (eP eH r) nov (us.zip (xs.map (·.2))) cs:=by
 obtain⟨cs,h1,h2,h3⟩:=H.head;refine⟨cs,H.conv (by simp only[fps_cons,NS,Arr,Fm,List.append_assoc];exact List.Perm.refl _) fun h hh=>?_,h3⟩;rcases List.mem_cons.1 hh with rfl|hh
 ·exact h1
 rcases List.mem_cons.1 hh with rfl|hh
 ·exact h2
 exact H.all h (by simp[hh])
theorem Hp.sjoin(H:Hp C w ρ (Arr v (1+r.n) cs::Fm e us (xs.map (·.1))::hs))(hr:rdL (eP eH r) nov (us.zip (xs.map (·.2))) cs):Hp C w ρ (NS e r v us xs::hs):=
 H.conv (by simp only[fps_cons,NS,Arr,Fm,List.append_assoc];exact List.Perm.refl _) fun h hh=>by
  rcases List.mem_cons.1 hh with rfl|hh
  ·exact⟨cs,H.head,H.tail.head,hr⟩
  exact H.all h (by simp[hh])
theorem fam_us{h:View}{j:Nat}{x:List α×β}(hf:FamP e h us (xs.map (·.1)))(hx:xs[j]? =some x): ∃u c,us[j]? =some u∧(us.zip (xs.map (·.2)))[j]? =some (u,x.2)∧(Arr u e.n c).P h∧rdL e nov x.1 c:=by
 obtain⟨u,c,h1,h2,h3⟩:=hf.get (j:=j) (x:=x.1) (by rw[List.getElem?_map,hx];rfl);refine⟨u,c,h1,?_,h2,h3⟩;rw[List.getElem?_zip_eq_some];exact⟨h1,by rw[List.getElem?_map,hx];rfl⟩
theorem ns_at{i:Int}{x:List α×β}(hen:0<e.n)(hok:Ok w ρ [NS e r v us xs])(hfr:Flat r)(hx:idx xs i=some x):
 ∃b o u,IdxOk v i (1+r.n) b o∧us[i.toNat]? =some u∧(∀w',Ok w' ρ [NS e r v us xs]→ ∃rc,r.rd nov x.2 rc∧cellsAt (hv w') b o (u::rc))∧ ∃o' c',u= .slice o' x.1.length c':=by
 obtain⟨h0,hlt,hx'⟩:=idx_some hx;obtain⟨cs,h1,h2,h3⟩:=hok.get (k:=0) rfl;obtain⟨u,c,g1,g2,g3,g4⟩:=fam_us h2 hx';have hid:idx (us.zip (xs.map (·.2))) i=some (u,x.2):=by unfold idx;rw[if_pos h0];exact g2
 have one: ∀w' cs',Ok w' ρ [Arr v (eP eH r).n cs']→rdL (eP eH r) nov (us.zip (xs.map (·.2))) cs'→ ∃b o rc,IdxOk v i (1+r.n) b o∧r.rd nov x.2 rc∧cellsAt (hv w') b o (u::rc):=fun w' cs' ok hr=>by
  obtain⟨b,o,q1,⟨c1,c2,q2,⟨q3,_⟩,q4⟩,q5⟩:=arr_at (en:=eP eH r) (k:=0) (by show 0<1+r.n;omega) ok rfl (rdL.up (nov_le ρ) hr) hid;subst q3;refine⟨b,o,c2,q1,hfr _ _ _ _ q4,?_⟩;have:=q5 w' ok;rw[q2]at this;exact this
 have mk: ∀w',Ok w' ρ [NS e r v us xs]→ ∃cs',Ok w' ρ [Arr v (eP eH r).n cs']∧rdL (eP eH r) nov (us.zip (xs.map (·.2))) cs':=fun w' ok=>by
  obtain⟨cs',k1,_,k3⟩:=ok.get (k:=0) rfl;exact⟨cs',⟨ok.view,fun h hh=>by rw[List.mem_singleton.1 hh];exact k1⟩,k3⟩
 obtain⟨cs1,k1,k2⟩:=mk w hok;obtain⟨b,o,rc,p1,p2,p3⟩:=one w cs1 k1 k2;refine⟨b,o,u,p1,g1,fun w' ok=>?_,arr_len hen g3 g4⟩;obtain⟨cs2,k3,k4⟩:=mk w' ok;obtain⟨b',o',rc',p4,p5,p6⟩:=one w' cs2 k3 k4;obtain⟨a0,len,cap,rfl,_,_,rfl⟩:=p1;obtain⟨a0',len',cap',he,_,_,rfl⟩:=p4;injection he with he;injection he with he;injection he with he1 he2;subst he1 he2;exact⟨rc',p5,p6⟩
theorem ns_shape(hok:Ok w ρ [NS e r v us xs]): ∃o c,v= .slice o xs.length c:=by
 obtain⟨cs,h1,h2,h3⟩:=hok.get (k:=0) rfl;have hl:us.length=xs.length:=by simpa using h2.len
 have:=arr_len (en:=eP eH r) (by show 0<1+r.n;omega) h1 h3;rwa[List.length_zip,List.length_map,hl,Nat.min_self]at this
theorem ns_len{k:Nat}{t et:TypeId}{x:Operand}(hok:Ok w ρ hs)(hk:hs[k]? =some (NS e r v us xs))(ht:P.underlying t=some (.slice et))(hx:ev E x=some v):
 Qv P E ⟨d,.call {callee:= .builtin .len,args:= #[x],argTypes:= #[t]},ty,pos,af,g⟩ (.int .i64 xs.length) w:=by
 obtain⟨o,c,rfl⟩:=ns_shape (hok.subS (l:=[NS e r v us xs]) fun x hx=>by rw[List.mem_singleton.1 hx];exact List.mem_of_getElem? hk);exact Q_lenS ht hx
theorem map_set1{i:Nat}{x:List α×β}{y:β}(hx:xs[i]? =some x):(xs.set i (x.1,y)).map (·.1)=xs.map (·.1):=by
 rw[List.map_set];apply List.ext_getElem?;intro k;by_cases hk:i=k
 ·subst hk;rw[List.getElem?_set_self (by simpa using(List.getElem?_eq_some_iff.1 hx).1),List.getElem?_map,hx];rfl
 rw[List.getElem?_set_ne hk]
theorem zip_set{u:Value}{y:β}: ∀{us:List Value} {bs:List β} {i:Nat},us[i]? =some u→(us.zip bs).set i (u,y)=us.zip (bs.set i y)
 | [],bs,i,h=>by simp at h
 |u'::us,[],i,h=>by simp
 |u'::us,b::bs,0,h=>by simp at h;subst h;simp
 |u'::us,b::bs,i+1,h=>by simp only[List.zip_cons_cons,List.set_cons_succ];rw[zip_set (by simpa using h)]
theorem setC_head(u:Value)(c2 c:List Value)(j:Nat):setC ([u]++c2) (1+j) c= [u]++setC c2 j c:=by
 simp only[setC,List.singleton_append];rw[show 1+j=j+1 by omega,List.take_succ_cons,show j+1+c.length=(j+c.length)+1 by omega,List.drop_succ_cons];rfl
theorem E_stSru{T:TypeId}{x y:Operand}{m by_ b o j:Nat}{i:Int}{z sv:Value}{ag:Bool}{a:List α×β}{a':β}{c:List Value}(_hf:Flat r)(H:Hp C w ρ (NS e r v us xs::hs))(hx:idx xs i=some a)
 (hty:Ty P T m by_ z ag) (hi:IdxOk v i (1+r.n) b o) (hxe:ev E x=some (.pointer (some ⟨b,o+(1+j),none⟩))) (hy:ev E y=some sv) (hvc:sv.cells=c.toArray) (hl:c.length=m) (h1: ∀u∈c,u.oneCell'=true) (hj:j+m≤r.n)
 (hr: ∀rc,r.rd nov a.2 rc→r.rd nov a' (setC rc j c)):
 Eff P E ⟨d,.store T x y,ty,pos,af,g⟩ w (fun v' w'=>v'=undef∧Hp C w' ρ (NS e r v us (xs.set i.toNat (a.1,a'))::hs)):=by
 obtain⟨h0,hlt,hx'⟩:=idx_some hx;obtain⟨cs,H2,hrd⟩:=H.ssplit;obtain⟨u,c0,g1,g2,g3,g4⟩:=fam_us H2.tail.head hx';refine(E_stAu (k:=0) (j:=1+j) (c:=c) H2 rfl hty hi hxe hy hvc hl h1 (by omega)).mono fun _ w' Hw=>⟨Hw.1,?_⟩;replace Hw:=Hw.2;refine Hp.sjoin (cs:=setC cs (i.toNat*(1+r.n)+(1+j)) c) ?_ ?_
 ·rw[map_set1 hx'];exact Hw
 have hil:=(List.getElem?_eq_some_iff.1 g2).1;have hg:=hrd.get g2;have hlen:=hrd.len;have hn:(eP eH r).n=1+r.n:=rfl;rw[hn]at hg hlen;obtain⟨c1,c2,q1,⟨q2,q3⟩,q4⟩:=hg;subst q2
 have h8:i.toNat*(1+r.n)+(1+r.n)≤cs.length:=by
  rw[hlen];have:i.toNat+1≤(us.zip (xs.map (·.2))).length:=hil;have:=Nat.mul_le_mul_right (1+r.n) this;rwa[Nat.add_mul,Nat.one_mul]at this
 rw[←setC_in (n:=1+r.n) (by omega) h8,q1,setC_head];have:=rdL.set (x:=(u,a')) hrd hil (c:=[u]++setC c2 j c) ⟨[u],setC c2 j c,rfl,⟨rfl,q3⟩,hr _ q4⟩;rw[List.map_set];rw[zip_set g1]at this;exact this
theorem E_stSru1{T:TypeId}{x y:Operand}{m by_ b o j:Nat}{i:Int}{z sv:Value}{ag:Bool}{a:List α×β}{a':β}{c:List Value}{ys:List (List α×β)}(hf:Flat r)(H:Hp C w ρ (NS e r v us xs::hs))(hx:idx xs i=some a)
 (hty:Ty P T m by_ z ag) (hi:IdxOk v i (1+r.n) b o) (hxe:ev E x=some (.pointer (some ⟨b,o+(1+j),none⟩))) (hy:ev E y=some sv) (hvc:sv.cells=c.toArray) (hl:c.length=m) (h1: ∀u∈c,u.oneCell'=true) (hj:j+m≤r.n)
 (hr: ∀rc,r.rd nov a.2 rc→r.rd nov a' (setC rc j c)) (hs1:setI xs i (a.1,a')=some ys):
 Eff P E ⟨d,.store T x y,ty,pos,af,g⟩ w (fun v' w'=>v'=undef∧Hp C w' ρ (NS e r v us ys::hs)):=by
 obtain⟨_,_,rfl⟩:=setI_some hs1;exact E_stSru hf H hx hty hi hxe hy hvc hl h1 hj hr
def Tl(ρ:View)(e:Enc α)(vs:List Value)(xs:List (List α×β))(k:Nat):Prop:= ∀j u x,k≤j→vs[j]? =some u→xs[j]? =some x→RdSl ρ e u x.1
theorem Tl.step{vs:List Value}{k:Nat}{u:Value}(h:Tl ρ e vs xs k):Tl ρ e (vs.set k u) xs (k+1):=fun j u' x hj hu hx=>by
 rw[List.getElem?_set_ne (by omega)]at hu;exact h j u' x (by omega) hu hx
end
end Go.Eng
