import Derived.Test.YtnkednnnkifenaaGreatDoorMunchJoinD1
import Derived.LaidEql
import Derived.Lib.Bytealg
import Derived.RowKitTokens
import Derived.Shelf.Sort.Plain
import Derived.Stop.Asserts
import Derived.Test.YtnkednnnkifenaaGreatDoorChecked
import Derived.Test.YtnkednnnkifenaaGreatDoorProg
import Derived.WalkKit
namespace Go.Dn
open Go Go.Eng
set_option maxRecDepth 100000
inductive Tc where
 |int (k:IntKind)
 |bool
 |str
 |err
 |unit
 |nd
 |list (t:Tc)
 |pair (a b:Tc)
 deriving DecidableEq
@[reducible] def Tc.den:Tc→Type
  | .int _=>Int
  | .bool=>Bool
  | .str=>BA
  | .err=>Int
  | .unit=>Unit
  | .nd=>Nd
  | .list t=>List t.den
  | .pair a b=>a.den×b.den
def Tc.flat:Tc→Bool
 | .list _=>false
 | .nd=>false
 | .pair a b=>a.flat&&b.flat
 |_=>true
def Tc.n:Tc→Nat
 | .unit=>0
 | .nd=>9
 | .pair a b=>a.n+b.n
 |_=>1
abbrev Leaf:=(t:Tc)×t.den
def Leaf.as(l:Leaf)(t:Tc):Option t.den:=if h:l.1=t then some (h▸l.2)else none
inductive CX where
 |lf (i:Nat)
 |at(k:Nat)
 |cst (v:Value)
 |ptr (b o:Nat)
 |ep (k o:Nat)
 |pd (b o m:Nat)
 |er (c:Int)
inductive VX where
 |one (c:CX)
 |agg (l:List CX)
 |tup (l:List (CX ⊕ List CX))
 |fn (f:Nat) (l:List CX)
inductive Ow where
 |ns (e r:Tc) (g:Nat)
 |nh (e r:Tc) (g m x:Nat)
 |mp (t:Tc)
 deriving DecidableEq
def Ow.sg:Ow→Nat→Ow
 | .ns e r _,g=> .ns e r g
 |s,_=>s
def Ow.pat:Ow→Bool
 | .ns e r _=>Nat.blt 0 e.n&&(e.flat&&r.flat)
 | .nh .. =>false
 | .mp _=>true
@[reducible] def Ow.tc:Ow→Tc
  | .ns e r _=> .list (.pair (.list e) r)
  | .nh e r _ _ _=> .list (.pair (.list e) r)
  | .mp t=> .list (.pair .str t)
def Ow.gh:Ow→CX
 | .ns _ _ g=> .at g
 |_=> .cst undef
inductive Fact where
 |rs (k:Nat) (t:Tc) (i:Nat)
 |vw (k:Nat) (t:Tc) (i:Nat)
 |el (k h:Nat) (t:Tc) (m i x:Nat)
 |bx (m:Nat) (l:List CX) (k:IntKind) (x:Nat)
 |on (k:Nat)
 |hd (a h g m i x j:Nat) (e r:Tc)
 |shp (k:Nat) (t:Tc) (i:Nat)
inductive HX where
 |box (b:Nat) (cells:List CX)
 |arr (k:Nat) (t:Tc) (i:Nat)
 |ow (k:Nat) (s:Ow) (i:Nat)
structure St where
 env:List (Nat×VX)
 heap:List HX
 facts:List Fact
 na:Nat
 nb:Nat
 kn:List (Nat×Bool)
def St.get(st:St)(t:Nat):Option VX:=go st.env
where go:List (Nat×VX)→Option VX
 | []=>none
 |(j,v)::r=>bif Nat.beq j t then some v else go r
def St.op(st:St):Operand→Option VX
 | .tmp t=>st.get t
 | .const v=>some (.one (.cst v))
 | .global g=>some (.one (.cst (.pointer (some ⟨g,0,none⟩))))
 | .func f=>some (.fn f [])
def St.put(st:St)(d:Option Nat)(v:VX):St:=match d with
 |some d=>{st with env:=(d,v)::st.env}
 |none=>st
def CX.leaf(η:List Leaf):CX→Option Leaf
 | .lf i=>η[i]?
 | .cst (.int k n)=>some ⟨.int k,n⟩
 | .cst (.bool b)=>some ⟨.bool,b⟩
 | .cst (.string s)=>some ⟨.str,s⟩
 | .cst .nilIface=>some ⟨.err,(0:Int)⟩
 | .er c=>some ⟨.err,c⟩
 |_=>none
def VX.leaf(η:List Leaf):VX→Option Leaf
 | .one c=>c.leaf η
 |_=>none
def VX.cells:VX→List CX
 | .one c=>[c]
 | .agg l=>l
 | .tup _=>[]
 | .fn _ l=>l
structure Out where
 v:VX
 δ:List Leaf:=[]
 fs:List Fact:=[]
 na:Nat:=0
structure QR where
 t:Tc
 o:Option t.den
 out:t.den→Out
def tot(r:Out):QR:=⟨.unit,some (),fun _=>r⟩
def leafR(η:List Leaf)(l:Leaf):QR:=tot ⟨.one (.lf η.length),[l],[],0⟩
def partR(η:List Leaf)(t:Tc)(o:Option t.den):QR:=⟨t,o,fun x=>⟨.one (.lf η.length),[⟨t,x⟩],[],0⟩⟩
def binI(η:List Leaf)(k:IntKind)(m l:Int):BinOp→Option QR
 | .add=>some (leafR η ⟨.int k,k.wrap (m+l)⟩)
 | .sub=>some (leafR η ⟨.int k,k.wrap (m-l)⟩)
 | .mul=>some (leafR η ⟨.int k,k.wrap (m*l)⟩)
 | .lss=>some (leafR η ⟨.bool,decide (m<l)⟩)
 | .leq=>some (leafR η ⟨.bool,decide (m≤l)⟩)
 | .gtr=>some (leafR η ⟨.bool,decide (m>l)⟩)
 | .geq=>some (leafR η ⟨.bool,decide (m≥l)⟩)
 | .quo=>some ⟨.unit,nz l,fun _=>⟨.one (.lf η.length),[⟨.int k,k.wrap (m.tdiv l)⟩],[],0⟩⟩
 | .rem=>some ⟨.unit,nz l,fun _=>⟨.one (.lf η.length),[⟨.int k,m.tmod l⟩],[],0⟩⟩
 | .eql=>some (leafR η ⟨.bool,m==l⟩)
 | .neq=>some (leafR η ⟨.bool,m != l⟩)
 | .and=>some (leafR η ⟨.int k,iand k m l⟩)
 | .or=>some (leafR η ⟨.int k,ior k m l⟩)
 | .xor=>some (leafR η ⟨.int k,ixor k m l⟩)
 | .andNot=>some (leafR η ⟨.int k,iandn k m l⟩)
 |_=>none
def undIs(P:Program)(t:TypeId)(f:TypeDesc→Bool):Bool:=match P.underlying t with|some d=>f d|none=>false
def isStr(P:Program)(T:TypeId):Bool:=undIs P T fun d=>match d with| .string=>true|_=>false
def isBool(P:Program)(T:TypeId):Bool:=undIs P T fun d=>match d with| .bool=>true|_=>false
def binL(P:Program)(η:List Leaf)(op:BinOp)(t:TypeId):Leaf→Leaf→Option QR
 |⟨.int k,m⟩,⟨.int k',l⟩=>match op with
   | .shl=>some ⟨.unit,nn l,fun _=>⟨.one (.lf η.length),[⟨.int k,shlI k m l⟩],[],0⟩⟩
   | .shr=>some ⟨.unit,nn l,fun _=>⟨.one (.lf η.length),[⟨.int k,shrI k m l⟩],[],0⟩⟩
   |op=>if k=k' then binI η k m l op else none
 |⟨.str,a⟩,⟨.str,b⟩=>match op with
   | .add=>some (partR η .str (scat a b))
   |op=>if isStr P t=false then none else match op with
   | .eql=>some (leafR η ⟨.bool,a.toList==b.toList⟩)
   | .neq=>some (leafR η ⟨.bool,a.toList != b.toList⟩)
   |_=>none
 |⟨.bool,a⟩,⟨.bool,b⟩=>if isBool P t=false then none else match op with
   | .eql=>some (leafR η ⟨.bool,a==b⟩)
   | .neq=>some (leafR η ⟨.bool,a != b⟩)
   |_=>none
 |_,_=>none
def factR(k:Nat):List Fact→Option (Tc×Nat)
 | []=>none
 | .rs j t i::r=>bif Nat.beq j k then some (t,i)else factR k r
 |_::r=>factR k r
def factV(k:Nat):List Fact→Option (Tc×Nat)
 | []=>none
 | .vw j t i::r=>bif Nat.beq j k then some (t,i)else factV k r
 |_::r=>factV k r
def factE(k:Nat):List Fact→Option (Nat×Tc×Nat×Nat×Nat)
 | []=>none
 | .el j h t m i x::r=>bif Nat.beq j k then some (h,t,m,i,x)else factE k r
 |_::r=>factE k r
def intsL(η:List Leaf)(k:IntKind):List CX→Option LI
 | []=>some []
 |c::l=>match c.leaf η,intsL η k l with
   |some ⟨.int k',n⟩,some r=>if k'=k then some (n::r)else none
   |_,_=>none
def factX(m:Nat):List Fact→Option (List CX×IntKind×Nat)
 | []=>none
 | .bx j l k x::r=>bif Nat.beq j m then some (l,k,x)else factX m r
 |_::r=>factX m r
def factO(k:Nat):List Fact→Bool
 | []=>false
 | .on j::r=>Nat.beq j k||factO k r
 |_::r=>factO k r
def onF:List HX→List Fact
 | []=>[]
 | .arr k _ _::r=> .on k::onF r
 | .ow k (.ns e t _) i::r=> .on k:: .shp k (.pair (.list e) t) i::onF r
 | .ow k _ _::r=> .on k::onF r
 | .box .. ::r=>onF r
def heapO(k:Nat):List HX→Option (Ow×Nat)
 | []=>none
 | .ow j s i::r=>bif Nat.beq j k then some (s,i)else heapO k r
 |_::r=>heapO k r
def factS(k:Nat):List Fact→Option (Tc×Nat)
 | []=>none
 | .shp j t i::r=>bif Nat.beq j k then some (t,i)else factS k r
 |_::r=>factS k r
def factI(h:Nat)(t:Tc)(m i:Nat):List Fact→Option Nat
 | []=>none
 | .el k h' t' m' i' x::r=>if h'=h∧t'=t∧m'=m∧i'=i then some x else factI h t m i r
 |_::r=>factI h t m i r
def factH(k:Nat):List Fact→Option (Nat×Nat×Nat×Nat×Nat×Nat×Tc×Tc)
 | []=>none
 | .hd a h g m i x j e r::l=>bif Nat.beq a k then some (h,g,m,i,x,j,e,r)else factH k l
 |_::l=>factH k l
def heapB(b:Nat):List HX→Option (List CX)
 | []=>none
 | .box j l::r=>bif Nat.beq j b then some l else heapB b r
 |_::r=>heapB b r
def heapA(k:Nat):List HX→Option (Tc×Nat)
 | []=>none
 | .arr j t i::r=>bif Nat.beq j k then some (t,i)else heapA k r
 |_::r=>heapA k r
def sliceOf(st:St)(η:List Leaf)(v:VX):Option ((t:Tc)×List t.den):=match v with
 | .one (.at k)=>match(match factR k st.facts with|some p=>some p|none=>heapA k st.heap)with
   |some (t,i)=>(η[i]?).bind fun l=>(l.as (.list t)).map fun xs=>⟨t,xs⟩
   |none=>none
 |_=>none
@[reducible] def Tc.ndP:Tc:= .pair (.int .i64) (.pair (.pair (.int .u64) (.pair (.int .u64) (.pair (.int .u64) (.int .u64)))) (.pair (.list .nd) (.pair (.int .i64) (.pair (.int .i64) .str))))
def open0(na:Nat):(t:Tc)→t.den→List Leaf→List CX×List Leaf×List Fact×Nat
 | .unit,_,_=>([],[],[],na)
 | .pair a b,x,η=>
   let r:=open0 na a x.1 η;let s:=open0 r.2.2.2 b x.2 (η++r.2.1)
   (r.1++s.1,r.2.1++s.2.1,r.2.2.1++s.2.2.1,s.2.2.2)
 | .list t,x,η=>([.at na],[⟨.list t,x⟩],[.rs na t η.length],na+1)
 | .nd,_,_=>([],[],[],na)
 | .int k,x,η=>([.lf η.length],[⟨.int k,x⟩],[],na)
 | .bool,x,η=>([.lf η.length],[⟨.bool,x⟩],[],na)
 | .str,x,η=>([.lf η.length],[⟨.str,x⟩],[],na)
 | .err,x,η=>([.lf η.length],[⟨.err,x⟩],[],na)
def openT(na:Nat):(t:Tc)→t.den→List Leaf→List CX×List Leaf×List Fact×Nat
 | .pair a b,x,η=>
   let r:=openT na a x.1 η;let s:=openT r.2.2.2 b x.2 (η++r.2.1)
   (r.1++s.1,r.2.1++s.2.1,r.2.2.1++s.2.2.1,s.2.2.2)
 | .nd,x,η=>open0 na .ndP x.un η
 | .unit,_,_=>([],[],[],na)
 | .list t,x,η=>([.at na],[⟨.list t,x⟩],[.rs na t η.length],na+1)
 | .int k,x,η=>([.lf η.length],[⟨.int k,x⟩],[],na)
 | .bool,x,η=>([.lf η.length],[⟨.bool,x⟩],[],na)
 | .str,x,η=>([.lf η.length],[⟨.str,x⟩],[],na)
 | .err,x,η=>([.lf η.length],[⟨.err,x⟩],[],na)
def Tc.noNd:Tc→Bool
 | .nd=>false
 | .pair a b=>a.noNd&&b.noNd
 |_=>true
end Go.Dn
namespace Go.Dn
open Go Go.Eng
set_option maxRecDepth 100000
def eqV(a b:Value):Bool:=match a,b with
 | .int k n,.int k' n'=>decide (k=k')&&decide (n=n')
 | .bool a,.bool b=>a==b
 | .slice none 0 0,.slice none 0 0=>true
 | .pointer none,.pointer none=>true
 | .nilIface,.nilIface=>true
 | .nilFunc,.nilFunc=>true
 | .string a,.string b=>a.data.toList==b.data.toList
 |_,_=>false
theorem eqV_ok{a b:Value}(h:eqV a b=true):a=b:=by
 unfold eqV at h;split at h
 all_goals first
  |(simp_all;done)
  |(rename_i a b;cases a;cases b;simp_all)
def eqV2(a b:Value):Bool:=eqV a b||match a,b with
 | .tuple x,.tuple y=>x.toList.isEmpty&&y.toList.isEmpty
 | .map none,.map none=>true
 |_,_=>false
theorem eqV2_ok{a b:Value}(h:eqV2 a b=true):a=b:=by
 unfold eqV2 at h;rw[Bool.or_eq_true]at h;rcases h with h|h
 ·exact eqV_ok h
 split at h
 ·rename_i x y;simp only[Bool.and_eq_true,List.isEmpty_iff]at h;rw[Array.toList_eq_nil_iff.1 h.1,Array.toList_eq_nil_iff.1 h.2]
 ·rfl
 cases h
def CX.beq:CX→CX→Bool
 | .lf i,.lf j=>Nat.beq i j
 | .at i,.at j=>Nat.beq i j
 | .ptr i o,.ptr j o'=>Nat.beq i j&&Nat.beq o o'
 | .ep i o,.ep j o'=>Nat.beq i j&&Nat.beq o o'
 | .cst v,.cst u=>eqV2 v u
 | .er a,.er b=>decide (a=b)
 | .pd b o m,.pd b' o' m'=>Nat.beq b b'&&(Nat.beq o o'&&Nat.beq m m')
 |_,_=>false
theorem CX.beq_ok{a b:CX}(h:a.beq b=true):a=b:=by
 cases a<;>cases b<;>simp only[CX.beq,Bool.and_eq_true,decide_eq_true_eq]at h<;>first
  |contradiction
  |exact congrArg _ (Nat.eq_of_beq_eq_true h)
  |(obtain⟨h1,h2,h3⟩:=h;rw[Nat.eq_of_beq_eq_true h1,Nat.eq_of_beq_eq_true h2,Nat.eq_of_beq_eq_true h3])
  |(obtain⟨h1,h2⟩:=h;rw[Nat.eq_of_beq_eq_true h1,Nat.eq_of_beq_eq_true h2])
  |exact congrArg _ (eqV2_ok h)
  |exact congrArg _ h
def beqC:List CX→List CX→Bool
 | [],[]=>true
 |c::l,d::m=>c.beq d&&beqC l m
 |_,_=>false
theorem beqC_ok: ∀{a b:List CX},beqC a b=true→a=b
 | [],[],_=>rfl
 |c::l,d::m,h=>by
   simp only[beqC,Bool.and_eq_true]at h;rw[CX.beq_ok h.1,beqC_ok h.2]
 | [],_::_,h=>by cases h
 |_::_,[],h=>by cases h
def tyI(P:Program)(T:TypeId):Option (Nat×Nat×Value×Bool):=match P.info? T,P.underlying T with
 |some i,some d=>i.zero.map fun z=>(i.size,i.bytes,z,match d with| .struct _| .array _ _=>true|_=>false)
 |_,_=>none
def sliceE(P:Program)(T:TypeId):Option TypeId:=match P.underlying T with
 |some (.slice e)=>some e
 |_=>none
def loadV(ag:Bool)(l:List CX):Option VX:=match ag,l with
 |true,l=>some (.agg l)
 |false,[c]=>some (.one c)
 |_,_=>none
def qNil(st:St)(x:Operand):Option QR:=match st.op x with
 |some (.one (.ptr b o))=>some (tot {v:= .one (.ptr b o)})
 |some (.one (.ep k o))=>some (tot {v:= .one (.ep k o)})
 |_=>none
def qExtract(st:St)(x:Operand)(i:Nat):Option QR:=match st.op x with
 |some (.tup l)=>match l[i]? with
   |some (.inl c)=>some (tot {v:= .one c})
   |some (.inr l)=>some (tot {v:= .agg l})
   |none=>none
 |_=>none
def isIfc(P:Program)(T:TypeId):Bool:=undIs P T fun d=>match d with| .interface _=>true|_=>false
def isNilC:Operand→Bool
 | .const .nilIface=>true
 |_=>false
def qBin(P:Program)(ids:List Nat)(st:St)(η:List Leaf)(op:BinOp)(t:TypeId)(x y:Operand):Option QR:=match(st.op x).bind (·.leaf η),(st.op y).bind (·.leaf η)with
 |some ⟨.err,c⟩,_=>if isNilC y=true∧isIfc P t=true then match op with
  | .neq=>some (leafR η ⟨.bool,eOk ids c⟩)
  | .eql=>some (leafR η ⟨.bool, !(eOk ids c)⟩)
  |_=>none
   else none
 |some a,some b=>binL P η op t a b
 |_,_=>none
def qGlob(P:Program)(ids:List Nat)(η:List Leaf)(T:TypeId)(gl:Nat):Option QR:=match tyI P T with
 |some (n,_,_,ag)=>if n=1∧ag=false∧eOk ids ((gl+1:Nat):Int)=true then some (tot {v:= .one (.er ((gl+1:Nat):Int))})else none
 |none=>none
def qUn(st:St)(η:List Leaf)(op:UnOp)(x:Operand):Option QR:=match op,(st.op x).bind (·.leaf η)with
 | .not,some ⟨.bool,b⟩=>some (leafR η ⟨.bool, !b⟩)
 | .neg,some ⟨.int k,m⟩=>some (leafR η ⟨.int k,k.wrap (0-m)⟩)
 | .xor,some ⟨.int k,m⟩=>some (leafR η ⟨.int k,inv k m⟩)
 |_,_=>none
def qConv(P:Program)(st:St)(η:List Leaf)(s t:TypeId)(x:Operand):Option QR:=match P.underlying s,P.underlying t,(st.op x).bind (·.leaf η)with
 |some _,some (.int k),some ⟨.int _,m⟩=>some (leafR η ⟨.int k,k.wrap m⟩)
 |_,_,_=>none
def cstOp0(st:St)(x:Operand):Bool:=match st.op x with
 |some (.one (.cst _))=>true
 |_=>false
def qIndex(P:Program)(st:St)(η:List Leaf)(t:TypeId)(x i:Operand):Option QR:=match(st.op x).bind (·.leaf η),(st.op i).bind (·.leaf η)with
 |some ⟨.str,s⟩,some ⟨.int _,m⟩=>if isStr P t=true then(match cstOp0 st x&&cstOp0 st i,sidx s m with
   |true,some y=>some (tot {v:= .one (.cst (.int .u8 y))})
   |_,_=>some (partR η (.int .u8) (sidx s m)))else none
 |_,_=>none
def bound(st:St)(η:List Leaf)(dflt:Int):Option Operand→Option Int
 |none=>some dflt
 |some x=>match(st.op x).bind (·.leaf η)with
   |some ⟨.int _,m⟩=>some m
   |_=>none
def qSlice(P:Program)(st:St)(η:List Leaf)(t:TypeId)(x:Operand)(l h m:Option Operand):Option QR:=
 if m.isSome=true then none else
 if isStr P t=true then match(st.op x).bind (·.leaf η)with
  |some ⟨.str,s⟩=>match bound st η 0 l,bound st η (s.size:Int) h with
    |some lo,some hi=>some (partR η .str (sslc s lo hi))
    |_,_=>none
  |_=>none
 else match sliceE P t,st.op x with
  |some e,some (.one (.at k))=>match factR k st.facts,tyI P e with
    |some (tt,j),some (n,_,_,_)=>if tt.n=n then match(η[j]?).bind fun l=>l.as (.list tt)with
     |some xs=>match bound st η 0 l,bound st η (xs.length:Int) h with
       |some lo,some hi=>some ⟨.list tt,slc xs lo hi,fun ys=>⟨.one (.at st.na),[⟨.list tt,ys⟩],[.rs st.na tt η.length],1⟩⟩
       |_,_=>none
     |none=>none
      else none
    |_,_=>none
  |_,_=>none
def fieldOf(P:Program)(T:TypeId)(f:Nat):Option Field:=match P.underlying T with
 |some (.struct fs)=>fs[f]?
 |_=>none
def qFieldAddr(P:Program)(st:St)(T:TypeId)(x:Operand)(f:Nat):Option QR:=match fieldOf P T f with
 |some fd=>match tyI P fd.type with
   |some (n,_,_,_)=>if n=0 then none else match st.op x with
     |some (.one (.ptr b o))=>some (tot {v:= .one (.ptr b (o+fd.offset))})
     |some (.one (.ep k o))=>some (tot {v:= .one (.ep k (o+fd.offset))})
     |_=>none
   |none=>none
 |none=>none
def qField(P:Program)(st:St)(T:TypeId)(x:Operand)(f:Nat):Option QR:=match fieldOf P T f with
 |some fd=>match tyI P fd.type,st.op x with
   |some (n,_,_,ag),some (.agg l)=>if fd.offset+n≤l.length∧(ag=false→n=1)then(loadV ag ((l.drop fd.offset).take n)).map fun v=>tot {v:=v}else none
   |_,_=>none
 |none=>none
def cstOp(st:St)(x:Operand):Bool:=match st.op x with
 |some (.one (.cst _))=>true
 |some (.one (.er _))=>true
 |_=>false
def qLen(P:Program)(st:St)(η:List Leaf)(x:Operand)(t:TypeId):Option QR:=
 if isStr P t=true then
  match(st.op x).bind (·.leaf η)with
  |some ⟨.str,s⟩=>if cstOp st x=true then some (tot {v:= .one (.cst (.int .i64 (s.size:Int)))})else some (leafR η ⟨.int .i64,(s.size:Int)⟩)
  |_=>none
 else match sliceE P t,st.op x with
  |some _,some (.one (.cst (.slice none 0 0)))=>some (tot {v:= .one (.cst (.int .i64 0))})
  |_,_=>match sliceE P t,(st.op x).bind (sliceOf st η)with
  |some _,some ⟨t,xs⟩=>if 0<t.n then some (leafR η ⟨.int .i64,(xs.length:Int)⟩)else none
  |_,_=>none
def qMM(st:St)(η:List Leaf)(f:Int→Int→Int):List Operand→Option QR
 | [x,y]=>match(st.op x).bind (·.leaf η),(st.op y).bind (·.leaf η)with
   |some ⟨.int k,m⟩,some ⟨.int k',l⟩=>if k=k' then some (leafR η ⟨.int k,f m l⟩)else none
   |_,_=>none
 |_=>none
def qCall(P:Program)(st:St)(η:List Leaf)(c:Call):Option QR:=match c.callee with
 | .builtin .len=>match c.args.toList,c.argTypes.toList with
   | [x],[t]=>qLen P st η x t
   |_,_=>none
 | .builtin .max=>qMM st η imax c.args.toList
 | .builtin .min=>qMM st η imin c.args.toList
 |_=>none
def qIdx(P:Program)(st:St)(η:List Leaf)(t:TypeId)(x i:Operand):Option QR:=match sliceE P t,st.op x,(st.op i).bind (·.leaf η)with
 |some e,some (.one (.at k)),some ⟨.int kk,m⟩=>match tyI P e with
   |some (n,_,_,_)=>match factR k st.facts with
     |some (t,j)=>if t.n=n then match(η[j]?).bind fun l=>l.as (.list t)with
      |some xs=>some ⟨t,idx xs m,fun x=>⟨.one (.ep st.na 0),[⟨t,x⟩],[.vw st.na t η.length],1⟩⟩
      |none=>none
       else none
     |none=>match heapA k st.heap with
       |some (t,j)=>if t.n=n∧0<t.n then match(η[j]?).bind fun l=>l.as (.list t)with
        |some xs=>some ⟨t,idx xs m,fun x=>⟨.one (.ep st.na 0),[⟨t,x⟩,⟨.int kk,m⟩],[.el st.na k t (η.length+1) j η.length],1⟩⟩
        |none=>none
         else none
       |none=>none
   |none=>none
 |_,_,_=>none
def arrayE(P:Program)(T:TypeId):Option (Nat×TypeId):=match P.underlying T with
 |some (.array n e)=>some (n,e)
 |_=>none
def intK(P:Program)(T:TypeId):Option IntKind:=match P.underlying T with
 |some (.int k)=>some k
 |_=>none
def constI:Option VX→Option Int
 |some (.one (.cst (.int _ c)))=>some c
 |_=>none
def qIdxB(P:Program)(st:St)(η:List Leaf)(t:TypeId)(x i:Operand):Option QR:=match arrayE P t,st.op x,(st.op i).bind (·.leaf η)with
 |some (N,e),some (.one (.ptr b o)),some ⟨.int kk,m⟩=>match tyI P e,constI (st.op i)with
   |some (n,_,_,_),some c=>if 0≤c∧c<(N:Int)then some (tot {v:= .one (.ptr b (o+c.toNat*n))})else none
   |some (n,_,_,_),none=>match intK P e,heapB b st.heap with
     |some k,some cs=>if n=1∧((cs.drop o).take N).length=N then match intsL η k ((cs.drop o).take N)with
      |some xs=>some ⟨.int k,idx xs m,fun y=>⟨.one (.pd b o (η.length+1)),[⟨.int k,y⟩,⟨.int kk,m⟩],[.bx (η.length+1) ((cs.drop o).take N) k η.length],0⟩⟩
      |none=>none
       else none
     |_,_=>none
   |_,_=>none
 |_,_,_=>none
def qIndexA(P:Program)(st:St)(η:List Leaf)(t:TypeId)(x i:Operand):Option QR:=match arrayE P t,st.op x,(st.op i).bind (·.leaf η)with
 |some (N,e),some (.agg l),some ⟨.int _,m⟩=>match intK P e,tyI P e with
   |some k,some (n,_,_,ag)=>if n=1∧ag=false∧l.length=N then match intsL η k l with
    |some xs=>match constI (st.op i)with
      |some c=>if 0≤c∧c.toNat<xs.length then(xs[c.toNat]?).map fun y=>leafR η ⟨.int k,y⟩else none
      |none=>some (partR η (.int k) (idx xs m))
    |none=>none
     else none
   |_,_=>none
 |_,_,_=>none
def qBinA(P:Program)(st:St)(η:List Leaf)(op:BinOp)(t:TypeId)(x y:Operand):Option QR:=match arrayE P t,st.op x,st.op y with
 |some (N,e),some (.agg l),some (.agg l')=>match intK P e,tyI P e with
   |some k,some (n,_,_,ag)=>if n=1∧ag=false∧l.length=N∧l'.length=N∧P.eqGuardType P.depth t=false then match intsL η k l,intsL η k l' with
    |some xs,some ys=>match op with
      | .eql=>some (leafR η ⟨.bool,xs==ys⟩)
      | .neq=>some (leafR η ⟨.bool,xs != ys⟩)
      |_=>none
    |_,_=>none
     else none
   |_,_=>none
 |_,_,_=>none
def qLoadX(P:Program)(st:St)(η:List Leaf)(T:TypeId)(x:Operand):Option QR:=match st.op x,tyI P T with
 |some (.one (.pd b o m)),some (n,_,_,ag)=>match factX m st.facts,heapB b st.heap,η[m]? with
   |some (l,k,x),some cs,some ⟨.int _,mm⟩=>if n=1∧ag=false∧((cs.drop o).take l.length).length=l.length then
    bif beqC ((cs.drop o).take l.length) l then some (tot {v:= .one (.lf x)})else match intsL η k ((cs.drop o).take l.length)with
     |some xs=>some (partR η (.int k) (idx xs mm))
     |none=>none
     else none
   |_,_,_=>none
 |_,_=>none
def atLeaf(st:St)(k:Nat):Option (Tc×Nat):=match factV k st.facts with
 |some p=>some p
 |none=>match factE k st.facts with
   |some (h,t,_,i,x)=>match heapA h st.heap with
     |some (t',i')=>if t'=t∧i'=i∧0<t.n then some (t,x)else none
     |none=>none
   |none=>none
def qLoad(P:Program)(st:St)(η:List Leaf)(T:TypeId)(x:Operand):Option QR:=match st.op x,tyI P T with
 |some (.one (.ep k o)),some (n,_,_,ag)=>match atLeaf st k with
   |some (t,i)=>match(η[i]?).bind fun l=>l.as t with
     |some x=>
       if o+n≤(openT st.na t x η).1.length then
        (loadV ag (((openT st.na t x η).1.drop o).take n)).map fun v=>tot ⟨v,(openT st.na t x η).2.1,(openT st.na t x η).2.2.1,(openT st.na t x η).2.2.2-st.na⟩
       else none
     |none=>none
   |none=>none
 |some (.one (.ptr b o)),some (n,_,_,ag)=>match heapB b st.heap with
   |some l=>if o+n≤l.length then(loadV ag ((l.drop o).take n)).map fun v=>tot {v:=v}else none
   |none=>none
 |_,_=>none
def isGlob:Operand→Option Nat
 | .global g=>some g
 |_=>none
def qPick(st:St)(η:List Leaf)(c a b:Operand):Option QR:=match st.op c with
 |some (.one (.lf i))=>match st.kn.find? fun p=>Nat.beq p.1 i with
   |some (_,true)=>(st.op a).map fun v=>tot {v:=v}
   |some (_,false)=>(st.op b).map fun v=>tot {v:=v}
   |none=>none
 |some (.one (.cst (.bool true)))=>(st.op a).map fun v=>tot {v:=v}
 |some (.one (.cst (.bool false)))=>(st.op b).map fun v=>tot {v:=v}
 |_=>none
def konstO(n:Nat)(r:Out):Out:=match r with
 |⟨.one (.lf i),[⟨.bool,b⟩],[],0⟩=>if i=n then{v:= .one (.cst (.bool b))}else r
 |r=>r
def konst(c:Bool)(n:Nat)(q:QR):QR:=match c with
 |true=>⟨q.t,q.o,fun z=>konstO n (q.out z)⟩
 |false=>q
def noTup:VX→Bool
 | .tup _=>false
 | .fn _ _=>false
 |_=>true
def oneC(st:St)(η:List Leaf):CX→Bool
 | .lf i=>match η[i]? with
   |some ⟨.int _,_⟩|some ⟨.bool,_⟩|some ⟨.str,_⟩|some ⟨.err,_⟩=>true
   |_=>false
 | .at k=>(factR k st.facts).isSome||((heapA k st.heap).isSome||(factO k st.facts||(heapO k st.heap).isSome))
 | .cst v=>match v with
   | .int .. | .bool _| .string _| .slice .. | .pointer _| .nilIface| .nilFunc=>true
   | .map none=>true
   |_=>false
 | .ptr .. =>true
 | .ep .. =>true
 | .pd .. =>true
 | .er _=>true
def placesOf(P:Program)(fs:Array Field):Option (List (Nat×Nat)):=fs.toList.mapM fun f=>(P.info? f.type).map fun i=>(f.offset,i.size)
def layP(st:St)(η:List Leaf)(pl:List (Nat×Nat))(N:Nat):List CX→List (Nat×Operand)→Option (List CX)
 |l,[]=>some l
 |l,(i,x)::r=>match st.op x,pl[i]? with
   |some v,some (off,n)=>if(noTup v=true∧v.cells.all (oneC st η)=true)∧v.cells.length=n∧off+n≤N then layP st η pl N (l.take off++v.cells++l.drop (off+v.cells.length)) r else none
   |_,_=>none
def qBuild(P:Program)(st:St)(η:List Leaf)(T:TypeId)(parts:Array (Nat×Operand)):Option (List CX):=match P.underlying T with
 |some (.struct fs)=>match placesOf P fs,tyI P T with
   |some pl,some (_,_,z,_)=>layP st η pl z.cells.toList.length (z.cells.toList.map CX.cst) parts.toList
   |_,_=>none
 |some (.array _ e)=>match parts.toList,tyI P T,tyI P e with
   | [],some (_,_,z,true),some _=>some (z.cells.toList.map CX.cst)
   |_,_,_=>none
 |_=>none
def ones(st:St):List Operand→Option (List CX)
 | []=>some []
 |x::l=>match st.op x,ones st l with
   |some (.one c),some r=>some (c::r)
   |_,_=>none
def quiet0(P:Program)(ids:List Nat)(st:St)(η:List Leaf):Op→Option QR
 | .move x=>(st.op x).map fun v=>tot {v:=v}
 | .assign x=>(st.op x).map fun v=>tot {v:=v}
 | .nilCheck x=>qNil st x
 | .extract x i=>qExtract st x i
 | .binOp op t x y _=>match qBin P ids st η op t x y with
   |some q=>some (konst (cstOp st x&&cstOp st y) η.length q)
   |none=>qBinA P st η op t x y
 | .unOp op _ x=>(qUn st η op x).map (konst (cstOp st x) η.length)
 | .convert s t x=>qConv P st η s t x
 | .call c=>qCall P st η c
 | .indexAddr t x i=>match qIdx P st η t x i with
   |some q=>some q
   |none=>qIdxB P st η t x i
 | .index t x i=>match qIndex P st η t x i with
   |some q=>some q
   |none=>qIndexA P st η t x i
 | .slice t x l h m=>qSlice P st η t x l h m
 | .fieldAddr t x f=>qFieldAddr P st t x f
 | .field t x f=>qField P st t x f
 | .load T x=>match isGlob x with
   |some g=>qGlob P ids η T g
   |none=>match qLoad P st η T x with
     |some q=>some q
     |none=>qLoadX P st η T x
 | .pick c a b=>qPick st η c a b
 | .build T parts=>(qBuild P st η T parts).map fun l=>tot {v:= .agg l}
 | .makeFunc (.func f) fs cs=>if fs.toList.isEmpty=true then(ones st cs.toList).map fun l=>tot {v:= .fn f l}else none
 |_=>none
def closeL(fs:List Fact)(η:List Leaf)(t:Tc)(cs:List CX):Option (List t.den):=match cs with
 | [.at k]=>match factR k fs with
   |some (t',i)=>if t'=t then(η[i]?).bind fun l=>l.as (.list t)else none
   |none=>none
 | [.cst (.slice none 0 0)]=>some []
 |_=>none
def closeS(η:List Leaf)(t:Tc)(cs:List CX):Option t.den:=match cs with
 | [c]=>(c.leaf η).bind fun l=>l.as t
 |_=>none
def close0(fs:List Fact)(η:List Leaf):(t:Tc)→List CX→Option t.den
 | .unit,cs=>if cs.isEmpty=true then some ()else none
 | .pair a b,cs=>match close0 fs η a (cs.take a.n),close0 fs η b (cs.drop a.n)with
   |some x,some y=>some (x,y)
   |_,_=>none
 | .list t,cs=>closeL fs η t cs
 | .int k,cs=>closeS η (.int k) cs
 | .bool,cs=>closeS η .bool cs
 | .str,cs=>closeS η .str cs
 | .err,cs=>closeS η .err cs
 | .nd,_=>none
def closeT(fs:List Fact)(η:List Leaf):(t:Tc)→List CX→Option t.den
 | .pair a b,cs=>match closeT fs η a (cs.take a.n),closeT fs η b (cs.drop a.n)with
   |some x,some y=>some (x,y)
   |_,_=>none
 | .nd,cs=>(close0 fs η .ndP cs).map Nd.of
 | .unit,cs=>if cs.isEmpty=true then some ()else none
 | .list t,cs=>closeL fs η t cs
 | .int k,cs=>closeS η (.int k) cs
 | .bool,cs=>closeS η .bool cs
 | .str,cs=>closeS η .str cs
 | .err,cs=>closeS η .err cs
def zeroT(t:Tc)(za:Array Value):Option t.den:=closeT [] [] t (za.toList.map CX.cst)
def qLenO(P:Program)(st:St)(η:List Leaf)(x:Operand)(t:TypeId):Option QR:=match sliceE P t,st.op x with
 |some _,some (.one (.at k))=>match heapO k st.heap with
   |some (.ns e r _,i)=>((η[i]?).bind fun l=>l.as (.list (.pair (.list e) r))).map fun xs=>leafR η ⟨.int .i64,(xs.length:Int)⟩
   |none=>match factS k st.facts with
     |some (t,j)=>((η[j]?).bind fun l=>l.as (.list t)).map fun xs=>leafR η ⟨.int .i64,(xs.length:Int)⟩
     |none=>none
   |_=>none
 |_,_=>none
def qIdxO(P:Program)(st:St)(η:List Leaf)(t:TypeId)(x i:Operand):Option QR:=match sliceE P t,st.op x,(st.op i).bind (·.leaf η)with
 |some e',some (.one (.at k)),some ⟨.int kk,m⟩=>match tyI P e',heapO k st.heap with
   |some (n,_,_,_),some (.ns e r _,j)=>if 1+r.n=n then((η[j]?).bind fun l=>l.as (.list (.pair (.list e) r))).map fun xs=>
    match st.op i with
    |some (.one (.lf q))=>⟨.pair (.list e) r,idx xs m,fun y=>⟨.one (.ep st.na 0),[⟨.pair (.list e) r,y⟩],[.el st.na k (.pair (.list e) r) q j η.length],1⟩⟩
    |_=>⟨.pair (.list e) r,idx xs m,fun y=>⟨.one (.ep st.na 0),[⟨.pair (.list e) r,y⟩,⟨.int kk,m⟩],[.el st.na k (.pair (.list e) r) (η.length+1) j η.length],1⟩⟩
     else none
   |some (n,_,_,_),none=>match factS k st.facts with
     |some (t,j)=>if t.n=n then((η[j]?).bind fun l=>l.as (.list t)).map fun xs=>
       match st.op i with
       |some (.one (.lf q))=>match factI k t q j st.facts with
         |some x=>tot ⟨.one (.ep st.na 0),[],[.el st.na k t q j x],1⟩
         |none=>⟨t,idx xs m,fun y=>⟨.one (.ep st.na 0),[⟨t,y⟩],[.el st.na k t q j η.length],1⟩⟩
       |_=>⟨t,idx xs m,fun y=>⟨.one (.ep st.na 0),[⟨t,y⟩,⟨.int kk,m⟩],[.el st.na k t (η.length+1) j η.length],1⟩⟩
       else none
     |none=>none
   |some (n,_,_,_),some (.nh e r _ m' x',j)=>match st.op i with
     |some (.one (.lf q))=>if q=m'∧1+r.n=n then some (tot ⟨.one (.ep st.na 0),[],[.el st.na k (.pair (.list e) r) m' j x'],1⟩)else none
     |_=>none
   |_,_=>none
 |_,_,_=>none
def qLoadO(P:Program)(st:St)(η:List Leaf)(T:TypeId)(x:Operand):Option QR:=match st.op x,tyI P T with
 |some (.one (.ep k o)),some (n,_,_,ag)=>match factE k st.facts with
   |some (h,t,m,i,x)=>match heapO h st.heap with
     |some (.ns e r g,i')=>if t= .pair (.list e) r∧i'=i then match(η[x]?).bind fun l=>l.as (.pair (.list e) r)with
      |some y=>match o with
        |0=>if n=1∧ag=false then some (tot ⟨.one (.at st.na),[⟨.list e,y.1⟩],[.hd st.na h g m i x η.length e r,.shp st.na e η.length],1⟩)else none
        |o+1=>if o+n≤(openT st.na r y.2 η).1.length then
            (loadV ag (((openT st.na r y.2 η).1.drop o).take n)).map fun v=>tot ⟨v,(openT st.na r y.2 η).2.1,(openT st.na r y.2 η).2.2.1,(openT st.na r y.2 η).2.2.2-st.na⟩
          else none
      |none=>none
       else none
     |_=>none
   |none=>none
 |_,_=>none
def qLook(P:Program)(st:St)(η:List Leaf)(T:TypeId)(x y:Operand):Option QR:=match P.underlying T,st.op x,(st.op y).bind (·.leaf η)with
 |some (.map kt vt),some (.one (.at k)),some ⟨.str,s⟩=>if isStr P kt=true then match heapO k st.heap,tyI P vt with
  |some (.mp t,i),some (_,_,.agg za,true)=>match(η[i]?).bind fun l=>l.as (.list (.pair .str t)),zeroT t za with
    |some m,some z0=>some ⟨t,some ((mget m s).getD z0),fun v=>⟨.tup [.inr (openT st.na t v η).1,.inl (.lf (η.length+(openT st.na t v η).2.1.length))],(openT st.na t v η).2.1++ [⟨.bool,(mget m s).isSome⟩],(openT st.na t v η).2.2.1,(openT st.na t v η).2.2.2-st.na⟩⟩
    |_,_=>none
  |_,_=>none
   else none
 |_,_,_=>none
def quietO(P:Program)(st:St)(η:List Leaf):Op→Option QR
 | .call c=>match c.callee,c.args.toList,c.argTypes.toList with
   | .builtin .len,[x],[t]=>qLenO P st η x t
   |_,_,_=>none
 | .indexAddr t x i=>qIdxO P st η t x i
 | .load T x=>qLoadO P st η T x
 | .lookup T x y true=>qLook P st η T x y
 |_=>none
def quiet(P:Program)(ids:List Nat)(st:St)(η:List Leaf)(op:Op):Option QR:=match quiet0 P ids st η op with
 |some q=>some q
 |none=>quietO P st η op
end Go.Dn
namespace Go.Dn
open Go Go.Eng
set_option maxRecDepth 100000
structure Amb where
 T:TypeId
 ids:List Nat
 ge:Nat→Value
variable (X:Amb)
def encU:Enc Unit where
 n:=0
 rd _ _ cs:=cs= []
 len h:=by subst h;rfl
 one h:=by subst h;simp
 up _ h:=h
@[reducible] def Tc.enc:(t:Tc)→Enc t.den
  | .int k=>eI k
  | .bool=>eB
  | .str=>eS
  | .err=>eE X.ids X.ge
  | .unit=>encU
  | .nd=>eN
  | .list t=>eL t.enc
  | .pair a b=>eP a.enc b.enc
theorem enc_n: ∀t:Tc,(t.enc X).n=t.n
 | .int _=>rfl
 | .bool=>rfl
 | .str=>rfl
 | .err=>rfl
 | .unit=>rfl
 | .nd=>rfl
 | .list _=>rfl
 | .pair a b=>by
   show(a.enc X).n+(b.enc X).n=a.n+b.n;rw[enc_n a,enc_n b]
def lval:Leaf→Value
 |⟨.int k,x⟩=> .int k x
 |⟨.bool,b⟩=> .bool b
 |⟨.str,s⟩=> .string s
 |⟨.err,c⟩=>errV X.ids X.ge c
 |_=>undef
variable (η:List Leaf)(ι:List Value)(β:List Nat)
def CX.R:CX→Value→Prop
 | .lf i,v=> ∃l,η[i]? =some l∧v=lval X l
 | .at k,v=>ι[k]? =some v
 | .cst c,v=>v=c
 | .ptr b o,v=> ∃blk,β[b]? =some blk∧v= .pointer (some ⟨blk,o,none⟩)
 | .ep k o,v=> ∃b a,ι[k]? =some (.pointer (some ⟨b,a,none⟩))∧v= .pointer (some ⟨b,a+o,none⟩)
 | .pd b o m,v=> ∃blk k i,β[b]? =some blk∧η[m]? =some ⟨.int k,i⟩∧v= .pointer (some ⟨blk,o+i.toNat*1,none⟩)
 | .er c,v=>v=errV X.ids X.ge c
def cellsR:List CX→List Value→Prop
 | [],[]=>True
 |c::l,v::vs=>c.R X η ι β v∧cellsR l vs
 |_,_=>False
def tupR:List (CX ⊕ List CX)→List Value→Prop
 | [],[]=>True
 | .inl c::l,v::vs=>c.R X η ι β v∧tupR l vs
 | .inr c::l,v::vs=>(∃us,cellsR X η ι β c us∧v= .agg us.toArray)∧tupR l vs
 |_,_=>False
def VX.R:VX→Value→Prop
 | .one c,v=>c.R X η ι β v
 | .agg l,v=> ∃us,cellsR X η ι β l us∧v= .agg us.toArray
 | .tup l,v=> ∃us,tupR X η ι β l us∧v= .tuple us.toArray
 | .fn f l,v=> ∃us,cellsR X η ι β l us∧v= .func (.func f) #[] us.toArray
def ShOk(v:Value)(n:Nat):Prop:= ∃o c,v= .slice o n c∧(n=0∨ ∃b a,o=some ⟨b,a,none⟩)
def Fact.R(ρ:View):Fact→Prop
 | .rs k t i=> ∃v xs,ι[k]? =some v∧η[i]? =some ⟨.list t,xs⟩∧RdSl ρ (t.enc X) v xs
 | .vw k t i=> ∃b a x cs,ι[k]? =some (.pointer (some ⟨b,a,none⟩))∧η[i]? =some ⟨t,x⟩∧(t.enc X).rd ρ x cs∧cellsAt ρ b a cs
 | .el k h t m i x=> ∃v b o xs y kk mm,ι[k]? =some (.pointer (some ⟨b,o,none⟩))∧ι[h]? =some v∧η[m]? =some ⟨.int kk,mm⟩∧IdxOk v mm t.n b o∧η[i]? =some ⟨.list t,xs⟩∧η[x]? =some ⟨t,y⟩∧idx xs mm=some y
 | .on k=> ∃v,ι[k]? =some v∧v.oneCell'=true
 | .shp k t i=> ∃v xs,ι[k]? =some v∧η[i]? =some ⟨.list t,xs⟩∧ShOk v xs.length
 | .bx m l k x=> ∃kk i xs y,η[m]? =some ⟨.int kk,i⟩∧intsL η k l=some xs∧idx xs i=some y∧η[x]? =some ⟨.int k,y⟩
 | .hd a h g m i x j e r=> ∃(us:List Value) (u:Value) (kk:IntKind) (mm:Int) (xs:List (Tc.pair (.list e) r).den) (y:(Tc.pair (.list e) r).den),ι[g]? =some (.agg us.toArray)∧ι[a]? =some u∧η[m]? =some ⟨.int kk,mm⟩∧us[mm.toNat]? =some u∧η[i]? =some ⟨.list (.pair (.list e) r),xs⟩∧η[x]? =some ⟨.pair (.list e) r,y⟩∧idx xs mm=some y∧η[j]? =some ⟨.list e,y.1⟩
def Ow.R(ρ:View):Ow→Value→Nat→Hl→Prop
 | .ns e r g,v,i,h=> ∃(us:List Value) (xs:List (Tc.pair (.list e) r).den),ι[g]? =some (.agg us.toArray)∧η[i]? =some ⟨.list (.pair (.list e) r),xs⟩∧(0<e.n∧e.flat=true∧r.flat=true)∧h=NS (e.enc X) (r.enc X) v us xs
 | .nh e r g m x,v,i,h=> ∃(us:List Value) (xs:List (Tc.pair (.list e) r).den) (kk:IntKind) (mm:Int) (y:(Tc.pair (.list e) r).den),ι[g]? =some (.agg us.toArray)∧η[i]? =some ⟨.list (.pair (.list e) r),xs⟩∧η[m]? =some ⟨.int kk,mm⟩∧η[x]? =some ⟨.pair (.list e) r,y⟩∧idx xs mm=some y∧(0<e.n∧e.flat=true∧r.flat=true)∧h=NSH (e.enc X) (r.enc X) v us xs mm.toNat
 | .mp t,v,i,h=> ∃(r:Nat) (c:List (BA×Value)) (m:List (BA×t.den)),v= .map (some r)∧η[i]? =some ⟨.list (.pair .str t),m⟩∧MR (t.enc X) ρ c m∧h=Mp kS (fun v:Value=>v) r c
def HX.R(ρ:View):HX→Hl→Prop
 | .box b l,h=> ∃blk vs,β[b]? =some blk∧cellsR X η ι β l vs∧h=Box blk vs
 | .arr k t i,h=> ∃v c xs,ι[k]? =some v∧η[i]? =some ⟨.list t,xs⟩∧rdL (t.enc X) ρ xs c∧h=Arr v t.n c
 | .ow k s i,h=> ∃v,ι[k]? =some v∧v.oneCell'=true∧s.R X η ι ρ v i h
def heapR(ρ:View):List HX→List Hl→Prop
 | [],[]=>True
 |x::l,h::hs=>x.R X η ι β ρ h∧heapR ρ l hs
 |_,_=>False
def envR:List (Nat×VX)→Env→Prop
 | [],[]=>True
 |(j,x)::l,(k,v)::E=>j=k∧x.R X η ι β v∧envR l E
 |_,_=>False
structure Rel(st:St)(ρ:View)(E:Env)(hl:List Hl):Prop where
 env:envR X η ι β st.env E
 heap:heapR X η ι β ρ st.heap hl
 facts: ∀f∈st.facts,f.R X η ι ρ
 na:ι.length=st.na
 nb:β.length=st.nb
 kn: ∀p∈st.kn,η[p.1]? =some ⟨.bool,p.2⟩
variable {X η ι β}
theorem get_app{α:Type}{l:List α}{i:Nat}{x:α}(m:List α)(h:l[i]? =some x):(l++m)[i]? =some x:=by
 rw[List.getElem?_append_left (List.getElem?_eq_some_iff.1 h).1];exact h
theorem CX.R.up(δ:List Leaf)(κ:List Value)(γ:List Nat){c:CX}{v:Value}(h:c.R X η ι β v):c.R X (η++δ) (ι++κ) (β++γ) v:=by
 cases c with
 |lf i=>obtain⟨l,h1,h2⟩:=h;exact⟨l,get_app _ h1,h2⟩
 | «at» k=>exact get_app _ h
 |cst c=>exact h
 |ptr b o=>obtain⟨l,h1,h2⟩:=h;exact⟨l,get_app _ h1,h2⟩
 |ep k o=>obtain⟨b,a,h1,h2⟩:=h;exact⟨b,a,get_app _ h1,h2⟩
 |pd b o m=>obtain⟨l,k,i,h1,h2,h3⟩:=h;exact⟨l,k,i,get_app _ h1,get_app _ h2,h3⟩
 |er c=>exact h
theorem cellsR.up(δ:List Leaf)(κ:List Value)(γ:List Nat): ∀{l:List CX} {vs:List Value},cellsR X η ι β l vs→cellsR X (η++δ) (ι++κ) (β++γ) l vs
 | [],[],_=>trivial
 |_::_,_::_,h=>⟨h.1.up δ κ γ,cellsR.up δ κ γ h.2⟩
 | [],_::_,h=>h.elim
 |_::_,[],h=>h.elim
theorem tupR.up(δ:List Leaf)(κ:List Value)(γ:List Nat): ∀{l:List (CX ⊕ List CX)} {vs:List Value},tupR X η ι β l vs→tupR X (η++δ) (ι++κ) (β++γ) l vs
 | [],[],_=>trivial
 | .inl _::_,_::_,h=>⟨h.1.up δ κ γ,tupR.up δ κ γ h.2⟩
 | .inr _::_,_::_,h=>⟨by obtain⟨us,h1,h2⟩:=h.1;exact⟨us,h1.up δ κ γ,h2⟩,tupR.up δ κ γ h.2⟩
 | [],_::_,h=>h.elim
 | .inl _::_,[],h=>h.elim
 | .inr _::_,[],h=>h.elim
theorem VX.R.up(δ:List Leaf)(κ:List Value)(γ:List Nat){x:VX}{v:Value}(h:x.R X η ι β v):x.R X (η++δ) (ι++κ) (β++γ) v:=by
 cases x with
 |one c=>exact CX.R.up δ κ γ h
 |agg l=>obtain⟨us,h1,h2⟩:=h;exact⟨us,h1.up δ κ γ,h2⟩
 |tup l=>obtain⟨us,h1,h2⟩:=h;exact⟨us,h1.up δ κ γ,h2⟩
 |fn f l=>obtain⟨us,h1,h2⟩:=h;exact⟨us,h1.up δ κ γ,h2⟩
theorem CX.leaf_up(δ:List Leaf){c:CX}{l:Leaf}(h:c.leaf η=some l):c.leaf (η++δ)=some l:=by
 unfold CX.leaf at h ⊢;split at h
 ·exact get_app _ h
 all_goals first
  |exact h
  |cases h
theorem intsL_up(δ:List Leaf){k:IntKind}: ∀{l:List CX} {xs:LI},intsL η k l=some xs→intsL (η++δ) k l=some xs
 | [],_,h=>h
 |c::l,xs,h=>by
   simp only[intsL]at h ⊢;split at h
   ·rename_i k' n r h1 h2;rw[CX.leaf_up δ h1,intsL_up δ h2];exact h
   cases h
theorem Fact.R.up(δ:List Leaf)(κ:List Value){ρ ρ':View}(hl:View.le ρ ρ'){f:Fact}(h:f.R X η ι ρ):f.R X (η++δ) (ι++κ) ρ':=by
 cases f with
 |rs k t i=>obtain⟨v,xs,h1,h2,h3⟩:=h;exact⟨v,xs,get_app _ h1,get_app _ h2,h3.up hl⟩
 |vw k t i=>obtain⟨b,a,x,cs,h1,h2,h3,h4⟩:=h;exact⟨b,a,x,cs,get_app _ h1,get_app _ h2,(t.enc X).up hl h3,h4.up hl⟩
 |on k=>obtain⟨v,h1,h2⟩:=h;exact⟨v,get_app _ h1,h2⟩
 |shp k t i=>obtain⟨v,xs,h1,h2,h3⟩:=h;exact⟨v,xs,get_app _ h1,get_app _ h2,h3⟩
 |bx m l k x=>obtain⟨kk,i,xs,y,h1,h2,h3,h4⟩:=h;exact⟨kk,i,xs,y,get_app _ h1,intsL_up δ h2,h3,get_app _ h4⟩
 |hd a h0 g m i x j e r=>obtain⟨us,u,kk,mm,xs,y,h1,h2,h3,h4,h5,h6,h7,h8⟩:=h;exact⟨us,u,kk,mm,xs,y,get_app _ h1,get_app _ h2,get_app _ h3,h4,get_app _ h5,get_app _ h6,h7,get_app _ h8⟩
 |el k h t m i x=>obtain⟨v,b,o,xs,y,kk,mm,h1,h2,h3,h4,h5,h6,h7⟩:=h;exact⟨v,b,o,xs,y,kk,mm,get_app _ h1,get_app _ h2,get_app _ h3,h4,get_app _ h5,get_app _ h6,h7⟩
theorem Ow.R.up(δ:List Leaf)(κ:List Value){ρ ρ':View}(hl:View.le ρ ρ'){s:Ow}{v:Value}{i:Nat}{h:Hl}(hx:s.R X η ι ρ v i h):s.R X (η++δ) (ι++κ) ρ' v i h:=by
 cases s with
 |ns e r g=>obtain⟨us,xs,h1,h2,h3⟩:=hx;exact⟨us,xs,get_app _ h1,get_app _ h2,h3⟩
 |nh e r g m x=>obtain⟨us,xs,kk,mm,y,h1,h2,h3,h4,h5⟩:=hx;exact⟨us,xs,kk,mm,y,get_app _ h1,get_app _ h2,get_app _ h3,get_app _ h4,h5⟩
 |mp t=>obtain⟨r,c,m,h1,h2,h3,h4⟩:=hx;exact⟨r,c,m,h1,get_app _ h2,h3.up hl,h4⟩
theorem HX.R.up(δ:List Leaf)(κ:List Value)(γ:List Nat){ρ ρ':View}(hl:View.le ρ ρ'){x:HX}{h:Hl}(hx:x.R X η ι β ρ h):x.R X (η++δ) (ι++κ) (β++γ) ρ' h:=by
 cases x with
 |box b l=>obtain⟨blk,vs,h1,h2,h3⟩:=hx;exact⟨blk,vs,get_app _ h1,h2.up δ κ γ,h3⟩
 |arr k t i=>obtain⟨v,c,xs,h1,h2,h3,h4⟩:=hx;exact⟨v,c,xs,get_app _ h1,get_app _ h2,h3.up hl,h4⟩
 |ow k s i=>obtain⟨v,h1,h2,h3⟩:=hx;exact⟨v,get_app _ h1,h2,h3.up δ κ hl⟩
theorem heapR.up(δ:List Leaf)(κ:List Value)(γ:List Nat){ρ ρ':View}(hl:View.le ρ ρ'): ∀{l:List HX} {hs:List Hl},heapR X η ι β ρ l hs→heapR X (η++δ) (ι++κ) (β++γ) ρ' l hs
 | [],[],_=>trivial
 |_::_,_::_,h=>⟨h.1.up δ κ γ hl,heapR.up δ κ γ hl h.2⟩
 | [],_::_,h=>h.elim
 |_::_,[],h=>h.elim
theorem envR.up(δ:List Leaf)(κ:List Value)(γ:List Nat): ∀{l:List (Nat×VX)} {E:Env},envR X η ι β l E→envR X (η++δ) (ι++κ) (β++γ) l E
 | [],[],_=>trivial
 |_::_,_::_,h=>⟨h.1,h.2.1.up δ κ γ,envR.up δ κ γ h.2.2⟩
 | [],_::_,h=>h.elim
 |_::_,[],h=>h.elim
theorem envR.get{t:Nat}: ∀{l:List (Nat×VX)} {E:Env} {x:VX},envR X η ι β l E→St.get.go t l=some x→ ∃v,Eng.look E t=some v∧x.R X η ι β v
 | [],[],x,_,h=>by cases h
 |(j,y)::l,(k,v)::E,x,hr,h=>by
   obtain⟨rfl,h1,h2⟩:=hr;simp only[St.get.go]at h;simp only[Eng.look]
   cases hb:Nat.beq j t with
   |true=>rw[hb]at h;obtain rfl:=oi h;exact⟨v,rfl,h1⟩
   |false=>rw[hb]at h;exact envR.get h2 h
 | [],_::_,_,hr,_=>hr.elim
 |_::_,[],_,hr,_=>hr.elim
section
variable {st:St}{ρ:View}{E:Env}{hl:List Hl}
theorem Rel.op(R:Rel X η ι β st ρ E hl){x:Operand}{a:VX}(h:st.op x=some a): ∃v,ev E x=some v∧a.R X η ι β v:=by
 cases x with
 |tmp t=>exact R.env.get h
 |const v=>obtain rfl:=oi h;exact⟨v,rfl,rfl⟩
 |global g=>obtain rfl:=oi h;exact⟨_,rfl,rfl⟩
 |func f=>obtain rfl:=oi h;exact⟨_,rfl,[],trivial,rfl⟩
theorem CX.leaf_R{c:CX}{l:Leaf}{v:Value}(hc:c.leaf η=some l)(hr:c.R X η ι β v):v=lval X l:=by
 cases c with
 |lf i=>
   obtain⟨l',h1,h2⟩:=hr;have hc:η[i]? =some l:=hc;rw[h1]at hc;obtain rfl:=oi hc;exact h2
 |cst u=>
   obtain rfl:v=u:=hr
   cases v<;>simp only[CX.leaf]at hc<;>first
    |contradiction
    |(obtain rfl:=oi hc;first|rfl|(show Value.nilIface=errV X.ids X.ge 0;rw[errV_no (by simp[eOk])]))
 |er c=>obtain rfl:=oi hc;exact hr
 |_=>cases hc
theorem VX.leaf_R{x:VX}{l:Leaf}{v:Value}(hc:x.leaf η=some l)(hr:x.R X η ι β v):v=lval X l:=by
 cases x with
 |one c=>exact CX.leaf_R hc hr
 |_=>cases hc
theorem Rel.leaf(R:Rel X η ι β st ρ E hl){x:Operand}{l:Leaf}(h:(st.op x).bind (·.leaf η)=some l):ev E x=some (lval X l):=by
 obtain⟨a,h1,h2⟩:=Option.bind_eq_some_iff.1 h;obtain⟨v,h3,h4⟩:=R.op h1;rw[h3,VX.leaf_R h2 h4]
theorem as_some{l:Leaf}{t:Tc}{x:t.den}(h:l.as t=some x):l=⟨t,x⟩:=by
 obtain⟨s,y⟩:=l;unfold Leaf.as at h;split at h
 ·rename_i hs;have hs:s=t:=hs;subst hs;obtain rfl:=oi h;rfl
 cases h
def Good(X:Amb)(P:Program)(η:List Leaf)(ι:List Value)(β:List Nat)(ρ:View)(E:Env)(hl:List Hl)(op:Op)(r:Out):Prop:=
 ∃v κ,r.v.R X (η++r.δ) (ι++κ) β v∧κ.length=r.na∧(∀f∈r.fs,f.R X (η++r.δ) (ι++κ) ρ)∧
   ∀w,Ok w ρ hl→ ∀d ty pos af g,Qv P E ⟨d,op,ty,pos,af,g⟩ v w
variable {P:Program}
theorem VX.R.upL(δ:List Leaf){x:VX}{v:Value}(h:x.R X η ι β v):x.R X (η++δ) (ι++ []) β v:=by
 have:=h.up δ [] [];rwa[List.append_nil β]at this
theorem good_same{op:Op}{a:VX}{v:Value}(hr:a.R X η ι β v)(hq: ∀w,Ok w ρ hl→ ∀d ty pos af g,Qv P E ⟨d,op,ty,pos,af,g⟩ v w):Good X P η ι β ρ E hl op {v:=a}:=
 ⟨v,[],hr.upL [],rfl,(fun _ h=>nomatch h),hq⟩
theorem good_leaf{op:Op}{l:Leaf}(hq: ∀w,Ok w ρ hl→ ∀d ty pos af g,Qv P E ⟨d,op,ty,pos,af,g⟩ (lval X l) w):Good X P η ι β ρ E hl op ⟨.one (.lf η.length),[l],[],0⟩:=
 ⟨_,[],⟨l,by simp,rfl⟩,rfl,(fun _ h=>nomatch h),hq⟩
theorem binI_ok{k:IntKind}{m l:Int}{op:BinOp}{t t':TypeId}{x y:Operand}{q:QR}(hx:ev E x=some (.int k m))(hy:ev E y=some (.int k l))(h:binI η k m l op=some q){z:q.t.den}(hz:q.o=some z):
 Good X P η ι β ρ E hl (.binOp op t x y t') (q.out z):=by
 cases op<;>simp only[binI]at h<;>first
  |contradiction
  | (obtain rfl:=oi h
     refine good_leaf fun w _ d ty pos af g=>?_
     first
      |exact Q_quo hx hy (nz_some hz)
      |exact Q_rem hx hy (nz_some hz)
      |exact Q_add hx hy
      |exact Q_sub hx hy
      |exact Q_mul hx hy
      |exact Q_lss hx hy
      |exact Q_leq hx hy
      |exact Q_gtr hx hy
      |exact Q_geq hx hy
      |exact Q_eql hx hy
      |exact Q_neq hx hy
      |exact Q_and hx hy
      |exact Q_or hx hy
      |exact Q_xor hx hy
      |exact Q_andNot hx hy)
end
end Go.Dn
namespace Go.Dn
open Go Go.Eng
set_option maxRecDepth 100000
variable {X:Amb}{η:List Leaf}{ι:List Value}{β:List Nat}{P:Program}{st:St}{ρ:View}{E:Env}{hl:List Hl}
theorem undIs_ok{t:TypeId}{f:TypeDesc→Bool}(h:undIs P t f=true): ∃d,P.underlying t=some d∧f d=true:=by
 unfold undIs at h
 cases hu:P.underlying t with
 |none=>rw[hu]at h;cases h
 |some d=>rw[hu]at h;exact⟨d,rfl,h⟩
theorem und_str{t:TypeId}(h:isStr P t=true):P.underlying t=some .string:=by
 obtain⟨d,h1,h2⟩:=undIs_ok h;cases d<;>first|exact h1|cases h2
theorem und_bool{t:TypeId}(h:isBool P t=true):P.underlying t=some .bool:=by
 obtain⟨d,h1,h2⟩:=undIs_ok h;cases d<;>first|exact h1|cases h2
theorem sliceE_ok{t e:TypeId}(h:sliceE P t=some e):P.underlying t=some (.slice e):=by
 unfold sliceE at h;split at h
 ·rename_i e' h1;obtain rfl:=oi h;exact h1
 cases h
theorem tyI_ok{T:TypeId}{n by_:Nat}{z:Value}{ag:Bool}(h:tyI P T=some (n,by_,z,ag)):Eng.Ty P T n by_ z ag:=by
 unfold tyI at h;split at h
 ·rename_i i d h1 h2;rw[Option.map_eq_some_iff]at h;obtain⟨z',hz,h⟩:=h;simp only[Prod.mk.injEq]at h;obtain⟨rfl,rfl,rfl,rfl⟩:=h;exact⟨by rw[h1];simp[hz],by rw[h2];rfl⟩
 cases h
theorem binL_ok{op:BinOp}{a b:Leaf}{t t':TypeId}{x y:Operand}{q:QR}(hx:ev E x=some (lval X a))(hy:ev E y=some (lval X b))(h:binL P η op t a b=some q){z:q.t.den}(hz:q.o=some z):
 Good X P η ι β ρ E hl (.binOp op t x y t') (q.out z):=by
 unfold binL at h;split at h
 ·rename_i k m k' l;split at h
  ·obtain rfl:=oi h;exact good_leaf fun w _ d ty pos af g=>Q_shl hx hy (nn_some hz)
  ·obtain rfl:=oi h;exact good_leaf fun w _ d ty pos af g=>Q_shr hx hy (nn_some hz)
  split at h
  ·rename_i hk;subst hk;exact binI_ok hx hy h hz
  cases h
 ·rename_i a b;split at h
  ·obtain rfl:=oi h;exact good_leaf fun w _ d ty pos af g=>Q_cat hz hx hy
  split at h
  ·cases h
  rename_i hs;have ht:P.underlying t=some .string:=und_str (by simpa using hs)
  cases op<;>simp only at h<;>first
   |contradiction
   | (obtain rfl:=oi h
      refine good_leaf fun w _ d ty pos af g=>?_
      first
       |exact Q_eqlStr ht hx hy
       |exact Q_neqStr ht hx hy)
 ·rename_i a b;split at h
  ·cases h
  rename_i hs;have ht:P.underlying t=some .bool:=und_bool (by simpa using hs)
  cases op<;>simp only at h<;>first
   |contradiction
   | (obtain rfl:=oi h
      refine good_leaf fun w _ d ty pos af g=>?_
      first
       |exact Q_eqlB ht hx hy
       |exact Q_neqB ht hx hy)
 cases h
theorem factR_ok{k:Nat}{t:Tc}{i:Nat}: ∀{l:List Fact},factR k l=some (t,i)→Fact.rs k t i∈l
 | .rs j t' i'::r,h=>by
   simp only[factR]at h
   cases hb:Nat.beq j k with
   |true=>
     rw[hb]at h;obtain⟨rfl,rfl⟩:=Prod.mk.injEq .. ▸oi h;obtain rfl:=Nat.eq_of_beq_eq_true hb;exact List.mem_cons_self ..
   |false=>rw[hb]at h;exact List.mem_cons_of_mem _ (factR_ok h)
 | .vw .. ::r,h=>List.mem_cons_of_mem _ (factR_ok h)
 | .hd .. ::r,h=>List.mem_cons_of_mem _ (factR_ok h)
 | .shp .. ::r,h=>List.mem_cons_of_mem _ (factR_ok h)
 | .bx .. ::r,h=>List.mem_cons_of_mem _ (factR_ok h)
 | .on .. ::r,h=>List.mem_cons_of_mem _ (factR_ok h)
 | .el .. ::r,h=>List.mem_cons_of_mem _ (factR_ok h)
theorem factV_ok{k:Nat}{t:Tc}{i:Nat}: ∀{l:List Fact},factV k l=some (t,i)→Fact.vw k t i∈l
 | .vw j t' i'::r,h=>by
   simp only[factV]at h
   cases hb:Nat.beq j k with
   |true=>
     rw[hb]at h;obtain⟨rfl,rfl⟩:=Prod.mk.injEq .. ▸oi h;obtain rfl:=Nat.eq_of_beq_eq_true hb;exact List.mem_cons_self ..
   |false=>rw[hb]at h;exact List.mem_cons_of_mem _ (factV_ok h)
 | .rs .. ::r,h=>List.mem_cons_of_mem _ (factV_ok h)
 | .hd .. ::r,h=>List.mem_cons_of_mem _ (factV_ok h)
 | .shp .. ::r,h=>List.mem_cons_of_mem _ (factV_ok h)
 | .bx .. ::r,h=>List.mem_cons_of_mem _ (factV_ok h)
 | .on .. ::r,h=>List.mem_cons_of_mem _ (factV_ok h)
 | .el .. ::r,h=>List.mem_cons_of_mem _ (factV_ok h)
theorem factE_ok{k hh m i x:Nat}{t:Tc}: ∀{l:List Fact},factE k l=some (hh,t,m,i,x)→Fact.el k hh t m i x∈l
 | .el j h' t' m' i' x'::r,h=>by
   simp only[factE]at h
   cases hb:Nat.beq j k with
   |true=>
     rw[hb]at h;simp only[cond_true,Option.some.injEq,Prod.mk.injEq]at h;obtain⟨rfl,rfl,rfl,rfl,rfl⟩:=h;obtain rfl:=Nat.eq_of_beq_eq_true hb;exact List.mem_cons_self ..
   |false=>rw[hb]at h;exact List.mem_cons_of_mem _ (factE_ok h)
 | .rs .. ::r,h=>List.mem_cons_of_mem _ (factE_ok h)
 | .hd .. ::r,h=>List.mem_cons_of_mem _ (factE_ok h)
 | .shp .. ::r,h=>List.mem_cons_of_mem _ (factE_ok h)
 | .bx .. ::r,h=>List.mem_cons_of_mem _ (factE_ok h)
 | .on .. ::r,h=>List.mem_cons_of_mem _ (factE_ok h)
 | .vw .. ::r,h=>List.mem_cons_of_mem _ (factE_ok h)
theorem factX_ok{m x:Nat}{c:List CX}{k:IntKind}: ∀{l:List Fact},factX m l=some (c,k,x)→Fact.bx m c k x∈l
 | .bx j c' k' x'::r,h=>by
   simp only[factX]at h
   cases hb:Nat.beq j m with
   |true=>
     rw[hb]at h;simp only[cond_true,Option.some.injEq,Prod.mk.injEq]at h;obtain⟨rfl,rfl,rfl⟩:=h;obtain rfl:=Nat.eq_of_beq_eq_true hb;exact List.mem_cons_self ..
   |false=>rw[hb]at h;exact List.mem_cons_of_mem _ (factX_ok h)
 | .rs .. ::r,h=>List.mem_cons_of_mem _ (factX_ok h)
 | .hd .. ::r,h=>List.mem_cons_of_mem _ (factX_ok h)
 | .shp .. ::r,h=>List.mem_cons_of_mem _ (factX_ok h)
 | .vw .. ::r,h=>List.mem_cons_of_mem _ (factX_ok h)
 | .el .. ::r,h=>List.mem_cons_of_mem _ (factX_ok h)
 | .on .. ::r,h=>List.mem_cons_of_mem _ (factX_ok h)
theorem factO_ok{k:Nat}: ∀{l:List Fact},factO k l=true→Fact.on k∈l
 | .on j::r,h=>by
   simp only[factO,Bool.or_eq_true]at h;rcases h with h|h
   ·rw[Nat.eq_of_beq_eq_true h];exact List.mem_cons_self ..
   exact List.mem_cons_of_mem _ (factO_ok h)
 | .bx .. ::r,h=>List.mem_cons_of_mem _ (factO_ok h)
 | .rs .. ::r,h=>List.mem_cons_of_mem _ (factO_ok h)
 | .hd .. ::r,h=>List.mem_cons_of_mem _ (factO_ok h)
 | .shp .. ::r,h=>List.mem_cons_of_mem _ (factO_ok h)
 | .vw .. ::r,h=>List.mem_cons_of_mem _ (factO_ok h)
 | .el .. ::r,h=>List.mem_cons_of_mem _ (factO_ok h)
theorem factH_ok{a h0 g m i x j:Nat}{e r:Tc}: ∀{l:List Fact},factH a l=some (h0,g,m,i,x,j,e,r)→Fact.hd a h0 g m i x j e r∈l
 | .hd a' h' g' m' i' x' j' e' r'::l,h=>by
   simp only[factH]at h
   cases hb:Nat.beq a' a with
   |true=>
     rw[hb]at h;simp only[cond_true,Option.some.injEq,Prod.mk.injEq]at h;obtain⟨rfl,rfl,rfl,rfl,rfl,rfl,rfl,rfl⟩:=h;obtain rfl:=Nat.eq_of_beq_eq_true hb;exact List.mem_cons_self ..
   |false=>rw[hb]at h;exact List.mem_cons_of_mem _ (factH_ok h)
 | .rs .. ::r,h=>List.mem_cons_of_mem _ (factH_ok h)
 | .vw .. ::r,h=>List.mem_cons_of_mem _ (factH_ok h)
 | .el .. ::r,h=>List.mem_cons_of_mem _ (factH_ok h)
 | .on .. ::r,h=>List.mem_cons_of_mem _ (factH_ok h)
 | .bx .. ::r,h=>List.mem_cons_of_mem _ (factH_ok h)
 | .shp .. ::r,h=>List.mem_cons_of_mem _ (factH_ok h)
theorem factS_ok{k:Nat}{t:Tc}{i:Nat}: ∀{l:List Fact},factS k l=some (t,i)→Fact.shp k t i∈l
 | .shp j t' i'::r,h=>by
   simp only[factS]at h
   cases hb:Nat.beq j k with
   |true=>
     rw[hb]at h;obtain⟨rfl,rfl⟩:=Prod.mk.injEq .. ▸oi h;obtain rfl:=Nat.eq_of_beq_eq_true hb;exact List.mem_cons_self ..
   |false=>rw[hb]at h;exact List.mem_cons_of_mem _ (factS_ok h)
 | .rs .. ::r,h=>List.mem_cons_of_mem _ (factS_ok h)
 | .vw .. ::r,h=>List.mem_cons_of_mem _ (factS_ok h)
 | .el .. ::r,h=>List.mem_cons_of_mem _ (factS_ok h)
 | .on .. ::r,h=>List.mem_cons_of_mem _ (factS_ok h)
 | .bx .. ::r,h=>List.mem_cons_of_mem _ (factS_ok h)
 | .hd .. ::r,h=>List.mem_cons_of_mem _ (factS_ok h)
theorem factI_ok{hh m i x:Nat}{t:Tc}: ∀{l:List Fact},factI hh t m i l=some x→ ∃k,Fact.el k hh t m i x∈l
 | .el j h' t' m' i' x'::r,h=>by
   simp only[factI]at h;split at h
   ·rename_i hc;obtain⟨rfl,rfl,rfl,rfl⟩:=hc;obtain rfl:=oi h;exact⟨j,List.mem_cons_self ..⟩
   obtain⟨k,hk⟩:=factI_ok h;exact⟨k,List.mem_cons_of_mem _ hk⟩
 | .rs .. ::r,h=>by obtain⟨k,hk⟩:=factI_ok (l:=r) h;exact⟨k,List.mem_cons_of_mem _ hk⟩
 | .vw .. ::r,h=>by obtain⟨k,hk⟩:=factI_ok (l:=r) h;exact⟨k,List.mem_cons_of_mem _ hk⟩
 | .shp .. ::r,h=>by obtain⟨k,hk⟩:=factI_ok (l:=r) h;exact⟨k,List.mem_cons_of_mem _ hk⟩
 | .on .. ::r,h=>by obtain⟨k,hk⟩:=factI_ok (l:=r) h;exact⟨k,List.mem_cons_of_mem _ hk⟩
 | .bx .. ::r,h=>by obtain⟨k,hk⟩:=factI_ok (l:=r) h;exact⟨k,List.mem_cons_of_mem _ hk⟩
 | .hd .. ::r,h=>by obtain⟨k,hk⟩:=factI_ok (l:=r) h;exact⟨k,List.mem_cons_of_mem _ hk⟩
theorem intsL_R{k:IntKind}: ∀{l:List CX} {xs:LI} {us:List Value},intsL η k l=some xs→cellsR X η ι β l us→us=xs.map (.int k)
 | [],xs,us,h,hr=>by
   obtain rfl:=oi h
   match us,hr with
   | [],_=>rfl
 |c::l,xs,us,h,hr=>by
   simp only[intsL]at h;split at h
   ·rename_i k' n r h1 h2;split at h
    ·rename_i hk;subst hk;obtain rfl:=oi h
     match us,hr with
     |u::us,hr=>
       rw[intsL_R h2 hr.2,CX.leaf_R h1 hr.1];rfl
     | [],hr=>exact hr.elim
    cases h
   cases h
theorem arrayE_ok{t:TypeId}{p:Nat×TypeId}(h:arrayE P t=some p):P.underlying t=some (.array p.1 p.2):=by
 unfold arrayE at h;split at h
 ·rename_i n e h1;obtain rfl:=oi h;exact h1
 cases h
theorem intK_ok{t:TypeId}{k:IntKind}(h:intK P t=some k):P.underlying t=some (.int k):=by
 unfold intK at h;split at h
 ·rename_i k' h1;obtain rfl:=oi h;exact h1
 cases h
theorem heapB_ok{b:Nat}{l:List CX}: ∀{hp:List HX} {hs:List Hl},heapB b hp=some l→heapR X η ι β ρ hp hs→ ∃(j:Nat) (blk:Nat) (vs:List Value),hs[j]? =some (Box blk vs)∧β[b]? =some blk∧cellsR X η ι β l vs
 | .box j l'::r,h::hs,hk,hr=>by
   simp only[heapB]at hk
   cases hb:Nat.beq j b with
   |true=>
     rw[hb]at hk;obtain rfl:=oi hk;obtain rfl:=Nat.eq_of_beq_eq_true hb;obtain⟨blk,vs,h1,h2,rfl⟩:=hr.1;exact⟨0,blk,vs,rfl,h1,h2⟩
   |false=>
     rw[hb]at hk;obtain⟨j,blk,vs,h0,h1⟩:=heapB_ok hk hr.2;exact⟨j+1,blk,vs,h0,h1⟩
 | .arr .. ::r,h::hs,hk,hr=>by
   obtain⟨j,blk,vs,h0,h1⟩:=heapB_ok (hp:=r) hk hr.2;exact⟨j+1,blk,vs,h0,h1⟩
 | .ow .. ::r,h::hs,hk,hr=>by
   obtain⟨j,blk,vs,h0,h1⟩:=heapB_ok (hp:=r) hk hr.2;exact⟨j+1,blk,vs,h0,h1⟩
 | .ow .. ::_,[],_,hr=>hr.elim
 | .arr .. ::_,[],_,hr=>hr.elim
 | .box .. ::_,[],_,hr=>hr.elim
theorem heapA_ok{k:Nat}{t:Tc}{i:Nat}: ∀{l:List HX} {hs:List Hl},heapA k l=some (t,i)→heapR X η ι β ρ l hs→ ∃(j:Nat) (v:Value) (c:List Value) (xs:List t.den),hs[j]? =some (Arr v t.n c)∧ι[k]? =some v∧η[i]? =some ⟨.list t,xs⟩∧rdL (t.enc X) ρ xs c
 | .arr j t' i'::r,h::hs,hk,hr=>by
   simp only[heapA]at hk
   cases hb:Nat.beq j k with
   |true=>
     rw[hb]at hk;obtain⟨rfl,rfl⟩:=Prod.mk.injEq .. ▸oi hk;obtain rfl:=Nat.eq_of_beq_eq_true hb;obtain⟨v,c,xs,h1,h2,h3,rfl⟩:=hr.1;exact⟨0,v,c,xs,rfl,h1,h2,h3⟩
   |false=>
     rw[hb]at hk;obtain⟨j,v,c,xs,h0,h1⟩:=heapA_ok hk hr.2;exact⟨j+1,v,c,xs,h0,h1⟩
 | .box .. ::r,h::hs,hk,hr=>by
   obtain⟨j,v,c,xs,h0,h1⟩:=heapA_ok (l:=r) hk hr.2;exact⟨j+1,v,c,xs,h0,h1⟩
 | .ow .. ::r,h::hs,hk,hr=>by
   obtain⟨j,v,c,xs,h0,h1⟩:=heapA_ok (l:=r) hk hr.2;exact⟨j+1,v,c,xs,h0,h1⟩
 | .ow .. ::_,[],_,hr=>hr.elim
 | .arr .. ::_,[],_,hr=>hr.elim
 | .box .. ::_,[],_,hr=>hr.elim
theorem heapO_ok{k:Nat}{s:Ow}{i:Nat}: ∀{l:List HX} {hs:List Hl},heapO k l=some (s,i)→heapR X η ι β ρ l hs→ ∃(j:Nat) (v:Value) (h:Hl),hs[j]? =some h∧ι[k]? =some v∧v.oneCell'=true∧s.R X η ι ρ v i h
 | .ow j s' i'::r,h::hs,hk,hr=>by
   simp only[heapO]at hk
   cases hb:Nat.beq j k with
   |true=>
     rw[hb]at hk;obtain⟨rfl,rfl⟩:=Prod.mk.injEq .. ▸oi hk;obtain rfl:=Nat.eq_of_beq_eq_true hb;obtain⟨v,h1,h2,h3⟩:=hr.1;exact⟨0,v,h,rfl,h1,h2,h3⟩
   |false=>
     rw[hb]at hk;obtain⟨j,v,h',h0,h1⟩:=heapO_ok hk hr.2;exact⟨j+1,v,h',h0,h1⟩
 | .box .. ::r,h::hs,hk,hr=>by
   obtain⟨j,v,h',h0,h1⟩:=heapO_ok (l:=r) hk hr.2;exact⟨j+1,v,h',h0,h1⟩
 | .arr .. ::r,h::hs,hk,hr=>by
   obtain⟨j,v,h',h0,h1⟩:=heapO_ok (l:=r) hk hr.2;exact⟨j+1,v,h',h0,h1⟩
 | .ow .. ::_,[],_,hr=>hr.elim
 | .arr .. ::_,[],_,hr=>hr.elim
 | .box .. ::_,[],_,hr=>hr.elim
theorem leafAs{i:Nat}{t:Tc}{x:t.den}(h:((η[i]?).bind fun l=>l.as t)=some x):η[i]? =some ⟨t,x⟩:=by
 obtain⟨l,h1,h2⟩:=Option.bind_eq_some_iff.1 h;rw[h1,as_some h2]
theorem slice_len(R:Rel X η ι β st ρ E hl){a:VX}{t:Tc}{xs:List t.den}{v:Value}(h:sliceOf st η a=some ⟨t,xs⟩)(hv:a.R X η ι β v)(hn:0<t.n){w:World}(hok:Ok w ρ hl):
 ∃o c,v= .slice o xs.length c:=by
 unfold sliceOf at h;split at h
 ·rename_i k;have hv:ι[k]? =some v:=hv;split at h
  ·rename_i t' i hf;obtain⟨l,h1,h2⟩:=Option.bind_eq_some_iff.1 h;rw[Option.map_eq_some_iff]at h2;obtain⟨ys,h3,h4⟩:=h2;have hl':=as_some h3;subst hl';cases h4
   cases hfr:factR k st.facts with
   |some p=>
     rw[hfr]at hf;obtain rfl:=oi hf;obtain⟨v',xs',a1,a2,a3⟩:=R.facts _ (factR_ok hfr);rw[hv]at a1;obtain rfl:=oi a1;rw[h1]at a2;cases oi a2;rcases a3 with⟨ad,cap,rfl,rfl⟩|⟨b,o,cap,cs,rfl,_⟩
     ·exact⟨_,_,rfl⟩
     exact⟨_,_,rfl⟩
   |none=>
     rw[hfr]at hf;obtain⟨j,v',c,xs',a0,a1,a2,a3⟩:=heapA_ok hf R.heap;rw[hv]at a1;obtain rfl:=oi a1;rw[h1]at a2;cases oi a2;have hp:=hok.get a0;rw[←enc_n X]at hp;exact arr_len (by rw[enc_n];exact hn) hp a3
  cases h
 cases h
end Go.Dn
namespace Go.Dn
open Go Go.Eng
set_option maxRecDepth 100000
variable {X:Amb}{P:Program}
theorem cellsR.app{η:List Leaf}{ι:List Value}{β:List Nat}: ∀{l m:List CX} {vs us:List Value},cellsR X η ι β l vs→cellsR X η ι β m us→cellsR X η ι β (l++m) (vs++us)
 | [],_,[],_,_,h=>h
 |_::_,_,_::_,_,h,h'=>⟨h.1,cellsR.app h.2 h'⟩
 | [],_,_::_,_,h,_=>h.elim
 |_::_,_,[],_,h,_=>h.elim
theorem cellsR.len{η:List Leaf}{ι:List Value}{β:List Nat}: ∀{l:List CX} {vs:List Value},cellsR X η ι β l vs→vs.length=l.length
 | [],[],_=>rfl
 |_::_,_::_,h=>by simp[cellsR.len h.2]
 | [],_::_,h=>h.elim
 |_::_,[],h=>h.elim
theorem cellsR.drop{η:List Leaf}{ι:List Value}{β:List Nat}: ∀{l:List CX} {vs:List Value} (k:Nat),cellsR X η ι β l vs→cellsR X η ι β (l.drop k) (vs.drop k)
 |_,_,0,h=>by simpa using h
 | [],[],_+1,_=>by simp[cellsR]
 |_::_,_::_,k+1,h=>by simpa using cellsR.drop k h.2
 | [],_::_,_+1,h=>h.elim
 |_::_,[],_+1,h=>h.elim
theorem cellsR.take{η:List Leaf}{ι:List Value}{β:List Nat}: ∀{l:List CX} {vs:List Value} (k:Nat),cellsR X η ι β l vs→cellsR X η ι β (l.take k) (vs.take k)
 |_,_,0,_=>by simp[cellsR]
 | [],[],_+1,_=>by simp[cellsR]
 |_::_,_::_,k+1,h=>by
   simp only[List.take_succ_cons];exact⟨h.1,cellsR.take k h.2⟩
 | [],_::_,_+1,h=>h.elim
 |_::_,[],_+1,h=>h.elim
def Opened(X:Amb)(η:List Leaf)(ι:List Value)(β:List Nat)(ρ:View)(cs:List Value)(r:List CX×List Leaf×List Fact×Nat):Prop:=
 ∃κ:List Value,ι.length+κ.length=r.2.2.2∧cellsR X (η++r.2.1) (ι++κ) β r.1 cs∧ ∀f∈r.2.2.1,f.R X (η++r.2.1) (ι++κ) ρ
variable {ρ:View}{β:List Nat}
theorem opened_leaf{η:List Leaf}{ι:List Value}{l:Leaf}{v:Value}{na:Nat}(hn:ι.length=na)(h:v=lval X l):Opened X η ι β ρ [v] ([.lf η.length],[l],[],na):=
 ⟨[],by simpa using hn,⟨⟨l,by simp,h⟩,trivial⟩,fun _ h=>nomatch h⟩
theorem opened_list{η:List Leaf}{ι:List Value}{t:Tc}{xs:List t.den}{v:Value}{na:Nat}(hn:ι.length=na)(h:RdSl ρ (t.enc X) v xs):Opened X η ι β ρ [v] ([.at na],[⟨.list t,xs⟩],[.rs na t η.length],na+1):=by
 subst hn;refine⟨[v],rfl,⟨by show(ι++ [v])[ι.length]? =some v;simp,trivial⟩,fun f hf=>?_⟩;obtain rfl:=List.mem_singleton.1 hf;exact⟨v,xs,by simp,by simp,h⟩
theorem opened_pair{η:List Leaf}{ι:List Value}{c d:List Value}{r s:List CX×List Leaf×List Fact×Nat}(h1:Opened X η ι β ρ c r)
 (h2: ∀κ:List Value,ι.length+κ.length=r.2.2.2→Opened X (η++r.2.1) (ι++κ) β ρ d s):
 Opened X η ι β ρ (c++d) (r.1++s.1,r.2.1++s.2.1,r.2.2.1++s.2.2.1,s.2.2.2):=by
 obtain⟨κ,a1,a2,a3⟩:=h1;obtain⟨κ',b1,b2,b3⟩:=h2 κ a1;rw[List.append_assoc,List.append_assoc]at b2;refine⟨κ++κ',by simp only[List.length_append]at b1 ⊢;omega,?_,fun f hf=>?_⟩
 ·have a2':=a2.up s.2.1 κ' [];rw[List.append_nil,List.append_assoc,List.append_assoc]at a2';exact a2'.app b2
 rcases List.mem_append.1 hf with hf|hf
 ·have:=(a3 f hf).up s.2.1 κ' (View.le_refl ρ);rw[List.append_assoc,List.append_assoc]at this;exact this
 have:=b3 f hf;rw[List.append_assoc,List.append_assoc]at this;exact this
theorem open0_ok: ∀(t:Tc) {x:t.den} {cs:List Value} {η:List Leaf} {ι:List Value} {na:Nat},t.noNd=true→ι.length=na→(t.enc X).rd ρ x cs→Opened X η ι β ρ cs (open0 na t x η)
 | .int k,x,cs,η,ι,na,_,hn,h=>by obtain rfl:cs= [_]:=h;exact opened_leaf hn rfl
 | .bool,x,cs,η,ι,na,_,hn,h=>by obtain rfl:cs= [_]:=h;exact opened_leaf hn rfl
 | .str,x,cs,η,ι,na,_,hn,h=>by obtain rfl:cs= [_]:=h;exact opened_leaf hn rfl
 | .err,x,cs,η,ι,na,_,hn,h=>by obtain rfl:cs= [_]:=h.1;exact opened_leaf hn rfl
 | .unit,x,cs,η,ι,na,_,hn,h=>by obtain rfl:cs= []:=h;exact⟨[],by simpa[open0]using hn,trivial,fun _ h=>nomatch h⟩
 | .nd,x,cs,η,ι,na,hf,_,_=>by cases hf
 | .list t,x,cs,η,ι,na,_,hn,h=>by obtain⟨v,rfl,h⟩:=h;exact opened_list hn h
 | .pair a b,x,cs,η,ι,na,hf,hn,h=>by
   obtain⟨c,d,rfl,h1,h2⟩:=h;simp only[Tc.noNd,Bool.and_eq_true]at hf;exact opened_pair (open0_ok a hf.1 hn h1) fun κ hκ=>open0_ok b hf.2 (by simpa using hκ) h2
theorem openT_ok: ∀(t:Tc) {x:t.den} {cs:List Value} {η:List Leaf} {ι:List Value} {na:Nat},ι.length=na→(t.enc X).rd ρ x cs→Opened X η ι β ρ cs (openT na t x η)
 | .int k,x,cs,η,ι,na,hn,h=>by obtain rfl:cs= [_]:=h;exact opened_leaf hn rfl
 | .bool,x,cs,η,ι,na,hn,h=>by obtain rfl:cs= [_]:=h;exact opened_leaf hn rfl
 | .str,x,cs,η,ι,na,hn,h=>by obtain rfl:cs= [_]:=h;exact opened_leaf hn rfl
 | .err,x,cs,η,ι,na,hn,h=>by obtain rfl:cs= [_]:=h.1;exact opened_leaf hn rfl
 | .unit,x,cs,η,ι,na,hn,h=>by obtain rfl:cs= []:=h;exact⟨[],by simpa[openT]using hn,trivial,fun _ h=>nomatch h⟩
 | .nd,x,cs,η,ι,na,hn,h=>open0_ok .ndP rfl hn (eN_un h)
 | .list t,x,cs,η,ι,na,hn,h=>by obtain⟨v,rfl,h⟩:=h;exact opened_list hn h
 | .pair a b,x,cs,η,ι,na,hn,h=>by
   obtain⟨c,d,rfl,h1,h2⟩:=h;exact opened_pair (openT_ok a hn h1) fun κ hκ=>openT_ok b (by simpa using hκ) h2
variable {η:List Leaf}{ι:List Value}{st:St}{E:Env}{hl:List Hl}
theorem loadV_ok{ag:Bool}{l:List CX}{v:VX}{us:List Value}(h:loadV ag l=some v)(hu:cellsR X η ι β l us):v.R X η ι β (mkv ag us)∧(ag=false→us.length=1):=by
 unfold loadV at h;split at h
 ·obtain rfl:=oi h;exact⟨⟨us,hu,rfl⟩,fun h=>by cases h⟩
 ·rename_i c;obtain rfl:=oi h
  match us,hu with
  | [u],hu=>exact⟨hu.1,fun _=>rfl⟩
  |u::u2::us,hu=>exact hu.2.elim
 cases h
theorem beq_eqN{i j:Nat}(h:Nat.beq i j=true):i=j:=Nat.eq_of_beq_eq_true h
theorem qNil_ok(R:Rel X η ι β st ρ E hl){x:Operand}{q:QR}(h:qNil st x=some q){z:q.t.den}:Good X P η ι β ρ E hl (.nilCheck x) (q.out z):=by
 unfold qNil at h;split at h
 ·rename_i b o h1;obtain rfl:=oi h;obtain⟨u,h2,h3⟩:=R.op h1;obtain⟨blk,h4,rfl⟩:=id h3;exact good_same h3 fun w _ d ty pos af g=>Q_nilP h2
 ·rename_i k o h1;obtain rfl:=oi h;obtain⟨u,h2,h3⟩:=R.op h1;obtain⟨b,a,h4,rfl⟩:=id h3;exact good_same h3 fun w _ d ty pos af g=>Q_nilP h2
 cases h
theorem tupR.get{l:List (CX ⊕ List CX)}: ∀{vs:List Value} {i:Nat} {e:CX ⊕ List CX},tupR X η ι β l vs→l[i]? =some e→ ∃v,vs[i]? =some v∧(match e with| .inl c=>VX.one c| .inr l=>VX.agg l).R X η ι β v:=by
 induction l with
 |nil=>intro vs i e _ h;simp at h
 |cons a l ih=>
   intro vs i e hr hi
   match vs,a,hr with
   |v::vs,.inl c,hr=>
     cases i with
     |zero=>simp at hi;subst hi;exact⟨v,rfl,hr.1⟩
     |succ i=>simpa using ih hr.2 (by simpa using hi)
   |v::vs,.inr c,hr=>
     cases i with
     |zero=>simp at hi;subst hi;exact⟨v,rfl,hr.1⟩
     |succ i=>simpa using ih hr.2 (by simpa using hi)
   | [],.inl c,hr=>exact hr.elim
   | [],.inr c,hr=>exact hr.elim
theorem qExtract_ok(R:Rel X η ι β st ρ E hl){x:Operand}{i:Nat}{q:QR}(h:qExtract st x i=some q){z:q.t.den}:Good X P η ι β ρ E hl (.extract x i) (q.out z):=by
 unfold qExtract at h;split at h
 ·rename_i l h1;obtain⟨u,h2,us,h3,rfl⟩:=R.op h1;split at h
  ·rename_i c hi;obtain rfl:=oi h;obtain⟨v,hv,hr⟩:=h3.get hi;exact good_same hr fun w _ d ty pos af g=>Q_extract h2 hv
  ·rename_i l hi;obtain rfl:=oi h;obtain⟨v,hv,hr⟩:=h3.get hi;exact good_same hr fun w _ d ty pos af g=>Q_extract h2 hv
  cases h
 cases h
theorem und_ifc{t:TypeId}(h:isIfc P t=true): ∃ms,P.underlying t=some (.interface ms):=by
 obtain⟨d,h1,h2⟩:=undIs_ok h;cases d<;>first|exact⟨_,h1⟩|cases h2
theorem nilC{y:Operand}(h:isNilC y=true):y= .const .nilIface:=by
 unfold isNilC at h;split at h
 ·rfl
 cases h
theorem qBin_ok(R:Rel X η ι β st ρ E hl)(G:GErrs ρ X.T X.ids X.ge){op:BinOp}{t t':TypeId}{x y:Operand}{q:QR}(h:qBin P X.ids st η op t x y=some q){z:q.t.den}(hz:q.o=some z):Good X P η ι β ρ E hl (.binOp op t x y t') (q.out z):=by
 unfold qBin at h;split at h
 ·rename_i c h1;split at h
  ·rename_i hc;obtain⟨ms,hms⟩:=und_ifc hc.2;obtain rfl:=nilC hc.1;have hx:=R.leaf h1;split at h
   ·obtain rfl:=oi h;exact good_leaf fun w _ d ty pos af g=>Q_neqV hms G hx
   ·obtain rfl:=oi h;exact good_leaf fun w _ d ty pos af g=>Q_eqlV hms G hx
   cases h
  cases h
 ·rename_i a b h1 h2;exact binL_ok (R.leaf h1) (R.leaf h2) h hz
 cases h
theorem konstO_ok{op:Op}{r:Out}(h:Good X P η ι β ρ E hl op r):Good X P η ι β ρ E hl op (konstO η.length r):=by
 unfold konstO;split
 ·rename_i i b;split
  ·rename_i hi;subst hi;obtain⟨v,κ,hv,_,_,hq⟩:=h;obtain⟨l,h1,rfl⟩:=hv;have h1:(η++ [(⟨.bool,b⟩:Leaf)])[η.length]? =some l:=h1;rw[List.getElem?_append_right (Nat.le_refl _)]at h1;simp only[Nat.sub_self,List.getElem?_cons_zero,Option.some.injEq]at h1;subst h1;exact good_same (a:= .one (.cst (.bool b))) (v:= .bool b) rfl hq
  exact h
 exact h
theorem konst_ok{op:Op}{c:Bool}{q:QR}(h: ∀{z:q.t.den},q.o=some z→Good X P η ι β ρ E hl op (q.out z)){z:(konst c η.length q).t.den}(hz:(konst c η.length q).o=some z):Good X P η ι β ρ E hl op ((konst c η.length q).out z):=by
 cases c with
 |true=>exact konstO_ok (h hz)
 |false=>exact h hz
theorem qGlob_ok(G:GErrs ρ X.T X.ids X.ge){T:TypeId}{gl:Nat}{q:QR}(h:qGlob P X.ids η T gl=some q){z:q.t.den}:Good X P η ι β ρ E hl (.load T (.global gl)) (q.out z):=by
 unfold qGlob at h;split at h
 ·rename_i n by_ zz ag hty;split at h
  ·rename_i hc;obtain⟨rfl,rfl,hk⟩:=hc;obtain rfl:=oi h;exact good_same (v:=errV X.ids X.ge ((gl+1:Nat):Int)) rfl fun w hok d ty pos af g=>Q_ldV hok G hk (tyI_ok hty)
  cases h
 cases h
theorem qUn_ok(R:Rel X η ι β st ρ E hl){op:UnOp}{t:TypeId}{x:Operand}{q:QR}(h:qUn st η op x=some q){z:q.t.den}:Good X P η ι β ρ E hl (.unOp op t x) (q.out z):=by
 unfold qUn at h;split at h
 ·rename_i b h1;obtain rfl:=oi h;exact good_leaf fun w _ d ty pos af g=>Q_not (R.leaf h1)
 ·rename_i k m h1;obtain rfl:=oi h;exact good_leaf fun w _ d ty pos af g=>Q_neg (R.leaf h1)
 ·rename_i k m h1;obtain rfl:=oi h;exact good_leaf fun w _ d ty pos af g=>Q_inv (R.leaf h1)
 cases h
theorem qConv_ok(R:Rel X η ι β st ρ E hl){s t:TypeId}{x:Operand}{q:QR}(h:qConv P st η s t x=some q){z:q.t.den}:Good X P η ι β ρ E hl (.convert s t x) (q.out z):=by
 unfold qConv at h;split at h
 ·rename_i u k ks m hs ht h1;obtain rfl:=oi h;exact good_leaf fun w _ d ty pos af g=>Q_cvI ⟨_,hs⟩ ht (R.leaf h1)
 cases h
theorem qIndex_ok(R:Rel X η ι β st ρ E hl){t:TypeId}{x i:Operand}{q:QR}(h:qIndex P st η t x i=some q){z:q.t.den}(hz:q.o=some z):Good X P η ι β ρ E hl (.index t x i) (q.out z):=by
 unfold qIndex at h;split at h
 ·rename_i s k m h1 h2;split at h
  ·rename_i hs;split at h
   ·rename_i y _ hy;obtain rfl:=oi h;exact good_same (a:= .one (.cst (.int .u8 y))) (v:= .int .u8 y) rfl fun w _ d ty pos af g=>Q_ixS hy (und_str hs) (R.leaf h1) (R.leaf h2)
   obtain rfl:=oi h;exact good_leaf fun w _ d ty pos af g=>Q_ixS hz (und_str hs) (R.leaf h1) (R.leaf h2)
  cases h
 cases h
theorem bound_OB(R:Rel X η ι β st ρ E hl){dflt m:Int}{x:Option Operand}(h:bound st η dflt x=some m):OB E x m dflt:=by
 cases x with
 |none=>exact(oi h).symm
 |some x=>
   simp only[bound]at h;split at h
   ·rename_i k m' h1;obtain rfl:=oi h;exact⟨k,R.leaf h1⟩
   cases h
theorem bound_Bd(R:Rel X η ι β st ρ E hl){dflt m:Int}{x:Option Operand}(h:bound st η dflt x=some m):Bd E dflt x m:=by
 cases x with
 |none=>exact(oi h).symm
 |some x=>
   simp only[bound]at h;split at h
   ·rename_i k m' h1;obtain rfl:=oi h;exact⟨k,R.leaf h1⟩
   cases h
theorem qSlice_ok(R:Rel X η ι β st ρ E hl){t:TypeId}{x:Operand}{l h m:Option Operand}{q:QR}(hq:qSlice P st η t x l h m=some q){z:q.t.den}(hz:q.o=some z):Good X P η ι β ρ E hl (.slice t x l h m) (q.out z):=by
 unfold qSlice at hq;split at hq
 ·cases hq
 rename_i hm;have hm:m=none:=by cases m<;>simp_all
 subst hm;split at hq
 ·rename_i hs;split at hq
  ·rename_i s h1;split at hq
   ·rename_i lo hi h2 h3;obtain rfl:=oi hq;exact good_leaf fun w _ d ty pos af g=>Q_slStr hz (und_str hs) (R.leaf h1) (bound_OB R h2) (bound_OB R h3)
   cases hq
  cases hq
 split at hq
 ·rename_i e k he hx;split at hq
  ·rename_i tt j n by_ zz ag hf hty;split at hq
   ·rename_i htn;split at hq
    ·rename_i xs hxs;split at hq
     ·rename_i lo hi h2 h3;obtain rfl:=oi hq;obtain⟨v,h4,h5⟩:=R.op hx;have h5:ι[k]? =some v:=h5;obtain⟨v',xs',a1,a2,a3⟩:=R.facts _ (factR_ok hf);rw[h5]at a1;obtain rfl:=oi a1;rw[leafAs hxs]at a2;cases oi a2;obtain⟨b1,b2,b3,b4⟩:=slc_some hz;obtain⟨v',c1,c2⟩:=sliceR (P:=P) a3 b1 b2 b3;rw[←b4]at c1;have hnn:(tt.enc X).n=n:=by rw[enc_n];exact htn
      refine⟨v',[v'],?_,rfl,fun f hf=>?_,fun w _ d ty pos af g=>c2 E w d ty pos af g t e by_ zz ag x l h (sliceE_ok he) (by rw[hnn];exact tyI_ok hty) h4 (bound_Bd R h2) (bound_Bd R h3)⟩
      ·show(ι++ [v'])[st.na]? =some v';rw[←R.na];simp
      obtain rfl:=List.mem_singleton.1 hf;exact⟨v',z,by rw[←R.na];simp,by simp,c1⟩
     cases hq
    cases hq
   cases hq
  cases hq
 cases hq
theorem fieldOf_ok{T:TypeId}{f:Nat}{fd:Field}(h:fieldOf P T f=some fd): ∃fs,P.underlying T=some (.struct fs)∧fs[f]? =some fd:=by
 unfold fieldOf at h;split at h
 ·rename_i fs h1;exact⟨fs,h1,h⟩
 cases h
theorem qFieldAddr_ok(R:Rel X η ι β st ρ E hl){T:TypeId}{x:Operand}{f:Nat}{q:QR}(h:qFieldAddr P st T x f=some q){z:q.t.den}:Good X P η ι β ρ E hl (.fieldAddr T x f) (q.out z):=by
 unfold qFieldAddr at h;split at h
 ·rename_i fd hfd;obtain⟨fs,hu,hf⟩:=fieldOf_ok hfd;split at h
  ·rename_i n by_ zz ag hty;split at h
   ·cases h
   rename_i hn;split at h
   ·rename_i b o hx;obtain rfl:=oi h;obtain⟨u,h2,blk,h3,rfl⟩:=R.op hx;exact good_same (v:= .pointer (some ⟨blk,o+fd.offset,none⟩)) ⟨blk,h3,rfl⟩ fun w _ d ty pos af g=>Q_fld hu hf (tyI_ok hty) hn h2 (Addr.add_none _ _ _)
   ·rename_i k o hx;obtain rfl:=oi h;obtain⟨u,h2,b,a,h3,rfl⟩:=R.op hx;refine good_same (v:= .pointer (some ⟨b,a+o+fd.offset,none⟩)) ⟨b,a,h3,?_⟩ fun w _ d ty pos af g=>Q_fld hu hf (tyI_ok hty) hn h2 (Addr.add_none _ _ _);rw[Nat.add_assoc]
   cases h
  cases h
 cases h
theorem qField_ok(R:Rel X η ι β st ρ E hl){T:TypeId}{x:Operand}{f:Nat}{q:QR}(h:qField P st T x f=some q){z:q.t.den}:Good X P η ι β ρ E hl (.field T x f) (q.out z):=by
 unfold qField at h;split at h
 ·rename_i fd hfd;obtain⟨fs,hu,hf⟩:=fieldOf_ok hfd;split at h
  ·rename_i n by_ zz ag l hty hx;split at h
   ·rename_i hc;obtain⟨v,hv,rfl⟩:=Option.map_eq_some_iff.1 h;obtain⟨u,h2,us,h3,rfl⟩:=R.op hx;obtain⟨c1,c2⟩:=loadV_ok (X:=X) (β:=β) (η:=η) (ι:=ι) hv ((h3.drop fd.offset).take n);have hlen:=h3.len
    cases ag with
    |true=>exact good_same c1 fun w _ d ty pos af g=>Q_fieldN hu hf (tyI_ok hty) h2 rfl
    |false=>
      have hn1:=hc.2 rfl;subst hn1;have hlt:fd.offset<us.length:=by omega
      have e1:us[fd.offset]? =some us[fd.offset]:=List.getElem?_eq_getElem hlt
      have e2:(us.drop fd.offset).take 1= [us[fd.offset]]:=by
       rw[List.drop_eq_getElem_cons hlt];rfl
      rw[e2]at c1;exact good_same c1 fun w _ d ty pos af g=>Q_field1 hu hf (tyI_ok hty) h2 e1
   cases h
  cases h
 cases h
theorem qLen_ok(R:Rel X η ι β st ρ E hl){t:TypeId}{x:Operand}{q:QR}(h:qLen P st η x t=some q){z:q.t.den}:Good X P η ι β ρ E hl (.call ⟨.builtin .len, #[x], #[t]⟩) (q.out z):=by
 unfold qLen at h;split at h
 ·rename_i hs;split at h
  ·rename_i s h1;split at h
   ·obtain rfl:=oi h;exact good_same (a:= .one (.cst (.int .i64 (s.size:Int)))) (v:= .int .i64 (s.size:Int)) rfl fun w _ d ty pos af g=>Q_lenStr (und_str hs) (R.leaf h1)
   obtain rfl:=oi h;exact good_leaf fun w _ d ty pos af g=>Q_lenStr (und_str hs) (R.leaf h1)
  cases h
 split at h
 ·rename_i e he h1;obtain rfl:=oi h;obtain⟨v,h4,h5⟩:=R.op h1;obtain rfl:v= .slice none 0 0:=h5;exact good_same (a:= .one (.cst (.int .i64 0))) (v:= .int .i64 0) rfl fun w _ d ty pos af g=>Q_lenS (sliceE_ok he) h4
 split at h
 ·rename_i e tt xs he h1;split at h
  ·rename_i hn;obtain rfl:=oi h;obtain⟨a,h2,h3⟩:=Option.bind_eq_some_iff.1 h1;obtain⟨v,h4,h5⟩:=R.op h2;refine good_leaf fun w hok d ty pos af g=>?_;obtain⟨o,c,rfl⟩:=slice_len R h3 h5 hn hok;exact Q_lenS (sliceE_ok he) h4
  cases h
 cases h
theorem arr1{α:Type}{a:Array α}{x:α}(h:a.toList= [x]):a= #[x]:=by
 cases a;simp only at h;subst h;rfl
theorem qMM_ok(R:Rel X η ι β st ρ E hl){f:Int→Int→Int}{l:List Operand}{q:QR}(h:qMM st η f l=some q): ∃x y k m n,l= [x,y]∧ev E x=some (.int k m)∧ev E y=some (.int k n)∧q=leafR η ⟨.int k,f m n⟩:=by
 unfold qMM at h;split at h
 ·rename_i x y;split at h
  ·rename_i k m k' n h1 h2;split at h
   ·rename_i hk;subst hk;obtain rfl:=oi h;exact⟨x,y,k,m,n,rfl,R.leaf h1,R.leaf h2,rfl⟩
   cases h
  cases h
 cases h
theorem qCall_ok(R:Rel X η ι β st ρ E hl){c:Call}{q:QR}(h:qCall P st η c=some q){z:q.t.den}:Good X P η ι β ρ E hl (.call c) (q.out z):=by
 obtain⟨callee,args,tys⟩:=c;unfold qCall at h;simp only at h;split at h
 ·split at h
  ·rename_i x t h1 h2;obtain rfl:=arr1 h1;obtain rfl:=arr1 h2;exact qLen_ok R h
  cases h
 ·obtain⟨x,y,k,m,l,h1,h2,h3,rfl⟩:=qMM_ok R h;obtain rfl:args= #[x,y]:=Array.toList_inj.1 (by simpa using h1);exact good_leaf fun w _ d ty pos af g=>Q_max h2 h3
 ·obtain⟨x,y,k,m,l,h1,h2,h3,rfl⟩:=qMM_ok R h;obtain rfl:args= #[x,y]:=Array.toList_inj.1 (by simpa using h1);exact good_leaf fun w _ d ty pos af g=>Q_min h2 h3
 cases h
theorem qIdx_ok(R:Rel X η ι β st ρ E hl){w0:World}(hok0:Ok w0 ρ hl){t:TypeId}{x i:Operand}{q:QR}(h:qIdx P st η t x i=some q){z:q.t.den}(hz:q.o=some z):Good X P η ι β ρ E hl (.indexAddr t x i) (q.out z):=by
 unfold qIdx at h;split at h
 ·rename_i e k ki m he hx hi;obtain⟨v,h2,h3⟩:=R.op hx;have h3:ι[k]? =some v:=h3;split at h
  ·rename_i n by_ zz ag hty;split at h
   ·rename_i tt j hf;split at h
    ·rename_i htn;split at h
     ·rename_i xs hxs;obtain rfl:=oi h;obtain⟨v',xs',a1,a2,a3⟩:=R.facts _ (factR_ok hf);rw[h3]at a1;obtain rfl:=oi a1;rw[leafAs hxs]at a2;cases oi a2;obtain⟨b,o,cs,b1,b2,b3⟩:=idxR a3 hz;have hnn:(tt.enc X).n=n:=by rw[enc_n];exact htn
      rw[hnn]at b3;refine⟨_,[.pointer (some ⟨b,o,none⟩)],⟨b,o,?_,rfl⟩,rfl,fun f hf=>?_,fun w _ d ty pos af g=>Q_idx b3 (sliceE_ok he) (tyI_ok hty) h2 (R.leaf hi)⟩
      ·rw[←R.na];simp
      obtain rfl:=List.mem_singleton.1 hf;exact⟨b,o,z,cs,by rw[←R.na];simp,by simp,b1,b2⟩
     cases h
    cases h
   split at h
   ·rename_i tt j hf;split at h
    ·rename_i htn;split at h
     ·rename_i xs hxs;obtain rfl:=oi h;obtain⟨jj,v',c,xs',a0,a1,a2,a3⟩:=heapA_ok hf R.heap;rw[h3]at a1;obtain rfl:=oi a1;rw[leafAs hxs]at a2;cases oi a2;rw[←enc_n X tt]at a0;obtain⟨b,o,b1,b2,b3⟩:=arr_at (by rw[enc_n];exact htn.2) hok0 a0 a3 hz;rw[enc_n]at b1;refine⟨_,[.pointer (some ⟨b,o,none⟩)],⟨b,o,?_,rfl⟩,rfl,fun f hf=>?_,fun w _ d ty pos af g=>Q_idx (htn.1▸b1) (sliceE_ok he) (tyI_ok hty) h2 (R.leaf hi)⟩
      ·rw[←R.na];simp
      obtain rfl:=List.mem_singleton.1 hf;refine⟨v,b,o,xs,z,ki,m,by rw[←R.na];simp,get_app _ h3,?_,b1,get_app _ (leafAs hxs),by simp,hz⟩;rw[List.getElem?_append_right Om];simp
     cases h
    cases h
   cases h
  cases h
 cases h
theorem idxOk_at{v:Value}{m:Int}{n b o b' o':Nat}(h:IdxOk v m n b o)(h':IdxOk v m n b' o'):b=b'∧o=o':=by
 obtain⟨a0,len,cap,rfl,_,_,rfl⟩:=h;obtain⟨a1,len',cap',e,_,_,rfl⟩:=h';cases e;exact⟨rfl,rfl⟩
theorem atLeaf_ok(R:Rel X η ι β st ρ E hl){w0:World}(hok0:Ok w0 ρ hl){k:Nat}{t:Tc}{i:Nat}(h:atLeaf st k=some (t,i)):
 ∃b a x cs,ι[k]? =some (.pointer (some ⟨b,a,none⟩))∧η[i]? =some ⟨t,x⟩∧(t.enc X).rd ρ x cs∧ ∀w,Ok w ρ hl→cellsAt (hv w) b a cs:=by
 unfold atLeaf at h;split at h
 ·rename_i p hf;obtain rfl:=oi h;obtain⟨b,a,x,cs,a1,a2,a3,a4⟩:=R.facts _ (factV_ok hf);exact⟨b,a,x,cs,a1,a2,a3,fun w hok=>a4.up hok.view⟩
 split at h
 ·rename_i hh t0 m i0 x0 hf;obtain⟨v,b,o,xs,y,kk,mm,h1,h2,h3,h4,h5,h6,h7⟩:=R.facts _ (factE_ok hf);split at h
  ·rename_i t' i' hA;split at h
   ·rename_i hc;obtain⟨rfl,rfl,hpos⟩:=hc;simp only[Option.some.injEq,Prod.mk.injEq]at h;obtain⟨rfl,rfl⟩:=h;obtain⟨jj,v',c,xs',a0,a1,a2,a3⟩:=heapA_ok hA R.heap;rw[h2]at a1;obtain rfl:=oi a1;rw[h5]at a2;cases oi a2;rw[←enc_n X t']at a0;obtain⟨b',o',b1,b2,b3⟩:=arr_at (by rw[enc_n];exact hpos) hok0 a0 a3 h7;rw[enc_n]at b1;obtain⟨rfl,rfl⟩:=idxOk_at h4 b1;exact⟨b,o,y,_,h1,h6,b2,b3⟩
   cases h
  cases h
 cases h
theorem qLoad_ok(R:Rel X η ι β st ρ E hl){w0:World}(hok0:Ok w0 ρ hl){T:TypeId}{x:Operand}{q:QR}(h:qLoad P st η T x=some q){z:q.t.den}:Good X P η ι β ρ E hl (.load T x) (q.out z):=by
 unfold qLoad at h;split at h
 ·rename_i k o n by_ zz ag hx hty;split at h
  ·rename_i t i hf;split at h
   ·rename_i y hy;split at h
    ·rename_i hlen;obtain⟨v,hv,rfl⟩:=Option.map_eq_some_iff.1 h;obtain⟨u,h2,b,a,h3,rfl⟩:=R.op hx;obtain⟨b',a',x',cs,a1,a2,a3,a4⟩:=atLeaf_ok R hok0 hf;rw[h3]at a1;cases oi a1;rw[leafAs hy]at a2;cases oi a2;obtain⟨κ,b1,b2,b3⟩:=openT_ok (X:=X) (β:=β) (ρ:=ρ) t (η:=η) R.na a3;have hcl:=b2.len;obtain⟨c1,c2⟩:=loadV_ok (X:=X) (β:=β) (η:=η++(openT st.na t y η).2.1) (ι:=ι++κ) hv ((b2.drop o).take n);have hul:((cs.drop o).take n).length=n:=by simp;omega
     refine⟨_,κ,c1,?_,b3,fun w hok d ty pos af g=>Q_ld ((a4 w hok).part o n) (tyI_ok hty) hul (fun h=>hul▸c2 h) h2 rfl⟩;show κ.length=(openT st.na t y η).2.2.2-st.na;have:=R.na;omega
    cases h
   cases h
  cases h
 ·rename_i b o n by_ zz ag hx hty;split at h
  ·rename_i l hB;split at h
   ·rename_i hlen;obtain⟨v,hv,rfl⟩:=Option.map_eq_some_iff.1 h;obtain⟨u,h2,blk,h3,rfl⟩:=R.op hx;obtain⟨j,blk',vs,a0,a1,a2⟩:=heapB_ok hB R.heap;rw[h3]at a1;cases oi a1;have hcl:=a2.len;obtain⟨c1,c2⟩:=loadV_ok (X:=X) (β:=β) (η:=η) (ι:=ι) hv ((a2.drop o).take n);have hul:((vs.drop o).take n).length=n:=by simp;omega
    exact good_same c1 fun w hok d ty pos af g=>Q_ldB hok a0 (tyI_ok hty) h2 rfl hul (fun h=>hul▸c2 h) rfl
   cases h
  cases h
 cases h
theorem qPick_ok(R:Rel X η ι β st ρ E hl){c a b:Operand}{q:QR}(h:qPick st η c a b=some q){z:q.t.den}:Good X P η ι β ρ E hl (.pick c a b) (q.out z):=by
 have hT:ev E c=some (.bool true)→(st.op a).map (fun v=>tot {v:=v})=some q→Good X P η ι β ρ E hl (.pick c a b) (q.out z):=fun hc h=>by
  obtain⟨v,h1,rfl⟩:=Option.map_eq_some_iff.1 h;obtain⟨u,h2,h3⟩:=R.op h1;exact good_same h3 fun w _ d ty pos af g=>Q_pickT hc h2
 have hF:ev E c=some (.bool false)→(st.op b).map (fun v=>tot {v:=v})=some q→Good X P η ι β ρ E hl (.pick c a b) (q.out z):=fun hc h=>by
  obtain⟨v,h1,rfl⟩:=Option.map_eq_some_iff.1 h;obtain⟨u,h2,h3⟩:=R.op h1;exact good_same h3 fun w _ d ty pos af g=>Q_pickF hc h2
 unfold qPick at h;split at h
 ·rename_i i hi;obtain⟨u,h1,l,h2,rfl⟩:=R.op hi;split at h
  ·rename_i j hf;have hm:=R.kn _ (List.mem_of_find?_eq_some hf);have hj:Nat.beq j i=true:=by have:=List.find?_some hf;simpa using this
   obtain rfl:=beq_eqN hj;rw[hm]at h2;obtain rfl:=oi h2;exact hT h1 h
  ·rename_i j hf;have hm:=R.kn _ (List.mem_of_find?_eq_some hf);have hj:Nat.beq j i=true:=by have:=List.find?_some hf;simpa using this
   obtain rfl:=beq_eqN hj;rw[hm]at h2;obtain rfl:=oi h2;exact hF h1 h
  cases h
 ·rename_i hi;obtain⟨u,h1,h2⟩:=R.op hi;obtain rfl:u= .bool true:=h2;exact hT h1 h
 ·rename_i hi;obtain⟨u,h1,h2⟩:=R.op hi;obtain rfl:u= .bool false:=h2;exact hF h1 h
 cases h
theorem globC{x:Operand}{g:Nat}(h:isGlob x=some g):x= .global g:=by
 unfold isGlob at h;split at h
 ·obtain rfl:=oi h;rfl
 cases h
theorem constI_ok{v:Option VX}{c:Int}(h:constI v=some c): ∃k,v=some (.one (.cst (.int k c))):=by
 unfold constI at h;split at h
 ·rename_i k c';obtain rfl:=oi h;exact⟨k,rfl⟩
 cases h
theorem qIdxB_ok(R:Rel X η ι β st ρ E hl){t:TypeId}{x i:Operand}{q:QR}(h:qIdxB P st η t x i=some q){z:q.t.den}(hz:q.o=some z):Good X P η ι β ρ E hl (.indexAddr t x i) (q.out z):=by
 unfold qIdxB at h;split at h
 ·rename_i N e b o kk m he hx hi;obtain⟨u,h2,blk,h3,rfl⟩:=R.op hx;have ht:=arrayE_ok he;split at h
  ·rename_i n by_ zz ag c hty hc;split at h
   ·rename_i hcc;obtain rfl:=oi h;obtain⟨k',hk⟩:=constI_ok hc
    have hm:m=c:=by
     rw[hk]at hi;have hi:some (⟨.int k',c⟩:Leaf)=some ⟨.int kk,m⟩:=hi;cases oi hi;rfl
    subst hm;exact good_same (a:= .one (.ptr b (o+m.toNat*n))) (v:= .pointer (some ⟨blk,o+m.toNat*n,none⟩)) ⟨blk,h3,rfl⟩ fun w _ d ty pos af g=>Q_idxA hcc.1 hcc.2 ht (tyI_ok hty) h2 (R.leaf hi)
   cases h
  ·rename_i n by_ zz ag hty hc;split at h
   ·rename_i k cs hk hB;split at h
    ·rename_i hcc;obtain⟨rfl,hlen⟩:=hcc;split at h
     ·rename_i xs hxs;obtain rfl:=oi h;obtain⟨j,blk',vs,_,a1,a2⟩:=heapB_ok hB R.heap;rw[h3]at a1;cases oi a1
      have hx1:xs.length=N:=by
       have e1:=intsL_R hxs ((a2.drop o).take N);have e2:=((a2.drop o).take N).len;rw[hlen]at e2;rw[e1]at e2;simpa using e2
      have hb:=idx_lt hx1 (hz:idx xs m=some z);refine⟨_,[],⟨blk,kk,m,h3,?_,rfl⟩,rfl,fun f hf=>?_,fun w _ d ty pos af g=>Q_idxA hb.1 hb.2 ht (tyI_ok hty) h2 (R.leaf hi)⟩
      ·rw[List.getElem?_append_right Om];simp
      obtain rfl:=List.mem_singleton.1 hf;refine⟨kk,m,xs,z,?_,intsL_up _ hxs,hz,?_⟩
      ·rw[List.getElem?_append_right Om];simp
      simp
     cases h
    cases h
   cases h
  cases h
 cases h
theorem rdL_of{k:IntKind}{xs:LI}{us:List Value}(h:us=xs.map (.int k)):rdL (eI k) ρ xs us:=h▸rdL_ints k ρ xs
theorem qIndexA_ok(R:Rel X η ι β st ρ E hl){t:TypeId}{x i:Operand}{q:QR}(h:qIndexA P st η t x i=some q){z:q.t.den}(hz:q.o=some z):Good X P η ι β ρ E hl (.index t x i) (q.out z):=by
 unfold qIndexA at h;split at h
 ·rename_i N e l kk m he hx hi;obtain⟨u,h2,us,h3,rfl⟩:=R.op hx;have ht:=arrayE_ok he;split at h
  ·rename_i k n by_ zz ag hk hty;split at h
   ·rename_i hcc;obtain⟨rfl,rfl,hl⟩:=hcc;split at h
    ·rename_i xs hxs;have e1:=intsL_R hxs h3
     have e3:xs.length=N:=by
      have:=h3.len;rw[e1,List.length_map]at this;omega
     split at h
     ·rename_i c hc;split at h
      ·rename_i hcc;obtain⟨y,hy,rfl⟩:=Option.map_eq_some_iff.1 h;obtain⟨k',hk'⟩:=constI_ok hc
       have hm:m=c:=by
        rw[hk']at hi;have hi:some (⟨.int k',c⟩:Leaf)=some ⟨.int kk,m⟩:=hi;cases oi hi;rfl
       subst hm;exact good_leaf fun w _ d ty pos af g=>Q_ixI (rdL_of (ρ:=ρ) e1) e3 (by unfold idx;rw[if_pos hcc.1];exact hy) ht h2 (R.leaf hi) (tyI_ok hty) rfl
      cases h
     obtain rfl:=oi h;exact good_leaf fun w _ d ty pos af g=>Q_ixI (rdL_of (ρ:=ρ) e1) e3 hz ht h2 (R.leaf hi) (tyI_ok hty) rfl
    cases h
   cases h
  cases h
 cases h
theorem qBinA_ok(R:Rel X η ι β st ρ E hl){op:BinOp}{t t':TypeId}{x y:Operand}{q:QR}(h:qBinA P st η op t x y=some q){z:q.t.den}:Good X P η ι β ρ E hl (.binOp op t x y t') (q.out z):=by
 unfold qBinA at h;split at h
 ·rename_i N e l l' he hx hy;obtain⟨u,h2,us,h3,rfl⟩:=R.op hx;obtain⟨u',h2',us',h3',rfl⟩:=R.op hy;have ht:=arrayE_ok he;split at h
  ·rename_i k n by_ zz ag hk hty;split at h
   ·rename_i hcc;obtain⟨rfl,rfl,hl,hl',hg⟩:=hcc;split at h
    ·rename_i xs ys hxs hys;have e1:=intsL_R hxs h3;have e2:=intsL_R hys h3';have e3:xs.length=N:=by have:=h3.len;rw[e1,List.length_map]at this;omega
     have e4:ys.length=N:=by have:=h3'.len;rw[e2,List.length_map]at this;omega
     split at h
     ·obtain rfl:=oi h;exact good_leaf fun w _ d ty pos af g=>Q_eqlA (ρ:=ρ) ht (tyI_ok hty) hg (intK_ok hk) (rdL_of e1) e3 (rdL_of e2) e4 h2 h2'
     ·obtain rfl:=oi h;exact good_leaf fun w _ d ty pos af g=>Q_neqA (ρ:=ρ) ht (tyI_ok hty) hg (intK_ok hk) (rdL_of e1) e3 (rdL_of e2) e4 h2 h2'
     cases h
    cases h
   cases h
  cases h
 cases h
theorem qLoadX_ok(R:Rel X η ι β st ρ E hl){T:TypeId}{x:Operand}{q:QR}(h:qLoadX P st η T x=some q){z:q.t.den}(hz:q.o=some z):Good X P η ι β ρ E hl (.load T x) (q.out z):=by
 unfold qLoadX at h;split at h
 ·rename_i b o m n by_ zz ag hx hty;obtain⟨u,h2,blk,kk,i,h3,h4,rfl⟩:=R.op hx;split at h
  ·rename_i l k x0 cs k' mm hf hB hm;split at h
   ·rename_i hcc;obtain⟨rfl,rfl,hlen⟩:=hcc;obtain⟨kk',i',xs,y,f1,f2,f3,f4⟩:=R.facts _ (factX_ok hf);rw[h4]at f1 hm;cases oi f1;cases oi hm;obtain⟨j,blk',vs,a0,a1,a2⟩:=heapB_ok hB R.heap;rw[h3]at a1;cases oi a1
    have ld: ∀{ys:LI} {v:Int},intsL η k ((cs.drop o).take l.length)=some ys→idx ys i=some v→ ∀w,Ok w ρ hl→ ∀d ty pos af g,Qv P E ⟨d,.load T x,ty,pos,af,g⟩ (.int k v) w:=fun{ys v} h5 h6 w hw d ty pos af g=>by
     have e1:=intsL_R h5 ((a2.drop o).take l.length);have e2:=((a2.drop o).take l.length).len;rw[hlen,e1,List.length_map]at e2;rw[←e2]at e1;exact Q_ldX hw a0 (tyI_ok hty) h2 e1 h6
    cases hb:beqC ((cs.drop o).take l.length) l with
    |true=>
      rw[hb]at h;obtain rfl:=oi h;have e:=beqC_ok hb;exact good_same (a:= .one (.lf x0)) (v:= .int k y) ⟨_,f4,rfl⟩ (ld (by rw[e];exact f2) f3)
    |false=>
      rw[hb]at h;simp only[cond_false]at h;split at h
      ·rename_i ys hys;obtain rfl:=oi h;exact good_leaf (ld hys hz)
      cases h
   cases h
  cases h
 cases h
end Go.Dn
namespace Go.Dn
open Go Go.Eng
set_option maxRecDepth 100000
section
variable {X:Amb}{P:Program}{η:List Leaf}{ι:List Value}{β:List Nat}{ρ:View}{st:St}{E:Env}{hl:List Hl}{C:Cx}{w:World}{hs:List Hl}
theorem one_of{u:Value}(h:u.oneCell'=true):u.cells= #[u]:=by
 cases u<;>first|rfl|simp[Value.oneCell']at h
theorem oneC_ok(R:Rel X η ι β st ρ E hl)(G:GErrs ρ X.T X.ids X.ge){w0:World}(hok:Ok w0 ρ hl){c:CX}{u:Value}(h:oneC st η c=true)(hr:c.R X η ι β u):u.oneCell'=true:=by
 cases c with
 |lf i=>
   obtain⟨l,h1,rfl⟩:=hr;simp only[oneC,h1]at h;obtain⟨t,x⟩:=l
   cases t<;>first
    |rfl
    |exact errV_one G x
    |cases h
 | «at» k=>
   have hr:ι[k]? =some u:=hr;simp only[oneC,Bool.or_eq_true,Option.isSome_iff_exists]at h;rcases h with⟨p,h⟩|⟨p,h⟩|h|⟨p,h⟩
   ·obtain⟨v,xs,a1,a2,a3⟩:=R.facts _ (factR_ok h);rw[hr]at a1;obtain rfl:=oi a1;exact a3.one
   ·obtain⟨j,v,cc,xs,a0,a1,a2,a3⟩:=heapA_ok h R.heap;rw[hr]at a1;obtain rfl:=oi a1;exact(arr_cells (hok.get a0)).2
   ·obtain⟨v,a1,a2⟩:=R.facts _ (factO_ok h);rw[hr]at a1;obtain rfl:=oi a1;exact a2
   obtain⟨j,v,hh,a0,a1,a2,a3⟩:=heapO_ok (s:=p.1) (i:=p.2) h R.heap;rw[hr]at a1;obtain rfl:=oi a1;exact a2
 |cst v=>
   obtain rfl:u=v:=hr;simp only[oneC]at h;split at h<;>first|rfl|cases h
 |ptr b o=>obtain⟨blk,_,rfl⟩:=hr;rfl
 |ep k o=>obtain⟨b,a,_,rfl⟩:=hr;rfl
 |pd b o m=>obtain⟨_,_,_,_,_,rfl⟩:=hr;rfl
 |er c=>
   obtain rfl:u=errV X.ids X.ge c:=hr;exact errV_one G c
theorem oneCs_ok(R:Rel X η ι β st ρ E hl)(G:GErrs ρ X.T X.ids X.ge){w0:World}(hok:Ok w0 ρ hl): ∀{cs:List CX} {us:List Value},cs.all (oneC st η)=true→cellsR X η ι β cs us→ ∀u∈us,u.oneCell'=true
 | [],[],_,_,u,h=>nomatch h
 |c::cs,v::us,h,hr,u,hu=>by
   simp only[List.all_cons,Bool.and_eq_true]at h;rcases List.mem_cons.1 hu with rfl|hu
   ·exact oneC_ok R G hok h.1 hr.1
   exact oneCs_ok R G hok h.2 hr.2 u hu
 | [],_::_,_,h,_,_=>h.elim
 |_::_,[],_,h,_,_=>h.elim
theorem cells_ok(R:Rel X η ι β st ρ E hl)(G:GErrs ρ X.T X.ids X.ge){w0:World}(hok:Ok w0 ρ hl){v:VX}{u:Value}(h:v.cells.all (oneC st η)=true)(ht:noTup v=true)(hr:v.R X η ι β u): ∃us,u.cells=us.toArray∧cellsR X η ι β v.cells us∧ ∀x∈us,x.oneCell'=true:=by
 cases v with
 |one c=>
   have h1:oneC st η c=true:=by simpa[VX.cells]using h
   have h2:=oneC_ok R G hok h1 hr;exact⟨[u],one_of h2,⟨hr,trivial⟩,fun x hx=>by obtain rfl:=List.mem_singleton.1 hx;exact h2⟩
 |agg l=>
   obtain⟨us,h1,rfl⟩:=hr;exact⟨us,rfl,h1,oneCs_ok R G hok h h1⟩
 |tup l=>cases ht
 |fn f l=>cases ht
end
section
variable {X:Amb}{P:Program}{η:List Leaf}{ι:List Value}{β:List Nat}{ρ:View}{st:St}{E:Env}{hl:List Hl}{C:Cx}{w:World}{hs:List Hl}
theorem cstR: ∀(l:List Value),cellsR X η ι β (l.map CX.cst) l
 | []=>trivial
 |_::l=>⟨rfl,cstR l⟩
theorem setC_R{l cs:List CX}{vs us:List Value}(o:Nat)(h:cellsR X η ι β l vs)(h':cellsR X η ι β cs us):cellsR X η ι β (l.take o++cs++l.drop (o+cs.length)) (setC vs o us):=by
 unfold setC;rw[h'.len];exact((h.take o).app h').app (h.drop _)
theorem layP_ok(R:Rel X η ι β st ρ E hl)(G:GErrs ρ X.T X.ids X.ge){w:World}(hok:Ok w ρ hl){pl:List (Nat×Nat)}{N:Nat}: ∀{parts:List (Nat×Operand)} {l l':List CX} {us:List Value},layP st η pl N l parts=some l'→cellsR X η ι β l us→
 ∃vs ps,evP E parts=some vs∧partsOk pl N vs ps∧cellsR X η ι β l' (ps.foldl (fun acc p=>setC acc p.1 p.2) us)
 | [],l,l',us,h,hr=>by
   obtain rfl:=oi h;exact⟨[],[],rfl,trivial,hr⟩
 |(i,x)::r,l,l',us,h,hr=>by
   simp only[layP]at h;split at h
   ·rename_i v off n hx hp;split at h
    ·rename_i hc;obtain⟨⟨c1,c2⟩,c3,c4⟩:=hc;obtain⟨u,h1,h2⟩:=R.op hx;obtain⟨cs,a1,a2,a3⟩:=cells_ok R G hok c2 c1 h2;obtain⟨vs,ps,b1,b2,b3⟩:=layP_ok R G hok h (setC_R off hr a2);have hl:=a2.len;refine⟨(i,u)::vs,(off,cs)::ps,by simp[evP,h1,b1],⟨?_,a1,by omega,b2⟩,b3⟩;rw[hp];simp;omega
    cases h
   cases h
theorem qBuild_ok(R:Rel X η ι β st ρ E hl)(G:GErrs ρ X.T X.ids X.ge){w:World}(hok:Ok w ρ hl){T:TypeId}{parts:Array (Nat×Operand)}{l:List CX}(h:qBuild P st η T parts=some l):
 ∃us,cellsR X η ι β l us∧ ∀w d ty pos af g,Qv P E ⟨d,.build T parts,ty,pos,af,g⟩ (.agg us.toArray) w:=by
 unfold qBuild at h;split at h
 ·rename_i fs hT;split at h
  ·rename_i pl n by_ z ag hpl hty;obtain⟨vs,ps,h1,h2,h3⟩:=layP_ok R G hok h (cstR z.cells.toList);refine⟨_,h3,fun w d ty pos af g=>?_⟩;have:=Q_buildS (P:=P) (E:=E) (w:=w) (d:=d) (ty:=ty) (pos:=pos) (af:=af) (g:=g) (parts:=parts.toList) ⟨hT,hpl,n,by_,z,ag,tyI_ok hty,by simp⟩ h1 h2 rfl;simpa using this
  cases h
 ·rename_i N e hT;split at h
  ·rename_i n by_ z he0 hp hty he;obtain rfl:=oi h;refine⟨_,cstR z.cells.toList,fun w d ty pos af g=>?_⟩;obtain rfl:parts= #[]:=Array.toList_inj.1 (by simpa using hp);obtain⟨n',by',z',ag',he'⟩: ∃n' by' z' ag',tyI P e=some (n',by',z',ag'):=⟨_,_,_,_,he⟩;exact Q_build0 (tyI_ok hty) hT (tyI_ok he') Sm
  cases h
 cases h
theorem ones_ok(R:Rel X η ι β st ρ E hl): ∀{l:List Operand} {cs:List CX},ones st l=some cs→ ∃us,evs E l=some us∧cellsR X η ι β cs us
 | [],cs,h=>by obtain rfl:=oi h;exact⟨[],rfl,trivial⟩
 |x::l,cs,h=>by
   simp only[ones]at h;split at h
   ·rename_i c r h1 h2;obtain rfl:=oi h;obtain⟨u,a1,a2⟩:=R.op h1;obtain⟨us,b1,b2⟩:=ones_ok R h2;exact⟨u::us,by simp[evs,a1,b1],a2,b2⟩
   cases h
theorem quiet0_ok(R:Rel X η ι β st ρ E hl)(G:GErrs ρ X.T X.ids X.ge){w0:World}(hok0:Ok w0 ρ hl){op:Op}{q:QR}(h:quiet0 P X.ids st η op=some q){z:q.t.den}(hz:q.o=some z):Good X P η ι β ρ E hl op (q.out z):=by
 unfold quiet0 at h;split at h
 ·obtain⟨v,h1,rfl⟩:=Option.map_eq_some_iff.1 h;obtain⟨u,h2,h3⟩:=R.op h1;exact good_same h3 fun w _ d ty pos af g=>Q_move h2
 ·obtain⟨v,h1,rfl⟩:=Option.map_eq_some_iff.1 h;obtain⟨u,h2,h3⟩:=R.op h1;exact good_same h3 fun w _ d ty pos af g=>Q_assign h2
 ·exact qNil_ok R h
 ·exact qExtract_ok R h
 ·split at h
  ·rename_i q0 h0;obtain rfl:=oi h;exact konst_ok (fun{z} hz=>qBin_ok R G h0 hz) hz
  exact qBinA_ok R h
 ·obtain⟨q0,h0,rfl⟩:=Option.map_eq_some_iff.1 h;exact konst_ok (fun{z} _=>qUn_ok R h0) hz
 ·exact qConv_ok R h
 ·exact qCall_ok R h
 ·split at h
  ·rename_i q0 h0;obtain rfl:=oi h;exact qIdx_ok R hok0 h0 hz
  exact qIdxB_ok R h hz
 ·split at h
  ·rename_i q0 h0;obtain rfl:=oi h;exact qIndex_ok R h0 hz
  exact qIndexA_ok R h hz
 ·exact qSlice_ok R h hz
 ·exact qFieldAddr_ok R h
 ·exact qField_ok R h
 ·split at h
  ·rename_i g hg;obtain rfl:=globC hg;exact qGlob_ok G h
  split at h
  ·rename_i q0 h0;obtain rfl:=oi h;exact qLoad_ok R hok0 h0
  exact qLoadX_ok R h hz
 ·exact qPick_ok R h
 ·obtain⟨l,h1,rfl⟩:=Option.map_eq_some_iff.1 h;obtain⟨us,h2,h3⟩:=qBuild_ok R G hok0 h1;exact good_same (a:= .agg l) (v:= .agg us.toArray) ⟨us,h2,rfl⟩ fun w _ d ty pos af g=>h3 w d ty pos af g
 ·rename_i f fs cs;split at h
  ·rename_i hfs;obtain⟨l,h1,rfl⟩:=Option.map_eq_some_iff.1 h;obtain⟨us,h2,h3⟩:=ones_ok R h1;obtain rfl:fs= #[]:=Array.toList_inj.1 (by simpa using hfs);refine good_same (a:= .fn f l) (v:= .func (.func f) #[] us.toArray) ⟨us,h3,rfl⟩ fun w _ d ty pos af g=>?_;have:=Q_func (P:=P) (w:=w) (f:= .func f) (d:=d) (ty:=ty) (pos:=pos) (af:=af) (g:=g) h2;simpa using this
  cases h
 cases h
end
end Go.Dn
namespace Go.Dn
open Go Go.Eng
set_option maxRecDepth 100000
section
variable {X:Amb}{P:Program}{η:List Leaf}{ι:List Value}{β:List Nat}{ρ:View}{fs:List Fact}
theorem enc_flat: ∀{t:Tc} {ρ ρ':View} {x:t.den} {cs:List Value},t.flat=true→(t.enc X).rd ρ x cs→(t.enc X).rd ρ' x cs
 | .int _,_,_,_,_,_,h=>h
 | .bool,_,_,_,_,_,h=>h
 | .str,_,_,_,_,_,h=>h
 | .err,_,_,_,_,_,h=>h
 | .unit,_,_,_,_,_,h=>h
 | .nd,_,_,_,_,hf,_=>by cases hf
 | .list _,_,_,_,_,hf,_=>by cases hf
 | .pair a b,_,_,_,_,hf,h=>by
   simp only[Tc.flat,Bool.and_eq_true]at hf;obtain⟨c,d,rfl,h1,h2⟩:=h;exact⟨c,d,rfl,enc_flat hf.1 h1,enc_flat hf.2 h2⟩
theorem enc_det: ∀{t:Tc} {ρ ρ':View} {x:t.den} {c d:List Value},t.flat=true→(t.enc X).rd ρ x c→(t.enc X).rd ρ' x d→c=d
 | .int _,_,_,_,c,d,_,h,h'=>by obtain rfl:c= [_]:=h;obtain rfl:d= [_]:=h';rfl
 | .bool,_,_,_,c,d,_,h,h'=>by obtain rfl:c= [_]:=h;obtain rfl:d= [_]:=h';rfl
 | .str,_,_,_,c,d,_,h,h'=>by obtain rfl:c= [_]:=h;obtain rfl:d= [_]:=h';rfl
 | .err,_,_,_,c,d,_,h,h'=>by obtain rfl:c= [_]:=h.1;obtain rfl:d= [_]:=h'.1;rfl
 | .unit,_,_,_,c,d,_,h,h'=>by obtain rfl:c= []:=h;obtain rfl:d= []:=h';rfl
 | .nd,_,_,_,_,_,hf,_,_=>by cases hf
 | .list _,_,_,_,_,_,hf,_,_=>by cases hf
 | .pair a b,_,_,_,_,_,hf,h,h'=>by
   simp only[Tc.flat,Bool.and_eq_true]at hf;obtain⟨c,d,rfl,h1,h2⟩:=h;obtain⟨c',d',rfl,h1',h2'⟩:=h';rw[enc_det hf.1 h1 h1',enc_det hf.2 h2 h2']
theorem closeS_ok{t:Tc}{cs:List CX}{us:List Value}{x:t.den}(hr:cellsR X η ι β cs us)(h:closeS η t cs=some x):us= [lval X ⟨t,x⟩]:=by
 unfold closeS at h;split at h
 ·match us,hr with
  | [u],hr=>
    obtain⟨l,h1,h2⟩:=Option.bind_eq_some_iff.1 h;rw[CX.leaf_R h1 hr.1,as_some h2]
  |_::_::_,hr=>exact hr.2.elim
 cases h
theorem closeL_ok(hf: ∀f∈fs,f.R X η ι ρ){t:Tc}{cs:List CX}{us:List Value}{x:List t.den}(h:closeL fs η t cs=some x)(hr:cellsR X η ι β cs us): ∃v,us= [v]∧RdSl ρ (t.enc X) v x:=by
 unfold closeL at h;split at h
 ·rename_i k
  match us,hr with
  | [u],hr=>
    have hr:ι[k]? =some u:=hr.1;split at h
    ·rename_i t' i hk;split at h
     ·rename_i ht;subst ht;obtain⟨v,xs,a1,a2,a3⟩:=hf _ (factR_ok hk);rw[hr]at a1;obtain rfl:=oi a1;rw[leafAs h]at a2;cases oi a2;exact⟨u,rfl,a3⟩
     cases h
    cases h
  |_::_::_,hr=>exact hr.2.elim
 ·obtain rfl:=oi h
  match us,hr with
  | [u],hr=>
    obtain rfl:u= .slice none 0 0:=hr.1;exact⟨_,rfl,RdSl.nil⟩
  |_::_::_,hr=>exact hr.2.elim
 cases h
theorem close0_ok(G:GErrs ρ X.T X.ids X.ge)(hf: ∀f∈fs,f.R X η ι ρ): ∀(t:Tc) {cs:List CX} {us:List Value} {x:t.den},close0 fs η t cs=some x→cellsR X η ι β cs us→(t.enc X).rd ρ x us
 | .unit,cs,us,x,h,hr=>by
   simp only[close0]at h;split at h
   ·rename_i hc;rw[List.isEmpty_iff]at hc;subst hc
    match us,hr with
    | [],_=>rfl
   cases h
 | .int k,cs,us,x,h,hr=>closeS_ok hr h
 | .bool,cs,us,x,h,hr=>closeS_ok hr h
 | .str,cs,us,x,h,hr=>closeS_ok hr h
 | .err,cs,us,x,h,hr=>⟨closeS_ok hr h,errV_one G x⟩
 | .nd,cs,us,x,h,hr=>by
   simp only[close0]at h;cases h
 | .list t,cs,us,x,h,hr=>closeL_ok hf h hr
 | .pair a b,cs,us,x,h,hr=>by
   simp only[close0]at h;split at h
   ·rename_i y z h1 h2;obtain rfl:=oi h;exact⟨us.take a.n,us.drop a.n,(List.take_append_drop _ _).symm,close0_ok G hf a h1 (hr.take _),close0_ok G hf b h2 (hr.drop _)⟩
   cases h
theorem closeT_ok(G:GErrs ρ X.T X.ids X.ge)(hf: ∀f∈fs,f.R X η ι ρ): ∀(t:Tc) {cs:List CX} {us:List Value} {x:t.den},closeT fs η t cs=some x→cellsR X η ι β cs us→(t.enc X).rd ρ x us
 | .unit,cs,us,x,h,hr=>close0_ok G hf .unit h hr
 | .int k,cs,us,x,h,hr=>closeS_ok hr h
 | .bool,cs,us,x,h,hr=>closeS_ok hr h
 | .str,cs,us,x,h,hr=>closeS_ok hr h
 | .err,cs,us,x,h,hr=>⟨closeS_ok hr h,errV_one G x⟩
 | .nd,cs,us,x,h,hr=>by
   simp only[closeT]at h;obtain⟨p,h1,rfl⟩:=Option.map_eq_some_iff.1 h;exact eN_mk (close0_ok G hf .ndP h1 hr)
 | .list t,cs,us,x,h,hr=>closeL_ok hf h hr
 | .pair a b,cs,us,x,h,hr=>by
   simp only[closeT]at h;split at h
   ·rename_i y z h1 h2;obtain rfl:=oi h;exact⟨us.take a.n,us.drop a.n,(List.take_append_drop _ _).symm,closeT_ok G hf a h1 (hr.take _),closeT_ok G hf b h2 (hr.drop _)⟩
   cases h
theorem flat_of{t:Tc}(h:t.flat=true):Flat (t.enc X):=fun _ _ _ _ hr=>enc_flat h hr
end
section
variable {C:Cx}{w:World}{ρ:View}{α β:Type}{e:Enc α}{r:Enc β}{v:Value}{us cs:List Value}{xs:List (List α×β)}
theorem nsh_idx{j:Nat}{i:Int}{x:List α×β}(hok:Ok w ρ [NSH e r v us xs j])(hx:idx xs i=some x): ∃b o,IdxOk v i (1+r.n) b o:=by
 obtain⟨h0,hlt,hx'⟩:=idx_some hx;obtain⟨cs,h1,h2,h3,h4⟩:=hok.get (k:=0) rfl;have hl:=h4.len;have hn:(eP eH r).n=1+r.n:=rfl;have hz:(us.zip (xs.map (·.2))).length=xs.length:=by simp[h3]
 rw[hn,hz]at hl;rcases h1 with⟨rfl,rfl⟩|⟨b,o,len,cap,cur,T,rfl,k1,k2,k3,k4,k5⟩
 ·have:0<xs.length*(1+r.n):=Nat.mul_pos Om Om;simp at hl;omega
 rw[k1]at hl;have hll:len=xs.length:=Nat.eq_of_mul_eq_mul_right Om hl;exact⟨b,o+i.toNat*(1+r.n),o,len,cap,rfl,h0,by omega,rfl⟩
end
theorem ns_sh{α β:Type}{e:Enc α}{r:Enc β}{v:Value}{us:List Value}{xs:List (List α×β)}{h:View}(hp:(NS e r v us xs).P h):ShOk v xs.length:=by
 obtain⟨cs,h1,h2,h4⟩:=hp;have hl:=h4.len;have h3:=h2.len;have hn:(eP eH r).n=1+r.n:=rfl;have hz:(us.zip (xs.map (·.2))).length=xs.length:=by simp at h3 ⊢;omega
 rw[hn,hz]at hl;rcases h1 with⟨rfl,rfl⟩|⟨b,o,len,cap,cur,T,rfl,k1,k2,k3,k4,k5⟩
 ·have:xs.length=0:=by
   rcases Nat.eq_zero_or_pos xs.length with h|h
   ·exact h
   have:0<xs.length*(1+r.n):=Nat.mul_pos h Om;simp at hl;omega
  exact⟨none,0,by rw[this],.inl this⟩
 rw[k1]at hl;have hll:len=xs.length:=Nat.eq_of_mul_eq_mul_right Om hl;exact⟨_,cap,by rw[hll],.inr ⟨b,o,rfl⟩⟩
section
variable {X:Amb}{P:Program}{η:List Leaf}{ι:List Value}{β:List Nat}{ρ:View}{st:St}{E:Env}{hl:List Hl}
theorem subOk{w:World}(hok:Ok w ρ hl){j:Nat}{h:Hl}(hj:hl[j]? =some h):Ok w ρ [h]:=hok.subS (l:=[h]) fun x hx=>by rw[List.mem_singleton.1 hx];exact List.mem_of_getElem? hj
theorem arr_sh{α:Type}{en:Enc α}{xs:List α}{v:Value}{cs:List Value}(hn:0<en.n){h ρ:View}(hp:(Arr v en.n cs).P h)(hr:rdL en ρ xs cs):ShOk v xs.length:=by
 obtain⟨o,c,e⟩:=arr_len hn hp hr;rcases hp with⟨rfl,rfl⟩|⟨b,o',len,cap,cur,T,rfl,h1,_⟩
 ·have:=rdL.nil_of hn hr;subst this;exact⟨_,_,rfl,.inl rfl⟩
 exact⟨_,_,e,.inr ⟨b,o',by cases e;rfl⟩⟩
theorem qLenO_ok(R:Rel X η ι β st ρ E hl){t:TypeId}{x:Operand}{q:QR}(h:qLenO P st η x t=some q){z:q.t.den}:Good X P η ι β ρ E hl (.call ⟨.builtin .len, #[x], #[t]⟩) (q.out z):=by
 unfold qLenO at h;split at h
 ·rename_i e' k he hx;split at h
  ·rename_i e r g i hO;obtain⟨xs,hxs,rfl⟩:=Option.map_eq_some_iff.1 h;obtain⟨v,h2,h3⟩:=R.op hx;have h3:ι[k]? =some v:=h3;obtain⟨j,v',hh,a0,a1,a2,us,xs',a3,a4,a5,rfl⟩:=heapO_ok hO R.heap;rw[h3]at a1;obtain rfl:=oi a1;rw[leafAs hxs]at a4;cases oi a4;exact good_leaf fun w hok d ty pos af g=>ns_len hok a0 (sliceE_ok he) h2
  ·split at h
   ·rename_i t' j hS;obtain⟨xs,hxs,rfl⟩:=Option.map_eq_some_iff.1 h;obtain⟨v,h2,h3⟩:=R.op hx;have h3:ι[k]? =some v:=h3;obtain⟨v',xs',a1,a2,o,c,a3,_⟩:=R.facts _ (factS_ok hS);rw[h3]at a1;obtain rfl:=oi a1;rw[leafAs hxs]at a2;cases oi a2;exact good_leaf fun w hok d ty pos af g=>Q_lenI ⟨o,c,a3⟩ (sliceE_ok he) h2
   cases h
  cases h
 cases h
theorem qIdxO_ok(R:Rel X η ι β st ρ E hl){w0:World}(hok0:Ok w0 ρ hl){t:TypeId}{x i:Operand}{q:QR}(h:qIdxO P st η t x i=some q){z:q.t.den}(hz:q.o=some z):Good X P η ι β ρ E hl (.indexAddr t x i) (q.out z):=by
 unfold qIdxO at h;split at h
 ·rename_i e' k kk m he hx hi;obtain⟨v,h2,h3⟩:=R.op hx;have h3:ι[k]? =some v:=h3;split at h
  ·rename_i n by_ zz ag e r g j hty hO;split at h
   ·rename_i hn;obtain⟨xs,hxs,hq⟩:=Option.map_eq_some_iff.1 h;obtain⟨jj,v',hh,a0,a1,a2,us,xs',a3,a4,⟨a5,a6,a7⟩,rfl⟩:=heapO_ok hO R.heap;rw[h3]at a1;obtain rfl:=oi a1;rw[leafAs hxs]at a4;cases oi a4;rw[←enc_n X e]at a5
    have key: ∀{y:(Tc.pair (.list e) r).den},idx xs m=some y→ ∃b o,IdxOk v m (1+r.n) b o:=fun{y} hy=>by
     obtain⟨b,o,u,b1,_⟩:=ns_at a5 (subOk hok0 a0) (flat_of a7) hy;rw[enc_n]at b1;exact⟨b,o,b1⟩
    split at hq
    ·rename_i q0 hi2;subst hq;have hz:idx xs m=some z:=hz;obtain⟨b,o,b1⟩:=key hz;have hq0:η[q0]? =some ⟨.int kk,m⟩:=by rw[hi2]at hi;exact hi
     refine⟨_,[.pointer (some ⟨b,o,none⟩)],⟨b,o,?_,rfl⟩,rfl,fun f hf=>?_,fun w _ d ty pos af g=>Q_idx (hn▸b1) (sliceE_ok he) (tyI_ok hty) h2 (R.leaf hi)⟩
     ·rw[←R.na];simp
     obtain rfl:=List.mem_singleton.1 hf;exact⟨v,b,o,xs,z,kk,m,by rw[←R.na];simp,get_app _ h3,get_app _ hq0,b1,get_app _ (leafAs hxs),by simp,hz⟩
    subst hq;have hz:idx xs m=some z:=hz;obtain⟨b,o,b1⟩:=key hz;refine⟨_,[.pointer (some ⟨b,o,none⟩)],⟨b,o,?_,rfl⟩,rfl,fun f hf=>?_,fun w _ d ty pos af g=>Q_idx (hn▸b1) (sliceE_ok he) (tyI_ok hty) h2 (R.leaf hi)⟩
    ·rw[←R.na];simp
    obtain rfl:=List.mem_singleton.1 hf;refine⟨v,b,o,xs,z,kk,m,by rw[←R.na];simp,get_app _ h3,?_,b1,get_app _ (leafAs hxs),by simp,hz⟩;rw[List.getElem?_append_right Om];simp
   cases h
  ·rename_i n by_ zz ag hty hO;split at h
   ·rename_i t' j hS;split at h
    ·rename_i hn;obtain⟨xs,hxs,hq⟩:=Option.map_eq_some_iff.1 h;obtain⟨v',xs',a1,a2,a3⟩:=R.facts _ (factS_ok hS);rw[h3]at a1;obtain rfl:=oi a1;rw[leafAs hxs]at a2;cases oi a2
     have key: ∀{y:t'.den},idx xs m=some y→ ∃b o,IdxOk v m t'.n b o:=fun{y} hy=>by
      obtain⟨i0,i1,_⟩:=idx_some hy;obtain⟨o,c,rfl,ho⟩:=a3;rcases ho with h0|⟨b,a,rfl⟩
      ·omega
      exact⟨b,_,a,_,c,rfl,i0,by omega,rfl⟩
     split at hq
     ·rename_i q0 hi2;have hq0:η[q0]? =some ⟨.int kk,m⟩:=by rw[hi2]at hi;exact hi
      split at hq
      ·rename_i x0 hI;subst hq;obtain⟨k0,hk0⟩:=factI_ok hI;obtain⟨v0,b,o,xs0,y0,kk',mm',f1,f2,f3,f4,f5,f6,f7⟩:=R.facts _ hk0;rw[h3]at f2;obtain rfl:=oi f2;rw[hq0]at f3;cases oi f3;refine⟨_,[.pointer (some ⟨b,o,none⟩)],⟨b,o,?_,rfl⟩,rfl,fun f hf=>?_,fun w _ d ty pos af g=>Q_idx (hn▸f4) (sliceE_ok he) (tyI_ok hty) h2 (R.leaf hi)⟩
       ·rw[←R.na];simp
       obtain rfl:=List.mem_singleton.1 hf;exact⟨v,b,o,xs0,y0,kk,m,by rw[←R.na];simp,get_app _ h3,get_app _ hq0,f4,get_app _ f5,get_app _ f6,f7⟩
      subst hq;have hz:idx xs m=some z:=hz;obtain⟨b,o,b1⟩:=key hz;refine⟨_,[.pointer (some ⟨b,o,none⟩)],⟨b,o,?_,rfl⟩,rfl,fun f hf=>?_,fun w _ d ty pos af g=>Q_idx (hn▸b1) (sliceE_ok he) (tyI_ok hty) h2 (R.leaf hi)⟩
      ·rw[←R.na];simp
      obtain rfl:=List.mem_singleton.1 hf;exact⟨v,b,o,xs,z,kk,m,by rw[←R.na];simp,get_app _ h3,get_app _ hq0,b1,get_app _ (leafAs hxs),by simp,hz⟩
     subst hq;have hz:idx xs m=some z:=hz;obtain⟨b,o,b1⟩:=key hz;refine⟨_,[.pointer (some ⟨b,o,none⟩)],⟨b,o,?_,rfl⟩,rfl,fun f hf=>?_,fun w _ d ty pos af g=>Q_idx (hn▸b1) (sliceE_ok he) (tyI_ok hty) h2 (R.leaf hi)⟩
     ·rw[←R.na];simp
     obtain rfl:=List.mem_singleton.1 hf;refine⟨v,b,o,xs,z,kk,m,by rw[←R.na];simp,get_app _ h3,?_,b1,get_app _ (leafAs hxs),by simp,hz⟩;rw[List.getElem?_append_right Om];simp
    cases h
   cases h
  ·rename_i n by_ zz ag e r g m' x' j hty hO;split at h
   ·rename_i q0 hi2;split at h
    ·rename_i hn;obtain⟨rfl,hn⟩:=hn;obtain rfl:=oi h;have hq0:η[q0]? =some ⟨.int kk,m⟩:=by rw[hi2]at hi;exact hi
     obtain⟨jj,v',hh,a0,a1,a2,us,xs',kk',mm',y,a3,a4,a5,a6,a7,⟨a8,a9,a10⟩,rfl⟩:=heapO_ok hO R.heap;rw[h3]at a1;obtain rfl:=oi a1;rw[hq0]at a5;cases oi a5;obtain⟨b,o,b1⟩:=nsh_idx (subOk hok0 a0) a7;rw[enc_n]at b1;refine⟨_,[.pointer (some ⟨b,o,none⟩)],⟨b,o,?_,rfl⟩,rfl,fun f hf=>?_,fun w _ d ty pos af g=>Q_idx (hn▸b1) (sliceE_ok he) (tyI_ok hty) h2 (R.leaf hi)⟩
     ·rw[←R.na];simp
     obtain rfl:=List.mem_singleton.1 hf;exact⟨v,b,o,xs',y,kk,m,by rw[←R.na];simp,get_app _ h3,get_app _ hq0,b1,get_app _ a4,get_app _ a6,a7⟩
    cases h
   cases h
  cases h
 cases h
theorem qLoadO_ok(R:Rel X η ι β st ρ E hl){w0:World}(hok0:Ok w0 ρ hl){T:TypeId}{x:Operand}{q:QR}(h:qLoadO P st η T x=some q){z:q.t.den}:Good X P η ι β ρ E hl (.load T x) (q.out z):=by
 unfold qLoadO at h;split at h
 ·rename_i k o n by_ zz ag hx hty;split at h
  ·rename_i hh t m i x0 hf;split at h
   ·rename_i e r g i' hO;split at h
    ·rename_i hc;obtain⟨rfl,rfl⟩:=hc;split at h
     ·rename_i y hy;obtain⟨u,h2,b,a,h3,rfl⟩:=R.op hx;obtain⟨v0,b',o',xs0,y0,kk',mm',f1,f2,f3,f4,f5,f6,f7⟩:=R.facts _ (factE_ok hf);rw[h3]at f1;cases oi f1;rw[leafAs hy]at f6;cases oi f6;obtain⟨jj,v',hl1,a0,a1,a2,us,xs',a3,a4,⟨a5,a6,a7⟩,rfl⟩:=heapO_ok hO R.heap;rw[f2]at a1;obtain rfl:=oi a1;rw[f5]at a4;cases oi a4;rw[←enc_n X e]at a5;obtain⟨b1,o1,u,b2,b3,b4,b5⟩:=ns_at a5 (subOk hok0 a0) (flat_of a7) f7;rw[enc_n]at b2;obtain⟨rfl,rfl⟩:=idxOk_at f4 b2;split at h
      ·split at h
       ·rename_i hc;obtain⟨rfl,rfl⟩:=hc;obtain rfl:=oi h;refine⟨u,[u],?_,rfl,fun f hf=>?_,fun w hok d ty pos af g=>?_⟩
        ·show(ι++ [u])[st.na]? =some u;rw[←R.na];simp
        ·rcases List.mem_cons.1 hf with rfl|hf
         ·exact⟨us,u,kk',mm',xs0,y,get_app _ a3,by rw[←R.na];simp,get_app _ f3,b3,get_app _ f5,get_app _ (leafAs hy),f7,List.getElem?_concat_length ..⟩
         obtain rfl:=List.mem_singleton.1 hf;refine⟨u,y.1,by rw[←R.na];simp,List.getElem?_concat_length ..,?_⟩;obtain⟨_,_,k2,_⟩:=(subOk hok0 a0).get (k:=0) rfl;obtain⟨u',c',g1,_,g3,g4⟩:=fam_us k2 (idx_some f7).2.2;obtain rfl:=oi (g1.symm.trans b3);exact arr_sh a5 g3 g4
        obtain⟨rc,c1,c2⟩:=b4 w (subOk hok a0);exact Q_ld (cellsAt.left (c1:=[u]) c2) (tyI_ok hty) rfl (fun _=>rfl) h2 rfl
       cases h
      rename_i o2;split at h
      ·rename_i hlen;obtain⟨v,hv,rfl⟩:=Option.map_eq_some_iff.1 h;obtain⟨rc,c1,c2⟩:=b4 w0 (subOk hok0 a0);obtain⟨κ,d1,d2,d3⟩:=openT_ok (X:=X) (β:=β) (ρ:=ρ) r (η:=η) R.na ((r.enc X).up (nov_le ρ) c1);have hcl:=d2.len;obtain⟨e1,e2⟩:=loadV_ok (X:=X) (β:=β) (η:=η++(openT st.na r y.2 η).2.1) (ι:=ι++κ) hv ((d2.drop o2).take n);have hul:((rc.drop o2).take n).length=n:=by simp;omega
       refine⟨_,κ,e1,?_,d3,fun w hok d ty pos af g=>?_⟩
       ·show κ.length=(openT st.na r y.2 η).2.2.2-st.na;have:=R.na;omega
       obtain⟨rc',c3,c4⟩:=b4 w (subOk hok a0);obtain rfl:=enc_det a7 c1 c3;exact Q_ld (c4.part (o2+1) n) (tyI_ok hty) hul (fun h=>hul▸e2 h) h2 rfl
      cases h
     cases h
    cases h
   cases h
  cases h
 cases h
theorem qLook_ok(R:Rel X η ι β st ρ E hl)(G:GErrs ρ X.T X.ids X.ge){T:TypeId}{x y:Operand}{q:QR}(h:qLook P st η T x y=some q){z:q.t.den}(hz:q.o=some z):Good X P η ι β ρ E hl (.lookup T x y true) (q.out z):=by
 unfold qLook at h;split at h
 ·rename_i kt vt k s hm hx hy;split at h
  ·rename_i hks;split at h
   ·rename_i t i n by_ za hO hty;split at h
    ·rename_i m z0 hi h0;obtain rfl:=oi h;have hz:some ((mget m s).getD z0)=some z:=hz;obtain rfl:=oi hz;obtain⟨v,h2,h3⟩:=R.op hx;have h3:ι[k]? =some v:=h3;obtain⟨jj,v',hl1,a0,a1,a2,rr,c,m',rfl,a3,a4,rfl⟩:=heapO_ok hO R.heap;rw[h3]at a1;obtain rfl:=oi a1;rw[leafAs hi]at a3;cases oi a3;have hz0:(t.enc X).rd ρ z0 za.toList:=closeT_ok (η:=[]) (ι:=[]) (β:=[]) (fs:=[]) G (fun _ h=>nomatch h) t h0 (cstR _);obtain⟨cs,c1,c2,c3⟩:=MR.get s hz0 a4;obtain⟨κ,d1,d2,d3⟩:=openT_ok (X:=X) (β:=β) (ρ:=ρ) t (η:=η) R.na c3;have e1:(Value.agg za.toList.toArray)= .agg za:=by simp
     rw[e1]at c1;refine⟨.tuple [.agg cs.toArray,.bool (mget m s).isSome].toArray,κ,⟨[.agg cs.toArray,.bool (mget m s).isSome],⟨⟨cs,?_,rfl⟩,⟨⟨.bool,(mget m s).isSome⟩,?_,rfl⟩,trivial⟩,rfl⟩,?_,fun f hf=>?_,fun w hok d ty pos af g=>?_⟩
     ·have:=d2.up [⟨.bool,(mget m s).isSome⟩] [] [];rwa[List.append_nil,List.append_nil,List.append_assoc]at this
     ·show(η++((openT st.na t _ η).2.1++_))[_]? =_;rw[←List.append_assoc,←List.length_append];simp
     ·show κ.length=(openT st.na t _ η).2.2.2-st.na;have:=R.na;omega
     ·have:=(d3 f hf).up [⟨.bool,(mget m s).isSome⟩] [] (View.le_refl ρ);rwa[List.append_nil,List.append_assoc]at this
     have:=Q_look (P:=P) (E:=E) (d:=d) (ty:=ty) (pos:=pos) (af:=af) (g:=g) (zp:=Value.agg za) hok a0 hm (kOk_S (und_str hks)) trivial (tyI_ok hty) rfl h2 (R.leaf hy);rw[c1,c2]at this;exact this
    cases h
   cases h
  cases h
 cases h
theorem quietO_ok(R:Rel X η ι β st ρ E hl)(G:GErrs ρ X.T X.ids X.ge){w0:World}(hok0:Ok w0 ρ hl){op:Op}{q:QR}(h:quietO P st η op=some q){z:q.t.den}(hz:q.o=some z):Good X P η ι β ρ E hl op (q.out z):=by
 unfold quietO at h;split at h
 ·rename_i c;obtain⟨callee,args,tys⟩:=c;simp only at h;split at h
  ·rename_i x t h1 h2;obtain rfl:=arr1 h1;obtain rfl:=arr1 h2;exact qLenO_ok R h
  cases h
 ·exact qIdxO_ok R hok0 h hz
 ·exact qLoadO_ok R hok0 h
 ·exact qLook_ok R G h hz
 cases h
theorem quiet_ok(R:Rel X η ι β st ρ E hl)(G:GErrs ρ X.T X.ids X.ge){w0:World}(hok0:Ok w0 ρ hl){op:Op}{q:QR}(h:quiet P X.ids st η op=some q){z:q.t.den}(hz:q.o=some z):Good X P η ι β ρ E hl op (q.out z):=by
 unfold quiet at h;split at h
 ·rename_i q0 h0;obtain rfl:=oi h;exact quiet0_ok R G hok0 h0 hz
 exact quietO_ok R G hok0 h hz
end
end Go.Dn
namespace Go.Dn
open Go Go.Eng
set_option maxRecDepth 100000
inductive CP where
 |same (c:CX)
 |leaf (t:Tc)
 |sl (t:Tc)
 |own (t:Tc)
 |rf (i:Nat)
 |pt (i o:Nat)
 |ow (s:Ow)
 |ar (k:Nat) (t:Tc)
 |ao (k:Nat) (s:Ow)
inductive Sr where
 |slot (t i:Nat)
 |box (j i:Nat)
 |thru (s:Sr) (i:Nat)
inductive JI where
 |v (t:Nat) (ag:Bool) (l:List CP)
 |fn (t f:Nat) (l:List CP)
 |bx (s:Sr) (l:List CP)
 |kb (k:Nat) (l:List CP)
 |arr (k:Nat) (t:Tc)
 |keep (k:Nat) (t:Tc) (i:Nat)
 |aro (k:Nat) (s:Ow)
 |keepo (k:Nat) (s:Ow) (i:Nat)
structure Bs where
 nl:Nat
 na:Nat
 nb:Nat
 σ:CX→CX
 τ:Nat→Nat
 α:Nat→Nat
structure Lay where
 ts:List Tc:=[]
 fs:List Fact:=[]
 hx:List HX:=[]
 na:Nat:=0
 nb:Nat:=0
 env:List (Nat×VX):=[]
def layC(b:Bs)(L:Lay):CP→Lay×CX
 | .same c=>(L,b.σ c)
 | .leaf t=>({L with ts:=L.ts++ [t]},.lf (b.nl+L.ts.length))
 | .sl t=>({L with ts:=L.ts++ [.list t],fs:=L.fs++ [.rs (b.na+L.na) t (b.nl+L.ts.length)],na:=L.na+1},.at (b.na+L.na))
 | .own t=>({L with ts:=L.ts++ [.list t],hx:=L.hx++ [.arr (b.na+L.na) t (b.nl+L.ts.length)],na:=L.na+1},.at (b.na+L.na))
 | .rf i=>(L,.at (b.na+i))
 | .pt i o=>(L,.ptr (b.nb+i) o)
 | .ow s=>({L with ts:=L.ts++ [s.tc],hx:=L.hx++ [.ow (b.na+L.na) (s.sg (b.na+L.na+1)) (b.nl+L.ts.length)],na:=L.na+2},.at (b.na+L.na))
 | .ar k t=>({L with ts:=L.ts++ [.list t],hx:=L.hx++ [.arr (b.α k) t (b.nl+L.ts.length)]},.at (b.α k))
 | .ao k s=>({L with ts:=L.ts++ [s.tc],hx:=L.hx++ [.ow (b.α k) (s.sg (b.na+L.na)) (b.nl+L.ts.length)],na:=L.na+1},.at (b.α k))
def layL(b:Bs)(L:Lay):List CP→Lay×List CX
 | []=>(L,[])
 |p::l=>((layL b (layC b L p).1 l).1,(layC b L p).2::(layL b (layC b L p).1 l).2)
def mkVX(ag:Bool)(l:List CX):VX:=match ag,l with
 |false,[c]=> .one c
 |_,l=> .agg l
def layI(b:Bs)(L:Lay):List JI→Lay
 | []=>L
 | .v t ag p::l=>layI b {(layL b L p).1 with env:=L.env++ [(t,mkVX ag (layL b L p).2)]} l
 | .fn t f p::l=>layI b {(layL b L p).1 with env:=L.env++ [(t,.fn f (layL b L p).2)]} l
 | .bx _ p::l=>layI b {(layL b L p).1 with hx:=(layL b L p).1.hx++ [.box (b.nb+L.nb) (layL b L p).2],nb:=L.nb+1} l
 | .kb k p::l=>layI b {(layL b L p).1 with hx:=(layL b L p).1.hx++ [.box (b.τ k) (layL b L p).2]} l
 | .arr k t::l=>layI b {L with ts:=L.ts++ [.list t],hx:=L.hx++ [.arr (b.α k) t (b.nl+L.ts.length)]} l
 | .keep k t i::l=>layI b {L with hx:=L.hx++ [.arr k t i]} l
 | .aro k s::l=>layI b {L with ts:=L.ts++ [s.tc],hx:=L.hx++ [.ow (b.α k) (s.sg (b.na+L.na)) (b.nl+L.ts.length)],na:=L.na+1} l
 | .keepo k s i::l=>layI b {L with hx:=L.hx++ [.ow k s i]} l
def Ow.gOk(ba:Nat):Ow→Bool
 | .ns _ _ g=>Nat.blt g ba
 |_=>true
def sameC(bl ba bb:Nat):CX→CX→Bool
 | .lf i,.lf j=>Nat.beq i j&&Nat.blt i bl
 | .at i,.at j=>Nat.beq i j&&Nat.blt i ba
 | .ptr i o,.ptr j o'=>Nat.beq i j&&Nat.blt i bb&&Nat.beq o o'
 | .ep i o,.ep j o'=>Nat.beq i j&&Nat.blt i ba&&Nat.beq o o'
 | .cst v,.cst u=>eqV v u
 | .er a,.er b=>decide (a=b)
 |_,_=>false
def takeA(k:Nat):List HX→Option (Tc×Nat×List HX)
 | []=>none
 | .arr j t i::r=>bif Nat.beq j k then some (t,i,r)else(takeA k r).map fun p=>(p.1,p.2.1,.arr j t i::p.2.2)
 | .box b l::r=>(takeA k r).map fun p=>(p.1,p.2.1,.box b l::p.2.2)
 | .ow j s i::r=>(takeA k r).map fun p=>(p.1,p.2.1,.ow j s i::p.2.2)
def takeB(k:Nat):List HX→Option (List CX×List HX)
 | []=>none
 | .box b l::r=>bif Nat.beq b k then some (l,r)else(takeB k r).map fun p=>(p.1,.box b l::p.2)
 | .arr j t i::r=>(takeB k r).map fun p=>(p.1,.arr j t i::p.2)
 | .ow j s i::r=>(takeB k r).map fun p=>(p.1,.ow j s i::p.2)
def takeO(k:Nat):List HX→Option (Ow×Nat×List HX)
 | []=>none
 | .ow j s i::r=>bif Nat.beq j k then some (s,i,r)else(takeO k r).map fun p=>(p.1,p.2.1,.ow j s i::p.2.2)
 | .box b l::r=>(takeO k r).map fun p=>(p.1,p.2.1,.box b l::p.2.2)
 | .arr j t i::r=>(takeO k r).map fun p=>(p.1,p.2.1,.arr j t i::p.2.2)
structure Mt where
 ls:List Leaf:=[]
 lc:List CX:=[]
 hp:List HX
 ats:List CX:=[]
 bs:List Nat:=[]
 bc:List (List CX):=[]
def VX.shape:VX→Bool→Option (List CX)
 | .one c,false=>some [c]
 | .agg l,true=>some l
 |_,_=>none
section
variable (same:CX→CX→Bool)(η:List Leaf)(fs:List Fact)
def matC(qa:Nat→Bool)(M:Mt):CP→CX→Option Mt
 | .same c,d=>if same c d=true then some M else none
 | .leaf t,d=>match(d.leaf η).bind fun l=>l.as t with
   |some x=>some {M with ls:=M.ls++ [⟨t,x⟩],lc:=M.lc++ [d]}
   |none=>none
 | .sl t,.at k=>match factR k fs with
   |some (t',i)=>if t'=t then match(η[i]?).bind fun l=>l.as (.list t)with
    |some xs=>some {M with ls:=M.ls++ [⟨.list t,xs⟩],lc:=M.lc++ [.cst undef],ats:=M.ats++ [.at k]}
    |none=>none
     else none
   |none=>none
 | .sl t,.cst (.slice none 0 0)=>some {M with ls:=M.ls++ [⟨.list t,([]:List t.den)⟩],lc:=M.lc++ [.cst undef],ats:=M.ats++ [.cst (.slice none 0 0)]}
 | .own t,.at k=>match takeA k M.hp with
   |some (t',i,hp')=>if t'=t then match(η[i]?).bind fun l=>l.as (.list t)with
    |some xs=>some {M with ls:=M.ls++ [⟨.list t,xs⟩],lc:=M.lc++ [.cst undef],ats:=M.ats++ [.at k],hp:=hp'}
    |none=>none
     else none
   |none=>none
 | .own t,.cst (.slice none 0 0)=>some {M with ls:=M.ls++ [⟨.list t,([]:List t.den)⟩],lc:=M.lc++ [.cst undef],ats:=M.ats++ [.cst (.slice none 0 0)]}
 | .ow s,.at k=>match takeO k M.hp with
   |some (s',i,hp')=>if s'.sg 0=s∧s.pat=true then match(η[i]?).bind fun l=>l.as s.tc with
    |some x=>some {M with ls:=M.ls++ [⟨s.tc,x⟩],lc:=M.lc++ [.cst undef],ats:=M.ats++ [.at k,s'.gh],hp:=hp'}
    |none=>none
     else none
   |none=>none
 | .ow (.ns e r g),.cst (.slice none 0 0)=>if(Ow.ns e r g).pat=true then some {M with ls:=M.ls++ [⟨(Ow.ns e r g).tc,([]:List (Tc.pair (.list e) r).den)⟩],lc:=M.lc++ [.cst undef],ats:=M.ats++ [.cst (.slice none 0 0),.cst (.agg #[])]}else none
 | .ar k t,.at k'=>if(Nat.beq k k'&&qa k)=true then match takeA k M.hp with
  |some (t',i,hp')=>if t'=t then match(η[i]?).bind fun l=>l.as (.list t)with
   |some xs=>some {M with ls:=M.ls++ [⟨.list t,xs⟩],lc:=M.lc++ [.cst undef],hp:=hp'}
   |none=>none
    else none
  |none=>none
   else none
 | .ao k s,.at k'=>if(Nat.beq k k'&&qa k)=true then match takeO k M.hp with
  |some (s',i,hp')=>if s'.sg 0=s∧s.pat=true then match(η[i]?).bind fun l=>l.as s.tc with
   |some x=>some {M with ls:=M.ls++ [⟨s.tc,x⟩],lc:=M.lc++ [.cst undef],ats:=M.ats++ [s'.gh],hp:=hp'}
   |none=>none
    else none
  |none=>none
   else none
 | .rf i,.at k=>match M.ats[i]? with
   |some (.at k')=>if Nat.beq k k'=true then some M else none
   |_=>none
 | .pt i o,.ptr b o'=>match M.bs[i]? with
   |some b'=>if(Nat.beq b b'&&Nat.beq o o')=true then some M else none
   |none=>none
 |_,_=>none
def matL(qa:Nat→Bool)(M:Mt):List CP→List CX→Option Mt
 | [],[]=>some M
 |p::l,c::cs=>(matC same η fs qa M p c).bind fun M=>matL qa M l cs
 |_,_=>none
variable (get:Nat→Option VX)(bl ba bb:Nat)(qa:Nat→Bool)
def findB(M:Mt):Sr→Option Nat
 | .slot t i=>match((get t).map VX.cells).bind fun l=>l[i]? with
   |some (.ptr b _)=>some b
   |_=>none
 | .box j i=>match(M.bc[j]?).bind fun l=>l[i]? with
   |some (.ptr b _)=>some b
   |_=>none
 | .thru s i=>match((findB M s).bind fun b=>heapB b M.hp).bind fun l=>l[i]? with
   |some (.ptr b _)=>some b
   |_=>none
def matI(M:Mt):List JI→Option Mt
 | []=>some M
 | .v t ag p::l=>match(get t).bind fun v=>v.shape ag with
   |some cs=>(matL same η fs qa M p cs).bind fun M=>matI M l
   |none=>none
 | .fn t f p::l=>match get t with
   |some (.fn f' cs)=>if Nat.beq f f'=true then(matL same η fs qa M p cs).bind fun M=>matI M l else none
   |_=>none
 | .bx s p::l=>match findB get M s with
   |some b=>match takeB b M.hp with
     |some (cs,hp')=>(matL same η fs qa {M with hp:=hp'} p cs).bind fun M=>matI {M with bs:=M.bs++ [b],bc:=M.bc++ [cs]} l
     |none=>none
   |none=>none
 | .kb k p::l=>if Nat.blt k bb=true then match takeB k M.hp with
  |some (cs,hp')=>(matL same η fs qa {M with hp:=hp'} p cs).bind fun M=>matI M l
  |none=>none
   else none
 | .arr k t::l=>if qa k=true then match takeA k M.hp with
  |some (t',i,hp')=>if t'=t then match(η[i]?).bind fun l=>l.as (.list t)with
   |some xs=>matI {M with ls:=M.ls++ [⟨.list t,xs⟩],lc:=M.lc++ [.cst undef],hp:=hp'} l
   |none=>none
    else none
  |none=>none
   else none
 | .keep k t i::l=>if(Nat.blt k ba&&Nat.blt i bl)=true then match takeA k M.hp with
  |some (t',i',hp')=>if t'=t∧i'=i then matI {M with hp:=hp'} l else none
  |none=>none
   else none
 | .aro k s::l=>if qa k=true then match takeO k M.hp with
  |some (s',i,hp')=>if s'.sg 0=s∧s.pat=true then match(η[i]?).bind fun l=>l.as s.tc with
   |some x=>matI {M with ls:=M.ls++ [⟨s.tc,x⟩],lc:=M.lc++ [.cst undef],ats:=M.ats++ [s'.gh],hp:=hp'} l
   |none=>none
    else none
  |none=>none
   else none
 | .keepo k s i::l=>if(Nat.blt k ba&&(Nat.blt i bl&&(s.pat&&s.gOk ba)))=true then match takeO k M.hp with
  |some (s',i',hp')=>if s'=s∧i'=i then matI {M with hp:=hp'} l else none
  |none=>none
   else none
end
variable {X:Amb}{η η':List Leaf}{ι ι':List Value}{β β':List Nat}{ρ:View}
theorem takeA_ok{k:Nat}{t:Tc}{i:Nat}: ∀{hp hp':List HX} {hl:List Hl},takeA k hp=some (t,i,hp')→heapR X η ι β ρ hp hl→
 ∃h hl',hl.Perm (h::hl')∧(HX.arr k t i).R X η ι β ρ h∧heapR X η ι β ρ hp' hl'
 | .arr j t' i'::r,hp',h::hs,hk,hr=>by
   simp only[takeA]at hk
   cases hb:Nat.beq j k with
   |true=>
     rw[hb]at hk;simp only[cond_true,Option.some.injEq,Prod.mk.injEq]at hk;obtain⟨rfl,rfl,rfl⟩:=hk;obtain rfl:=Nat.eq_of_beq_eq_true hb;exact⟨h,hs,List.Perm.refl _,hr.1,hr.2⟩
   |false=>
     rw[hb]at hk;simp only[cond_false]at hk;obtain⟨p,h1,h2⟩:=Option.map_eq_some_iff.1 hk;simp only[Prod.mk.injEq]at h2;obtain⟨rfl,rfl,rfl⟩:=h2;obtain⟨h',hl',a1,a2,a3⟩:=takeA_ok (hp':=p.2.2) h1 hr.2;exact⟨h',h::hl',(a1.cons h).trans (List.Perm.swap _ _ _),a2,hr.1,a3⟩
 | .box b l::r,hp',h::hs,hk,hr=>by
   simp only[takeA]at hk;obtain⟨p,h1,h2⟩:=Option.map_eq_some_iff.1 hk;simp only[Prod.mk.injEq]at h2;obtain⟨rfl,rfl,rfl⟩:=h2;obtain⟨h',hl',a1,a2,a3⟩:=takeA_ok (hp':=p.2.2) h1 hr.2;exact⟨h',h::hl',(a1.cons h).trans (List.Perm.swap _ _ _),a2,hr.1,a3⟩
 | .ow j s i::r,hp',h::hs,hk,hr=>by
   simp only[takeA]at hk;obtain⟨p,h1,h2⟩:=Option.map_eq_some_iff.1 hk;simp only[Prod.mk.injEq]at h2;obtain⟨rfl,rfl,rfl⟩:=h2;obtain⟨h',hl',a1,a2,a3⟩:=takeA_ok (hp':=p.2.2) h1 hr.2;exact⟨h',h::hl',(a1.cons h).trans (List.Perm.swap _ _ _),a2,hr.1,a3⟩
 | [],_,_,hk,_=>by cases hk
 | .arr .. ::_,_,[],_,hr=>hr.elim
 | .box .. ::_,_,[],_,hr=>hr.elim
 | .ow .. ::_,_,[],_,hr=>hr.elim
theorem takeO_ok{k:Nat}{s:Ow}{i:Nat}: ∀{hp hp':List HX} {hl:List Hl},takeO k hp=some (s,i,hp')→heapR X η ι β ρ hp hl→
 ∃h hl',hl.Perm (h::hl')∧(HX.ow k s i).R X η ι β ρ h∧heapR X η ι β ρ hp' hl'
 | .ow j t' i'::r,hp',h::hs,hk,hr=>by
   simp only[takeO]at hk
   cases hb:Nat.beq j k with
   |true=>
     rw[hb]at hk;simp only[cond_true,Option.some.injEq,Prod.mk.injEq]at hk;obtain⟨rfl,rfl,rfl⟩:=hk;obtain rfl:=Nat.eq_of_beq_eq_true hb;exact⟨h,hs,List.Perm.refl _,hr.1,hr.2⟩
   |false=>
     rw[hb]at hk;simp only[cond_false]at hk;obtain⟨p,h1,h2⟩:=Option.map_eq_some_iff.1 hk;simp only[Prod.mk.injEq]at h2;obtain⟨rfl,rfl,rfl⟩:=h2;obtain⟨h',hl',a1,a2,a3⟩:=takeO_ok (hp':=p.2.2) h1 hr.2;exact⟨h',h::hl',(a1.cons h).trans (List.Perm.swap _ _ _),a2,hr.1,a3⟩
 | .box b l::r,hp',h::hs,hk,hr=>by
   simp only[takeO]at hk;obtain⟨p,h1,h2⟩:=Option.map_eq_some_iff.1 hk;simp only[Prod.mk.injEq]at h2;obtain⟨rfl,rfl,rfl⟩:=h2;obtain⟨h',hl',a1,a2,a3⟩:=takeO_ok (hp':=p.2.2) h1 hr.2;exact⟨h',h::hl',(a1.cons h).trans (List.Perm.swap _ _ _),a2,hr.1,a3⟩
 | .arr j t i::r,hp',h::hs,hk,hr=>by
   simp only[takeO]at hk;obtain⟨p,h1,h2⟩:=Option.map_eq_some_iff.1 hk;simp only[Prod.mk.injEq]at h2;obtain⟨rfl,rfl,rfl⟩:=h2;obtain⟨h',hl',a1,a2,a3⟩:=takeO_ok (hp':=p.2.2) h1 hr.2;exact⟨h',h::hl',(a1.cons h).trans (List.Perm.swap _ _ _),a2,hr.1,a3⟩
 | [],_,_,hk,_=>by cases hk
 | .arr .. ::_,_,[],_,hr=>hr.elim
 | .box .. ::_,_,[],_,hr=>hr.elim
 | .ow .. ::_,_,[],_,hr=>hr.elim
theorem takeB_ok{k:Nat}{l:List CX}: ∀{hp hp':List HX} {hl:List Hl},takeB k hp=some (l,hp')→heapR X η ι β ρ hp hl→
 ∃h hl',hl.Perm (h::hl')∧(HX.box k l).R X η ι β ρ h∧heapR X η ι β ρ hp' hl'
 | .box j l'::r,hp',h::hs,hk,hr=>by
   simp only[takeB]at hk
   cases hb:Nat.beq j k with
   |true=>
     rw[hb]at hk;simp only[cond_true,Option.some.injEq,Prod.mk.injEq]at hk;obtain⟨rfl,rfl⟩:=hk;obtain rfl:=Nat.eq_of_beq_eq_true hb;exact⟨h,hs,List.Perm.refl _,hr.1,hr.2⟩
   |false=>
     rw[hb]at hk;simp only[cond_false]at hk;obtain⟨p,h1,h2⟩:=Option.map_eq_some_iff.1 hk;simp only[Prod.mk.injEq]at h2;obtain⟨rfl,rfl⟩:=h2;obtain⟨h',hl',a1,a2,a3⟩:=takeB_ok (hp':=p.2) h1 hr.2;exact⟨h',h::hl',(a1.cons h).trans (List.Perm.swap _ _ _),a2,hr.1,a3⟩
 | .arr j t i::r,hp',h::hs,hk,hr=>by
   simp only[takeB]at hk;obtain⟨p,h1,h2⟩:=Option.map_eq_some_iff.1 hk;simp only[Prod.mk.injEq]at h2;obtain⟨rfl,rfl⟩:=h2;obtain⟨h',hl',a1,a2,a3⟩:=takeB_ok (hp':=p.2) h1 hr.2;exact⟨h',h::hl',(a1.cons h).trans (List.Perm.swap _ _ _),a2,hr.1,a3⟩
 | .ow j s i::r,hp',h::hs,hk,hr=>by
   simp only[takeB]at hk;obtain⟨p,h1,h2⟩:=Option.map_eq_some_iff.1 hk;simp only[Prod.mk.injEq]at h2;obtain⟨rfl,rfl⟩:=h2;obtain⟨h',hl',a1,a2,a3⟩:=takeB_ok (hp':=p.2) h1 hr.2;exact⟨h',h::hl',(a1.cons h).trans (List.Perm.swap _ _ _),a2,hr.1,a3⟩
 | [],_,_,hk,_=>by cases hk
 | .arr .. ::_,_,[],_,hr=>hr.elim
 | .box .. ::_,_,[],_,hr=>hr.elim
 | .ow .. ::_,_,[],_,hr=>hr.elim
theorem heapR.app: ∀{l m:List HX} {hs ks:List Hl},heapR X η ι β ρ l hs→heapR X η ι β ρ m ks→heapR X η ι β ρ (l++m) (hs++ks)
 | [],_,[],_,_,h=>h
 |_::_,_,_::_,_,h,h'=>⟨h.1,heapR.app h.2 h'⟩
 | [],_,_::_,_,h,_=>h.elim
 |_::_,_,[],_,h,_=>h.elim
end Go.Dn
namespace Go.Dn
open Go Go.Eng
set_option maxRecDepth 100000
variable {X:Amb}{η η':List Leaf}{ι ι':List Value}{β β':List Nat}{ρ:View}
structure HpTo(a b:List Hl):Prop where
 go: ∀{C:Cx} {w:World} {ρ:View} {hs:List Hl},Hp C w ρ (a++hs)→Hp C w ρ (b++hs)
theorem HpTo.refl(a:List Hl):HpTo a a:=⟨fun h=>h⟩
theorem HpTo.of_perm{a b:List Hl}(h:a.Perm b):HpTo a b:=⟨fun H=>H.perm (h.append_right _)⟩
theorem HpTo.trans{a b c:List Hl}(h:HpTo a b)(h':HpTo b c):HpTo a c:=⟨fun H=>h'.go (h.go H)⟩
theorem HpTo.left{a b:List Hl}(m:List Hl)(h:HpTo a b):HpTo (m++a) (m++b):=⟨fun{C w ρ hs} H=>by
 have H1:Hp C w ρ (a++(m++hs)):=H.perm (by
  rw[List.append_assoc];exact(List.perm_append_comm_assoc m a hs))
 refine(h.go H1).perm ?_;rw[List.append_assoc];exact(List.perm_append_comm_assoc b m hs)⟩
theorem HpTo.nil(k:Nat)(a:List Hl):HpTo a (Arr (.slice none 0 0) k []::a):=⟨fun H=>H.nilArr k⟩
structure Base(bl ba bb:Nat)(η:List Leaf)(ι:List Value)(β:List Nat)(η':List Leaf)(ι':List Value)(β':List Nat):Prop where
 l: ∀i,i<bl→η[i]? =η'[i]?
 a: ∀i,i<ba→ι[i]? =ι'[i]?
 b: ∀i,i<bb→β[i]? =β'[i]?
 bl:bl≤η.length
 ba:ba≤ι.length
theorem beq_eq{i j:Nat}(h:Nat.beq i j=true):i=j:=Nat.eq_of_beq_eq_true h
theorem sameC_ok{bl ba bb:Nat}(B:Base bl ba bb η ι β η' ι' β'){c d:CX}{v:Value}(h:sameC bl ba bb c d=true)(hd:d.R X η' ι' β' v):c.R X η ι β v:=by
 unfold sameC at h;split at h
 ·rename_i i j;simp only[Bool.and_eq_true,Nat.blt_eq]at h;obtain rfl:=beq_eq h.1;obtain⟨l,h1,h2⟩:=hd;exact⟨l,(B.l i h.2).trans h1,h2⟩
 ·rename_i i j;simp only[Bool.and_eq_true,Nat.blt_eq]at h;obtain rfl:=beq_eq h.1;exact(B.a i h.2).trans hd
 ·rename_i i o j o';simp only[Bool.and_eq_true,Nat.blt_eq]at h;obtain rfl:=beq_eq h.1.1;obtain rfl:=beq_eq h.2;obtain⟨l,h1,h2⟩:=hd;exact⟨l,(B.b i h.1.2).trans h1,h2⟩
 ·rename_i i o j o';simp only[Bool.and_eq_true,Nat.blt_eq]at h;obtain rfl:=beq_eq h.1.1;obtain rfl:=beq_eq h.2;obtain⟨b,a,h1,h2⟩:=hd;exact⟨b,a,(B.a i h.1.2).trans h1,h2⟩
 ·obtain rfl:=eqV_ok h;exact hd
 ·obtain rfl:=of_decide_eq_true h;exact hd
 cases h
theorem HpTo.drop(a b:List Hl):HpTo (a++b) a:=by
 refine⟨fun{C w ρ hs} H=>?_⟩;have H1:Hp C w ρ (b++(a++hs)):=H.perm (by rw[List.append_assoc];exact List.perm_append_comm_assoc a b hs);clear H
 induction b with
 |nil=>exact H1
 |cons x b ih=>exact ih H1.tail
theorem shape_ok{ag:Bool}{v:VX}{cs:List CX}{u:Value}(h:v.shape ag=some cs)(hu:v.R X η' ι' β' u): ∃us,cellsR X η' ι' β' cs us∧mkv ag us=u∧(ag=false→us.length=1):=by
 unfold VX.shape at h;split at h
 ·obtain rfl:=oi h;exact⟨[u],⟨hu,trivial⟩,rfl,fun _=>rfl⟩
 ·obtain rfl:=oi h;obtain⟨us,h1,rfl⟩:=hu;exact⟨us,h1,rfl,fun h=>by cases h⟩
 cases h
theorem mkVX_ok{ag:Bool}{cs:List CX}{us:List Value}(h:cellsR X η ι β cs us)(h1:ag=false→us.length=1):(mkVX ag cs).R X η ι β (mkv ag us):=by
 cases ag with
 |true=>exact⟨us,h,rfl⟩
 |false=>
   have h2:=h1 rfl;have h3:=h.len
   match us,h2 with
   | [u],_=>
     match cs,h3 with
     | [c],_=>exact h.1
theorem cellsR.get: ∀{l:List CX} {vs:List Value} {i:Nat} {c:CX},cellsR X η ι β l vs→l[i]? =some c→ ∃v,vs[i]? =some v∧c.R X η ι β v
 | [],_,i,c,_,h=>by simp at h
 |x::l,v::vs,0,c,hr,h=>by
   obtain rfl:x=c:=by simpa using h
   exact⟨v,rfl,hr.1⟩
 |x::l,v::vs,i+1,c,hr,h=>by
   obtain⟨u,h1,h2⟩:=cellsR.get (i:=i) hr.2 (by simpa using h);exact⟨u,by simpa using h1,h2⟩
 |_::_,[],_,_,hr,_=>hr.elim
structure Inv(X:Amb)(η':List Leaf)(ι':List Value)(β':List Nat)(ρ:View)(hl:List Hl)(M:Mt)(κ:List Value)(γ:List Nat)(A hl':List Hl):Prop where
 to:HpTo hl (A++hl')
 hp:heapR X η' ι' β' ρ M.hp hl'
 ats:cellsR X η' ι' β' M.ats κ
 bs:M.bs.map (fun b=>β'[b]?)=γ.map some
 lc:cellsR X η' ι' β' M.lc (M.ls.map (lval X))
theorem lcApp{cs:List CX}{ls:List Leaf}{c:CX}{l:Leaf}(h:cellsR X η ι β cs (ls.map (lval X)))(h1:c.R X η ι β (lval X l)):cellsR X η ι β (cs++ [c]) ((ls++ [l]).map (lval X)):=by
 rw[List.map_append];exact h.app ⟨h1,trivial⟩
structure Ov(b:Bs)(η:List Leaf)(ι:List Value)(β:List Nat):Prop where
 nl:η.length=b.nl
 na:ι.length=b.na
 nb:β.length=b.nb
structure InvB(X:Amb)(η:List Leaf)(ι:List Value)(β:List Nat)(ρ:View)(L:Lay)(ls:List Leaf)(κ:List Value)(γ:List Nat)(A:List Hl)(E:Env):Prop where
 ts:ls.map (·.1)=L.ts
 na:κ.length=L.na
 nb:γ.length=L.nb
 fs: ∀f∈L.fs,f.R X (η++ls) (ι++κ) ρ
 hx:heapR X (η++ls) (ι++κ) (β++γ) ρ L.hx A
 env:envR X (η++ls) (ι++κ) (β++γ) L.env E
theorem InvB.len{L:Lay}{ls:List Leaf}{κ:List Value}{γ:List Nat}{A:List Hl}{E:Env}(h:InvB X η ι β ρ L ls κ γ A E):L.ts.length=ls.length:=by rw[←h.ts];simp
theorem InvB.none:InvB X η ι β ρ {} [] [] [] [] []:=⟨rfl,rfl,rfl,(fun _ h=>nomatch h),trivial,trivial⟩
theorem InvB.step{L:Lay}{ls:List Leaf}{κ:List Value}{γ:List Nat}{A:List Hl}{E:Env}(h:InvB X η ι β ρ L ls κ γ A E)(δ:List Leaf)(κ1:List Value){A1:List Hl}{fs1:List Fact}{hx1:List HX}
 (hf: ∀f∈fs1,f.R X (η++(ls++δ)) (ι++(κ++κ1)) ρ) (hh:heapR X (η++(ls++δ)) (ι++(κ++κ1)) (β++γ) ρ hx1 A1):
 InvB X η ι β ρ {L with ts:=L.ts++δ.map (·.1),fs:=L.fs++fs1,hx:=L.hx++hx1,na:=L.na+κ1.length} (ls++δ) (κ++κ1) γ (A++A1) E where
 ts:=by rw[List.map_append,h.ts]
 na:=by rw[List.length_append,h.na]
 nb:=h.nb
 fs f hff:=by
  rcases List.mem_append.1 hff with hff|hff
  ·have:=(h.fs f hff).up δ κ1 (View.le_refl ρ);rwa[List.append_assoc,List.append_assoc]at this
  exact hf f hff
 hx:=by
  have h1:=h.hx.up δ κ1 [] (View.le_refl ρ);rw[List.append_nil,List.append_assoc,List.append_assoc]at h1;exact h1.app hh
 env:=by
  have h1:=h.env.up δ κ1 [];rwa[List.append_nil,List.append_assoc,List.append_assoc]at h1
def SG(X:Amb)(η':List Leaf)(ι':List Value)(β':List Nat)(same:CX→CX→Bool)(σ:CX→CX)(η:List Leaf)(ι:List Value)(β:List Nat):Prop:=
 ∀c d v,same c d=true→d.R X η' ι' β' v→(σ c).R X η ι β v
theorem CX.R.up3(δ:List Leaf)(κ:List Value)(γ:List Nat){ls:List Leaf}{ks:List Value}{gs:List Nat}{c:CX}{v:Value}(h:c.R X (η++ls) (ι++ks) (β++gs) v):c.R X (η++(ls++δ)) (ι++(ks++κ)) (β++(gs++γ)) v:=by
 have:=h.up δ κ γ;rwa[List.append_assoc,List.append_assoc,List.append_assoc]at this
theorem Ow.move{s s':Ow}{v:Value}{i:Nat}{h:Hl}{x:s.tc.den}(hr:s'.R X η' ι' ρ v i h)(hs:s'.sg 0=s)(hp:s.pat=true)(hi:η'[i]? =some ⟨s.tc,x⟩):
 ∃gv,s'.gh.R X η' ι' β' gv∧ ∀{η:List Leaf} {ι:List Value} {i2 g2:Nat},η[i2]? =some ⟨s.tc,x⟩→ι[g2]? =some gv→(s.sg g2).R X η ι ρ v i2 h:=by
 cases s' with
 |ns e r g=>
   subst hs;obtain⟨us,xs,h1,h2,h3,h4⟩:=hr;rw[hi]at h2;cases oi h2;exact⟨_,h1,fun a1 a2=>⟨us,x,a2,a1,h3,h4⟩⟩
 |nh e r g m y=>subst hs;cases hp
 |mp t=>
   subst hs;obtain⟨r,c,m,h1,h2,h3,h4⟩:=hr;rw[hi]at h2;cases oi h2;exact⟨undef,rfl,fun a1 a2=>⟨r,c,x,h1,a1,h3,h4⟩⟩
theorem Ow.keep{s:Ow}{v:Value}{i ba:Nat}{h:Hl}(hr:s.R X η' ι' ρ v i h)(hp:s.pat=true)(hg:s.gOk ba=true)(hi:η[i]? =η'[i]?)(ha: ∀i,i<ba→ι[i]? =ι'[i]?):s.R X η ι ρ v i h:=by
 cases s with
 |ns e r g=>
   obtain⟨us,xs,h1,h2,h3,h4⟩:=hr;exact⟨us,xs,(ha g (by simpa[Ow.gOk,Nat.blt_eq]using hg)).trans h1,hi.trans h2,h3,h4⟩
 |nh e r g m y=>cases hp
 |mp t=>
   obtain⟨r,c,m,h1,h2,h3,h4⟩:=hr;exact⟨r,c,m,h1,hi.trans h2,h3,h4⟩
section
variable {same:CX→CX→Bool}{fs:List Fact}
theorem matC_ok(hf: ∀f∈fs,f.R X η' ι' ρ){M M':Mt}{hl:List Hl}{κ:List Value}{γ:List Nat}{A hl':List Hl}(I:Inv X η' ι' β' ρ hl M κ γ A hl'){p:CP}{c:CX}{v:Value}(hc:c.R X η' ι' β' v){qa:Nat→Bool}(h:matC same η' fs qa M p c=some M'):
 ∃δ κ1 A1 hl1,Inv X η' ι' β' ρ hl M' (κ++κ1) γ (A++A1) hl1∧M'.ls=M.ls++δ∧ ∀{η:List Leaf} {ι:List Value} {β:List Nat} {b:Bs} {L:Lay} {E:Env},Ov b η ι β→SG X η' ι' β' same b.σ η ι β→(∀i v,qa i=true→ι'[i]? =some v→ι[b.α i]? =some v)→InvB X η ι β ρ L M.ls κ γ A E→
   InvB X η ι β ρ (layC b L p).1 M'.ls (κ++κ1) γ (A++A1) E∧(layC b L p).2.R X (η++M'.ls) (ι++(κ++κ1)) (β++γ) v:=by
 unfold matC at h;split at h
 ·split at h
  ·rename_i hs;obtain rfl:=oi h;refine⟨[],[],[],hl',by simpa using I,by simp,fun{η ι β b L E} O G HA B=>?_⟩;simp only[List.append_nil];exact⟨B,(G _ _ _ hs hc).up _ _ _⟩
  cases h
 ·rename_i d t;split at h
  ·rename_i x hx;obtain rfl:=oi h;obtain⟨l,h1,h2⟩:=Option.bind_eq_some_iff.1 hx;obtain rfl:=as_some h2;refine⟨[⟨t,x⟩],[],[],hl',⟨by simpa using I.to,I.hp,by simpa using I.ats,I.bs,lcApp I.lc (CX.leaf_R h1 hc▸hc)⟩,rfl,fun{η ι β b L E} O G HA B=>⟨?_,⟨t,x⟩,?_,CX.leaf_R h1 hc⟩⟩
   ·have:=B.step [⟨t,x⟩] [] (fs1:=[]) (hx1:=[]) (A1:=[]) (fun _ h=>nomatch h) trivial;simpa[layC]using this
   rw[B.len,←O.nl,←List.append_assoc,←List.length_append];simp
  cases h
 ·rename_i t k;split at h
  ·rename_i t' i hk;split at h
   ·rename_i ht;subst ht;split at h
    ·rename_i xs hxs;obtain rfl:=oi h;obtain⟨v',xs',a1,a2,a3⟩:=hf _ (factR_ok hk);have hc':ι'[k]? =some v:=hc;rw[hc']at a1;obtain rfl:=oi a1;rw[leafAs hxs]at a2;cases oi a2;refine⟨[⟨.list t',xs⟩],[v],[],hl',⟨by simpa using I.to,I.hp,I.ats.app ⟨hc,trivial⟩,I.bs,lcApp I.lc rfl⟩,rfl,fun{η ι β b L E} O G HA B=>?_⟩;have e1:(η++(M.ls++ [⟨.list t',xs⟩]))[b.nl+L.ts.length]? =some ⟨.list t',xs⟩:=by rw[B.len,←O.nl,←List.append_assoc,←List.length_append];simp
     have e2:(ι++(κ++ [v]))[b.na+L.na]? =some v:=by rw[←B.na,←O.na,←List.append_assoc,←List.length_append];simp
     refine⟨?_,e2⟩;have:=B.step [⟨.list t',xs⟩] [v] (fs1:=[.rs (b.na+L.na) t' (b.nl+L.ts.length)]) (hx1:=[]) (A1:=[]) (fun f hf=>by obtain rfl:=List.mem_singleton.1 hf;exact⟨v,xs,e2,e1,a3⟩) trivial;simpa[layC]using this
    cases h
   cases h
  cases h
 ·rename_i t;obtain rfl:=oi h;have hv:v= .slice none 0 0:=hc;refine⟨[⟨.list t,([]:List t.den)⟩],[v],[],hl',⟨by simpa using I.to,I.hp,I.ats.app ⟨hc,trivial⟩,I.bs,lcApp I.lc rfl⟩,rfl,fun{η ι β b L E} O G HA B=>?_⟩;have e1:(η++(M.ls++ [⟨.list t,([]:List t.den)⟩]))[b.nl+L.ts.length]? =some ⟨.list t,([]:List t.den)⟩:=by rw[B.len,←O.nl,←List.append_assoc,←List.length_append];simp
  have e2:(ι++(κ++ [v]))[b.na+L.na]? =some v:=by rw[←B.na,←O.na,←List.append_assoc,←List.length_append];simp
  refine⟨?_,e2⟩;have:=B.step [⟨.list t,([]:List t.den)⟩] [v] (fs1:=[.rs (b.na+L.na) t (b.nl+L.ts.length)]) (hx1:=[]) (A1:=[]) (fun f hf=>by obtain rfl:=List.mem_singleton.1 hf;exact⟨v,[],e2,e1,hv▸RdSl.nil⟩) trivial;simpa[layC]using this
 ·rename_i t k;split at h
  ·rename_i t' i hp1 hk;split at h
   ·rename_i ht;subst ht;split at h
    ·rename_i xs hxs;obtain rfl:=oi h;obtain⟨hh1,hl1,b1,⟨v',cc,xs',b2,b3,b4,rfl⟩,b5⟩:=takeA_ok hk I.hp;have hc':ι'[k]? =some v:=hc;rw[hc']at b2;obtain rfl:=oi b2;rw[leafAs hxs]at b3;cases oi b3;refine⟨[⟨.list t',xs⟩],[v],[Arr v t'.n cc],hl1,⟨?_,b5,I.ats.app ⟨hc,trivial⟩,I.bs,lcApp I.lc rfl⟩,rfl,fun{η ι β b L E} O G HA B=>?_⟩
     ·refine I.to.trans ?_;rw[List.append_assoc];exact HpTo.left A (HpTo.of_perm b1)
     have e1:(η++(M.ls++ [⟨.list t',xs⟩]))[b.nl+L.ts.length]? =some ⟨.list t',xs⟩:=by rw[B.len,←O.nl,←List.append_assoc,←List.length_append];simp
     have e2:(ι++(κ++ [v]))[b.na+L.na]? =some v:=by rw[←B.na,←O.na,←List.append_assoc,←List.length_append];simp
     refine⟨?_,e2⟩;have:=B.step [⟨.list t',xs⟩] [v] (fs1:=[]) (hx1:=[.arr (b.na+L.na) t' (b.nl+L.ts.length)]) (A1:=[Arr v t'.n cc]) (fun _ h=>nomatch h) ⟨⟨v,cc,xs,e2,e1,b4,rfl⟩,trivial⟩;simpa[layC]using this
    cases h
   cases h
  cases h
 ·rename_i t;obtain rfl:=oi h;have hv:v= .slice none 0 0:=hc;refine⟨[⟨.list t,([]:List t.den)⟩],[v],[Arr v t.n []],hl',⟨?_,I.hp,I.ats.app ⟨hc,trivial⟩,I.bs,lcApp I.lc rfl⟩,rfl,fun{η ι β b L E} O G HA B=>?_⟩
  ·refine I.to.trans ?_;rw[List.append_assoc,hv];exact HpTo.left A (HpTo.nil _ _)
  have e1:(η++(M.ls++ [⟨.list t,([]:List t.den)⟩]))[b.nl+L.ts.length]? =some ⟨.list t,([]:List t.den)⟩:=by rw[B.len,←O.nl,←List.append_assoc,←List.length_append];simp
  have e2:(ι++(κ++ [v]))[b.na+L.na]? =some v:=by rw[←B.na,←O.na,←List.append_assoc,←List.length_append];simp
  refine⟨?_,e2⟩;have:=B.step [⟨.list t,([]:List t.den)⟩] [v] (fs1:=[]) (hx1:=[.arr (b.na+L.na) t (b.nl+L.ts.length)]) (A1:=[Arr v t.n []]) (fun _ h=>nomatch h) ⟨⟨v,[],[],e2,e1,rdL.nil,rfl⟩,trivial⟩;simpa[layC]using this
 ·rename_i s k;split at h
  ·rename_i s' i hp1 hk;split at h
   ·rename_i hs;obtain⟨hs,hpat⟩:=hs;split at h
    ·rename_i x hx;obtain rfl:=oi h;obtain⟨hh1,hl1,b1,⟨v',b2,b3,b4⟩,b5⟩:=takeO_ok hk I.hp;have hc':ι'[k]? =some v:=hc;rw[hc']at b2;obtain rfl:=oi b2;obtain⟨gv,g1,g2⟩:=Ow.move (β':=β') b4 hs hpat (leafAs hx);refine⟨[⟨s.tc,x⟩],[v,gv],[hh1],hl1,⟨?_,b5,I.ats.app ⟨hc,g1,trivial⟩,I.bs,lcApp I.lc (by cases s<;>rfl)⟩,rfl,fun{η ι β b L E} O G HA B=>?_⟩
     ·refine I.to.trans ?_;rw[List.append_assoc];exact HpTo.left A (HpTo.of_perm b1)
     have e1:(η++(M.ls++ [⟨s.tc,x⟩]))[b.nl+L.ts.length]? =some ⟨s.tc,x⟩:=by rw[B.len,←O.nl,←List.append_assoc,←List.length_append];exact List.getElem?_concat_length ..
     have e2:(ι++(κ++ [v,gv]))[b.na+L.na]? =some v:=by rw[←B.na,←O.na,←List.append_assoc,←List.length_append];simp
     have e3:(ι++(κ++ [v,gv]))[b.na+L.na+1]? =some gv:=by rw[←B.na,←O.na,←List.append_assoc,←List.length_append,List.getElem?_append_right Om];simp
     refine⟨?_,e2⟩;exact(B.step [⟨s.tc,x⟩] [v,gv] (fs1:=[]) (hx1:=[.ow (b.na+L.na) (s.sg (b.na+L.na+1)) (b.nl+L.ts.length)]) (A1:=[hh1]) (fun _ h=>nomatch h) ⟨⟨v,e2,b3,g2 e1 e3⟩,trivial⟩) |> fun this=>by simpa only[layC,List.map_cons,List.map_nil,List.append_nil,List.length_cons,List.length_nil,Nat.zero_add]using this
    cases h
   cases h
  cases h
 ·rename_i e r g;split at h
  ·rename_i hpat;obtain rfl:=oi h;have hv:v= .slice none 0 0:=hc;refine⟨[⟨(Ow.ns e r g).tc,([]:List (Tc.pair (.list e) r).den)⟩],[v,.agg #[]],[NS (e.enc X) (r.enc X) v [] []],hl',⟨?_,I.hp,I.ats.app ⟨hc,rfl,trivial⟩,I.bs,lcApp I.lc rfl⟩,rfl,fun{η ι β b L E} O G HA B=>?_⟩
   ·refine I.to.trans ?_;rw[List.append_assoc,hv];exact HpTo.left A ⟨fun H=>H.nilNS _ _⟩
   have e1:(η++(M.ls++ [⟨(Ow.ns e r g).tc,([]:List (Tc.pair (.list e) r).den)⟩]))[b.nl+L.ts.length]? =some ⟨(Ow.ns e r g).tc,([]:List (Tc.pair (.list e) r).den)⟩:=by rw[B.len,←O.nl,←List.append_assoc,←List.length_append];exact List.getElem?_concat_length ..
   have e2:(ι++(κ++ [v,.agg #[]]))[b.na+L.na]? =some v:=by rw[←B.na,←O.na,←List.append_assoc,←List.length_append];simp
   have e3:(ι++(κ++ [v,.agg #[]]))[b.na+L.na+1]? =some (.agg #[]):=by rw[←B.na,←O.na,←List.append_assoc,←List.length_append,List.getElem?_append_right Om];simp
   refine⟨?_,e2⟩;have hq:0<e.n∧e.flat=true∧r.flat=true:=by simpa[Ow.pat,Nat.blt_eq]using hpat
   exact(B.step [⟨(Ow.ns e r g).tc,([]:List (Tc.pair (.list e) r).den)⟩] [v,.agg #[]] (fs1:=[]) (hx1:=[.ow (b.na+L.na) ((Ow.ns e r g).sg (b.na+L.na+1)) (b.nl+L.ts.length)]) (A1:=[NS (e.enc X) (r.enc X) v [] []]) (fun _ h=>nomatch h) ⟨⟨v,e2,by rw[hv];rfl,[],[],e3,e1,hq,rfl⟩,trivial⟩) |> fun this=>by simpa only[layC,List.map_cons,List.map_nil,List.append_nil,List.length_cons,List.length_nil,Nat.zero_add]using this
  cases h
 ·rename_i k t k';split at h
  ·rename_i hkk;simp only[Bool.and_eq_true]at hkk;obtain⟨hkk,hba⟩:=hkk;obtain rfl:=beq_eq hkk;split at h
   ·rename_i t' i hp1 hk;split at h
    ·rename_i ht;subst ht;split at h
     ·rename_i xs hxs;obtain rfl:=oi h;obtain⟨hh1,hl1,b1,⟨v',cc,xs',b2,b3,b4,rfl⟩,b5⟩:=takeA_ok hk I.hp;have hc':ι'[k]? =some v:=hc;rw[hc']at b2;obtain rfl:=oi b2;rw[leafAs hxs]at b3;cases oi b3;refine⟨[⟨.list t',xs⟩],[],[Arr v t'.n cc],hl1,⟨?_,b5,by simpa using I.ats,I.bs,lcApp I.lc rfl⟩,rfl,fun{η ι β b L E} O G HA B=>?_⟩
      ·refine I.to.trans ?_;rw[List.append_assoc];exact HpTo.left A (HpTo.of_perm b1)
      have e1:(η++(M.ls++ [⟨.list t',xs⟩]))[b.nl+L.ts.length]? =some ⟨.list t',xs⟩:=by rw[B.len,←O.nl,←List.append_assoc,←List.length_append];simp
      have e2:(ι++(κ++ []))[b.α k]? =some v:=get_app _ (HA k v hba hc');refine⟨?_,e2⟩;have:=B.step [⟨.list t',xs⟩] [] (fs1:=[]) (hx1:=[.arr (b.α k) t' (b.nl+L.ts.length)]) (A1:=[Arr v t'.n cc]) (fun _ h=>nomatch h) ⟨⟨v,cc,xs,e2,e1,b4,rfl⟩,trivial⟩;simpa[layC]using this
     cases h
    cases h
   cases h
  cases h
 ·rename_i k s k';split at h
  ·rename_i hkk;simp only[Bool.and_eq_true]at hkk;obtain⟨hkk,hba⟩:=hkk;obtain rfl:=beq_eq hkk;split at h
   ·rename_i s' i hp1 hk;split at h
    ·rename_i hs;obtain⟨hs,hpat⟩:=hs;split at h
     ·rename_i x hx;obtain rfl:=oi h;obtain⟨hh1,hl1,b1,⟨v',b2,b3,b4⟩,b5⟩:=takeO_ok hk I.hp;have hc':ι'[k]? =some v:=hc;rw[hc']at b2;obtain rfl:=oi b2;obtain⟨gv,g1,g2⟩:=Ow.move (β':=β') b4 hs hpat (leafAs hx);refine⟨[⟨s.tc,x⟩],[gv],[hh1],hl1,⟨?_,b5,I.ats.app ⟨g1,trivial⟩,I.bs,lcApp I.lc (by cases s<;>rfl)⟩,rfl,fun{η ι β b L E} O G HA B=>?_⟩
      ·refine I.to.trans ?_;rw[List.append_assoc];exact HpTo.left A (HpTo.of_perm b1)
      have e1:(η++(M.ls++ [⟨s.tc,x⟩]))[b.nl+L.ts.length]? =some ⟨s.tc,x⟩:=by rw[B.len,←O.nl,←List.append_assoc,←List.length_append];exact List.getElem?_concat_length ..
      have e2:(ι++(κ++ [gv]))[b.α k]? =some v:=get_app _ (HA k v hba hc');have e3:(ι++(κ++ [gv]))[b.na+L.na]? =some gv:=by rw[←B.na,←O.na,←List.append_assoc,←List.length_append];exact List.getElem?_concat_length ..
      refine⟨?_,e2⟩;exact(B.step [⟨s.tc,x⟩] [gv] (fs1:=[]) (hx1:=[.ow (b.α k) (s.sg (b.na+L.na)) (b.nl+L.ts.length)]) (A1:=[hh1]) (fun _ h=>nomatch h) ⟨⟨v,e2,b3,g2 e1 e3⟩,trivial⟩) |> fun this=>by simpa only[layC,List.map_cons,List.map_nil,List.append_nil,List.length_cons,List.length_nil,Nat.zero_add]using this
     cases h
    cases h
   cases h
  cases h
 ·rename_i i k;split at h
  ·rename_i k' ha;split at h
   ·rename_i hkk;obtain rfl:=oi h;obtain rfl:=beq_eq hkk;obtain⟨u,h1,h2⟩:=I.ats.get ha;have hc':ι'[k]? =some v:=hc;have h2:ι'[k]? =some u:=h2;rw[hc']at h2;obtain rfl:=oi h2;refine⟨[],[],[],hl',by simpa using I,by simp,fun{η ι β b L E} O G HA B=>?_⟩;simp only[List.append_nil];refine⟨B,?_⟩;show(ι++κ)[b.na+i]? =some v;rw[←O.na,List.getElem?_append_right Om];simpa using h1
   cases h
  cases h
 ·rename_i i o bb o';split at h
  ·rename_i b' ha;split at h
   ·rename_i hkk;simp only[Bool.and_eq_true]at hkk;obtain rfl:=oi h;obtain rfl:=beq_eq hkk.1;obtain rfl:=beq_eq hkk.2;obtain⟨blk,h1,rfl⟩:=hc;have h2:(M.bs.map (fun b=>β'[b]?))[i]? =some (some blk):=by rw[List.getElem?_map,ha];simp[h1]
    rw[I.bs,List.getElem?_map]at h2
    have h3:γ[i]? =some blk:=by
     cases hg:γ[i]? with
     |none=>rw[hg]at h2;cases h2
     |some g=>rw[hg]at h2;simpa using h2
    refine⟨[],[],[],hl',by simpa using I,by simp,fun{η ι β b L E} O G HA B=>?_⟩;simp only[List.append_nil];refine⟨B,blk,?_,rfl⟩;rw[←O.nb,List.getElem?_append_right Om];simpa using h3
   cases h
  cases h
 cases h
end
end Go.Dn
namespace Go.Dn
open Go Go.Eng
set_option maxRecDepth 100000
variable {X:Amb}{η η':List Leaf}{ι ι':List Value}{β β':List Nat}{ρ:View}
def ST(bb:Nat)(τ:Nat→Nat)(β β':List Nat):Prop:= ∀k blk,k<bb→β'[k]? =some blk→β[τ k]? =some blk
theorem InvB.env1{L:Lay}{ls:List Leaf}{κ:List Value}{γ:List Nat}{A:List Hl}{E:Env}(h:InvB X η ι β ρ L ls κ γ A E){t:Nat}{x:VX}{u:Value}(hx:x.R X (η++ls) (ι++κ) (β++γ) u):
 InvB X η ι β ρ {L with env:=L.env++ [(t,x)]} ls κ γ A (E++ [(t,u)]):=
 ⟨h.ts,h.na,h.nb,h.fs,h.hx,by
  have: ∀{l:List (Nat×VX)} {E:Env},envR X (η++ls) (ι++κ) (β++γ) l E→envR X (η++ls) (ι++κ) (β++γ) (l++ [(t,x)]) (E++ [(t,u)]):=by
   intro l
   induction l with
   |nil=>intro E h;match E,h with| [],_=>exact⟨rfl,hx,trivial⟩
   |cons a l ih=>
     intro E h
     match E,h with
     |e::E,h=>exact⟨h.1,h.2.1,ih h.2.2⟩
     | [],h=>exact h.elim
  exact this h.env⟩
theorem InvB.box{L:Lay}{ls:List Leaf}{κ:List Value}{γ:List Nat}{A:List Hl}{E:Env}{b:Bs}(O:Ov b η ι β)(h:InvB X η ι β ρ L ls κ γ A E){cs:List CX}{us:List Value}{blk:Nat}(hc:cellsR X (η++ls) (ι++κ) (β++γ) cs us):
 InvB X η ι β ρ {L with hx:=L.hx++ [.box (b.nb+L.nb) cs],nb:=L.nb+1} ls κ (γ++ [blk]) (A++ [Box blk us]) E where
 ts:=h.ts
 na:=h.na
 nb:=by rw[List.length_append,h.nb];rfl
 fs:=h.fs
 hx:=by
  have h1:=h.hx.up [] [] [blk] (View.le_refl ρ);rw[List.append_nil,List.append_nil,List.append_assoc]at h1;have h2:=hc.up [] [] [blk];rw[List.append_nil,List.append_nil,List.append_assoc]at h2;refine h1.app ⟨⟨blk,us,?_,h2,rfl⟩,trivial⟩;rw[←h.nb,←O.nb,←List.append_assoc,←List.length_append];simp
 env:=by
  have h1:=h.env.up [] [] [blk];rwa[List.append_nil,List.append_nil,List.append_assoc]at h1
section
variable {same:CX→CX→Bool}{fs:List Fact}
theorem matL_ok{qa:Nat→Bool}(hf: ∀f∈fs,f.R X η' ι' ρ){hl:List Hl}{γ:List Nat}: ∀{ps:List CP} {M M':Mt} {κ:List Value} {A hl':List Hl} {cs:List CX} {vs:List Value},Inv X η' ι' β' ρ hl M κ γ A hl'→cellsR X η' ι' β' cs vs→matL same η' fs qa M ps cs=some M'→
 ∃δ κ1 A1 hl1,Inv X η' ι' β' ρ hl M' (κ++κ1) γ (A++A1) hl1∧M'.ls=M.ls++δ∧ ∀{η:List Leaf} {ι:List Value} {β:List Nat} {b:Bs} {L:Lay} {E:Env},Ov b η ι β→SG X η' ι' β' same b.σ η ι β→(∀i v,qa i=true→ι'[i]? =some v→ι[b.α i]? =some v)→InvB X η ι β ρ L M.ls κ γ A E→
   InvB X η ι β ρ (layL b L ps).1 M'.ls (κ++κ1) γ (A++A1) E∧cellsR X (η++M'.ls) (ι++(κ++κ1)) (β++γ) (layL b L ps).2 vs
 | [],M,M',κ,A,hl',[],vs,I,hc,h=>by
   obtain rfl:=oi h
   match vs,hc with
   | [],_=>
     refine⟨[],[],[],hl',by simpa using I,by simp,fun{η ι β b L E} O G HA B=>?_⟩;simp only[List.append_nil];exact⟨B,trivial⟩
 |p::ps,M,M',κ,A,hl',c::cs,vs,I,hc,h=>by
   match vs,hc with
   |v::vs,hc=>
     obtain⟨M1,h1,h2⟩:=Option.bind_eq_some_iff.1 (h:(matC same η' fs qa M p c).bind _=some M');obtain⟨δ,κ1,A1,hl1,I1,l1,k1⟩:=matC_ok hf I hc.1 h1;obtain⟨δ2,κ2,A2,hl2,I2,l2,k2⟩:=matL_ok hf I1 hc.2 h2;rw[List.append_assoc]at I2;rw[List.append_assoc]at I2;refine⟨δ++δ2,κ1++κ2,A1++A2,hl2,I2,by rw[l2,l1,List.append_assoc],fun{η ι β b L E} O G HA B=>?_⟩;obtain⟨B1,r1⟩:=k1 O G HA B;obtain⟨B2,r2⟩:=k2 O G HA B1;rw[List.append_assoc,List.append_assoc]at B2;refine⟨B2,?_,?_⟩
     ·have:=r1.up3 δ2 κ2 [];rw[List.append_nil,←l2,List.append_assoc]at this;exact this
     rw[List.append_assoc]at r2;exact r2
   | [],hc=>exact hc.elim
 | [],_,_,_,_,_,_::_,_,_,_,h=>by cases h
 |_::_,_,_,_,_,_,[],_,_,_,h=>by cases h
theorem layC_env{b:Bs}{L:Lay}(p:CP):(layC b L p).1.env=L.env:=by cases p<;>rfl
theorem layL_env{b:Bs}: ∀{L:Lay} (p:List CP),(layL b L p).1.env=L.env
 |_,[]=>rfl
 |L,p::l=>(layL_env l).trans (layC_env p)
theorem layC_nb{b:Bs}{L:Lay}(p:CP):(layC b L p).1.nb=L.nb:=by cases p<;>rfl
theorem layL_nb{b:Bs}: ∀{L:Lay} (p:List CP),(layL b L p).1.nb=L.nb
 |_,[]=>rfl
 |L,p::l=>(layL_nb l).trans (layC_nb p)
theorem matI_ok{get:Nat→Option VX}{bl ba bb:Nat}{qa:Nat→Bool}{val:Nat→Option Value}(hget: ∀t v,get t=some v→ ∃u,val t=some u∧v.R X η' ι' β' u)(hf: ∀f∈fs,f.R X η' ι' ρ){hl:List Hl}: ∀{ps:List JI} {M M':Mt} {κ:List Value} {γ:List Nat} {A hl':List Hl},Inv X η' ι' β' ρ hl M κ γ A hl'→matI same η' fs get bl ba bb qa M ps=some M'→
 ∃δ κ1 γ1 A1 hl1 E1,Inv X η' ι' β' ρ hl M' (κ++κ1) (γ++γ1) (A++A1) hl1∧M'.ls=M.ls++δ∧(∀p∈E1,val p.1=some p.2)∧ ∀{η:List Leaf} {ι:List Value} {β:List Nat} {b:Bs} {L:Lay} {E:Env},Ov b η ι β→SG X η' ι' β' same b.σ η ι β→Base bl ba 0 η ι β η' ι' β'→(∀i v,qa i=true→ι'[i]? =some v→ι[b.α i]? =some v)→ST bb b.τ β β'→InvB X η ι β ρ L M.ls κ γ A E→
   InvB X η ι β ρ (layI b L ps) M'.ls (κ++κ1) (γ++γ1) (A++A1) (E++E1)
 | [],M,M',κ,γ,A,hl',I,h=>by
   obtain rfl:=oi h;refine⟨[],[],[],[],hl',[],by simpa using I,by simp,(fun _ h=>nomatch h),fun{η ι β b L E} O G BB HA TT B=>?_⟩;simpa only[List.append_nil,layI]using B
 | .v t ag p::ps,M,M',κ,γ,A,hl',I,h=>by
   simp only[matI]at h;split at h
   ·rename_i cs h0;obtain⟨v,hv,hs⟩:=Option.bind_eq_some_iff.1 h0;obtain⟨u,hu,hr⟩:=hget t v hv;obtain⟨us,c1,c2,c3⟩:=shape_ok hs hr;obtain⟨M1,h1,h2⟩:=Option.bind_eq_some_iff.1 h;obtain⟨δ,κ1,A1,hl1,I1,l1,k1⟩:=matL_ok hf I c1 h1;obtain⟨δ2,κ2,γ2,A2,hl2,E2,I2,l2,v2,k2⟩:=matI_ok hget hf I1 h2;rw[List.append_assoc,List.append_assoc]at I2;refine⟨δ++δ2,κ1++κ2,γ2,A1++A2,hl2,(t,u)::E2,I2,by rw[l2,l1,List.append_assoc],?_,fun{η ι β b L E} O G BB HA TT B=>?_⟩
    ·intro q hq;rcases List.mem_cons.1 hq with rfl|hq
     ·exact hu
     exact v2 q hq
    obtain⟨B1,r1⟩:=k1 O G HA B;have B3:=B1.env1 (t:=t) (mkVX_ok r1 c3);rw[layL_env p]at B3;have B2:=k2 O G BB HA TT B3;rw[List.append_assoc,List.append_assoc,c2,List.append_assoc]at B2;exact B2
   cases h
 | .fn t f p::ps,M,M',κ,γ,A,hl',I,h=>by
   simp only[matI]at h;split at h
   ·rename_i f' cs h0;split at h
    ·rename_i hff;obtain rfl:=Nat.eq_of_beq_eq_true hff;obtain⟨u,hu,us,c1,c2⟩:=hget t _ h0;obtain⟨M1,h1,h2⟩:=Option.bind_eq_some_iff.1 h;obtain⟨δ,κ1,A1,hl1,I1,l1,k1⟩:=matL_ok hf I c1 h1;obtain⟨δ2,κ2,γ2,A2,hl2,E2,I2,l2,v2,k2⟩:=matI_ok hget hf I1 h2;rw[List.append_assoc,List.append_assoc]at I2;refine⟨δ++δ2,κ1++κ2,γ2,A1++A2,hl2,(t,u)::E2,I2,by rw[l2,l1,List.append_assoc],?_,fun{η ι β b L E} O G BB HA TT B=>?_⟩
     ·intro q hq;rcases List.mem_cons.1 hq with rfl|hq
      ·exact hu
      exact v2 q hq
     obtain⟨B1,r1⟩:=k1 O G HA B;have B3:=B1.env1 (t:=t) (x:= .fn f (layL b L p).2) (u:=u) ⟨us,r1,c2⟩;rw[layL_env p]at B3;have B2:=k2 O G BB HA TT B3;rw[List.append_assoc,List.append_assoc,List.append_assoc]at B2;exact B2
    cases h
   cases h
 | .bx s p::ps,M,M',κ,γ,A,hl',I,h=>by
   simp only[matI]at h;split at h
   ·rename_i bb _;split at h
    ·rename_i cs hp' h0;obtain⟨M1,h1,h2⟩:=Option.bind_eq_some_iff.1 h;obtain⟨hx,hl0,t1,⟨blk,vs,t2,t3,rfl⟩,t4⟩:=takeB_ok h0 I.hp;have I0:Inv X η' ι' β' ρ (A++hl0) {M with hp:=hp'} κ γ A hl0:=⟨HpTo.refl _,t4,I.ats,I.bs,I.lc⟩;obtain⟨δ,κ1,A1,hl1,I1,l1,k1⟩:=matL_ok hf I0 t3 h1
     have I2:Inv X η' ι' β' ρ hl {M1 with bs:=M1.bs++ [bb],bc:=M1.bc++ [cs]} (κ++κ1) (γ++ [blk]) (A++(A1++ [Box blk vs])) hl1:=by
      refine⟨?_,I1.hp,I1.ats,?_,I1.lc⟩
      ·refine I.to.trans ((HpTo.left A (HpTo.of_perm t1)).trans ?_);refine(HpTo.of_perm (?_:(A++Box blk vs::hl0).Perm ([Box blk vs]++(A++hl0)))).trans ((HpTo.left [_] I1.to).trans (HpTo.of_perm ?_))
       ·exact List.perm_middle
       rw[List.append_assoc,List.append_assoc,List.append_assoc];have:=(List.perm_middle (a:=Box blk vs) (l₁:=A++A1) (l₂:=hl1)).symm;simpa[List.append_assoc]using this
      rw[List.map_append,I1.bs,List.map_append];simp[t2]
     obtain⟨δ2,κ2,γ2,A2,hl2,E2,I3,l2,v2,k2⟩:=matI_ok hget hf I2 h2;rw[List.append_assoc,List.append_assoc,List.append_assoc]at I3;refine⟨δ++δ2,κ1++κ2,[blk]++γ2,(A1++ [Box blk vs])++A2,hl2,E2,I3,by rw[l2,←List.append_assoc,←l1],v2,fun{η ι β b L E} O G BB HA TT B=>?_⟩;obtain⟨B1,r1⟩:=k1 O G HA B;have B3:=B1.box O (blk:=blk) r1;rw[layL_nb p,List.append_assoc]at B3;have B2:=k2 O G BB HA TT B3;rw[List.append_assoc,List.append_assoc,List.append_assoc]at B2;exact B2
    cases h
   cases h
 | .kb k p::ps,M,M',κ,γ,A,hl',I,h=>by
   simp only[matI]at h;split at h
   ·rename_i hk;rw[Nat.blt_eq]at hk;split at h
    ·rename_i cs hp' h0;obtain⟨M1,h1,h2⟩:=Option.bind_eq_some_iff.1 h;obtain⟨hx,hl0,t1,⟨blk,vs,t2,t3,rfl⟩,t4⟩:=takeB_ok h0 I.hp;have I0:Inv X η' ι' β' ρ (A++hl0) {M with hp:=hp'} κ γ A hl0:=⟨HpTo.refl _,t4,I.ats,I.bs,I.lc⟩;obtain⟨δ,κ1,A1,hl1,I1,l1,k1⟩:=matL_ok hf I0 t3 h1
     have I2:Inv X η' ι' β' ρ hl M1 (κ++κ1) γ (A++(A1++ [Box blk vs])) hl1:=by
      refine⟨?_,I1.hp,I1.ats,I1.bs,I1.lc⟩;refine I.to.trans ((HpTo.left A (HpTo.of_perm t1)).trans ?_);refine(HpTo.of_perm (?_:(A++Box blk vs::hl0).Perm ([Box blk vs]++(A++hl0)))).trans ((HpTo.left [_] I1.to).trans (HpTo.of_perm ?_))
      ·exact List.perm_middle
      rw[List.append_assoc,List.append_assoc,List.append_assoc];have:=(List.perm_middle (a:=Box blk vs) (l₁:=A++A1) (l₂:=hl1)).symm;simpa[List.append_assoc]using this
     obtain⟨δ2,κ2,γ2,A2,hl2,E2,I3,l2,v2,k2⟩:=matI_ok hget hf I2 h2;rw[List.append_assoc,List.append_assoc]at I3;refine⟨δ++δ2,κ1++κ2,γ2,(A1++ [Box blk vs])++A2,hl2,E2,I3,by rw[l2,←List.append_assoc,←l1],v2,fun{η ι β b L E} O G BB HA TT B=>?_⟩;obtain⟨B1,r1⟩:=k1 O G HA B;have B3:=B1.step [] [] (fs1:=[]) (hx1:=[.box (b.τ k) (layL b L p).2]) (A1:=[Box blk vs]) (fun _ h=>nomatch h) ⟨⟨blk,vs,get_app _ (TT k blk hk t2),by simpa using r1,rfl⟩,trivial⟩;simp only[List.append_nil,List.map_nil,List.length_nil,Nat.add_zero]at B3;rw[List.append_assoc]at B3;have B2:=k2 O G BB HA TT B3;rw[List.append_assoc,List.append_assoc]at B2;exact B2
    cases h
   cases h
 | .arr k t::ps,M,M',κ,γ,A,hl',I,h=>by
   simp only[matI]at h;split at h
   ·rename_i hk;split at h
    ·rename_i t' i hp1 h0;split at h
     ·rename_i ht;subst ht;split at h
      ·rename_i xs hxs;obtain⟨hx,hl0,t1,⟨v,c,xs',t2,t3,t4,rfl⟩,t5⟩:=takeA_ok h0 I.hp;rw[leafAs hxs]at t3;cases oi t3
       have I2:Inv X η' ι' β' ρ hl {M with ls:=M.ls++ [⟨.list t',xs⟩],lc:=M.lc++ [.cst undef],hp:=hp1} κ γ (A++ [Arr v t'.n c]) hl0:=by
        refine⟨?_,t5,I.ats,I.bs,lcApp I.lc rfl⟩;rw[List.append_assoc];exact I.to.trans (HpTo.left A (HpTo.of_perm t1))
       obtain⟨δ2,κ2,γ2,A2,hl2,E2,I3,l2,v2,k2⟩:=matI_ok hget hf I2 h;rw[List.append_assoc]at I3;refine⟨[⟨.list t',xs⟩]++δ2,κ2,γ2,[Arr v t'.n c]++A2,hl2,E2,I3,by rw[l2,List.append_assoc],v2,fun{η ι β b L E} O G BB HA TT B=>?_⟩;have e1:(η++(M.ls++ [⟨.list t',xs⟩]))[b.nl+L.ts.length]? =some ⟨.list t',xs⟩:=by rw[B.len,←O.nl,←List.append_assoc,←List.length_append];simp
       have B1:=B.step [⟨.list t',xs⟩] [] (fs1:=[]) (hx1:=[.arr (b.α k) t' (b.nl+L.ts.length)]) (A1:=[Arr v t'.n c]) (fun _ h=>nomatch h) ⟨⟨v,c,xs,get_app _ (HA k v hk t2),e1,t4,rfl⟩,trivial⟩;have B2:=k2 (L:={L with ts:=L.ts++ [.list t'],hx:=L.hx++ [.arr (b.α k) t' (b.nl+L.ts.length)]}) O G BB HA TT (by simpa using B1);rw[List.append_assoc]at B2;exact B2
      cases h
     cases h
    cases h
   cases h
 | .keep k t i::ps,M,M',κ,γ,A,hl',I,h=>by
   simp only[matI]at h;split at h
   ·rename_i hk;simp only[Bool.and_eq_true,Nat.blt_eq]at hk;split at h
    ·rename_i t' i' hp1 h0;split at h
     ·rename_i ht;obtain⟨rfl,rfl⟩:=ht;obtain⟨hx,hl0,t1,⟨v,c,xs,t2,t3,t4,rfl⟩,t5⟩:=takeA_ok h0 I.hp
      have I2:Inv X η' ι' β' ρ hl {M with hp:=hp1} κ γ (A++ [Arr v t'.n c]) hl0:=by
       refine⟨?_,t5,I.ats,I.bs,I.lc⟩;rw[List.append_assoc];exact I.to.trans (HpTo.left A (HpTo.of_perm t1))
      obtain⟨δ2,κ2,γ2,A2,hl2,E2,I3,l2,v2,k2⟩:=matI_ok hget hf I2 h;rw[List.append_assoc]at I3;refine⟨δ2,κ2,γ2,[Arr v t'.n c]++A2,hl2,E2,I3,l2,v2,fun{η ι β b L E} O G BB HA TT B=>?_⟩;have B1:=B.step [] [] (fs1:=[]) (hx1:=[.arr k t' i']) (A1:=[Arr v t'.n c]) (fun _ h=>nomatch h) ⟨⟨v,c,xs,get_app _ ((BB.a k hk.1).trans t2),get_app _ ((BB.l i' hk.2).trans t3),t4,rfl⟩,trivial⟩;have B2:=k2 (L:={L with hx:=L.hx++ [.arr k t' i']}) O G BB HA TT (by simpa using B1);rw[List.append_assoc]at B2;exact B2
     cases h
    cases h
   cases h
 | .aro k s::ps,M,M',κ,γ,A,hl',I,h=>by
   simp only[matI]at h;split at h
   ·rename_i hk;split at h
    ·rename_i s' i hp1 h0;split at h
     ·rename_i hs;obtain⟨hs,hpat⟩:=hs;split at h
      ·rename_i x hx;obtain⟨hh1,hl0,t1,⟨v,t2,t3,t4⟩,t5⟩:=takeO_ok h0 I.hp;obtain⟨gv,g1,g2⟩:=Ow.move (β':=β') t4 hs hpat (leafAs hx)
       have I2:Inv X η' ι' β' ρ hl {M with ls:=M.ls++ [⟨s.tc,x⟩],lc:=M.lc++ [.cst undef],ats:=M.ats++ [s'.gh],hp:=hp1} (κ++ [gv]) γ (A++ [hh1]) hl0:=by
        refine⟨?_,t5,I.ats.app ⟨g1,trivial⟩,I.bs,lcApp I.lc (by cases s<;>rfl)⟩;rw[List.append_assoc];exact I.to.trans (HpTo.left A (HpTo.of_perm t1))
       obtain⟨δ2,κ2,γ2,A2,hl2,E2,I3,l2,v2,k2⟩:=matI_ok hget hf I2 h;rw[List.append_assoc,List.append_assoc]at I3;refine⟨[⟨s.tc,x⟩]++δ2,[gv]++κ2,γ2,[hh1]++A2,hl2,E2,I3,by rw[l2,List.append_assoc],v2,fun{η ι β b L E} O G BB HA TT B=>?_⟩;have e1:(η++(M.ls++ [⟨s.tc,x⟩]))[b.nl+L.ts.length]? =some ⟨s.tc,x⟩:=by rw[B.len,←O.nl,←List.append_assoc,←List.length_append];exact List.getElem?_concat_length ..
       have e3:(ι++(κ++ [gv]))[b.na+L.na]? =some gv:=by rw[←B.na,←O.na,←List.append_assoc,←List.length_append];exact List.getElem?_concat_length ..
       have B1:=B.step [⟨s.tc,x⟩] [gv] (fs1:=[]) (hx1:=[.ow (b.α k) (s.sg (b.na+L.na)) (b.nl+L.ts.length)]) (A1:=[hh1]) (fun _ h=>nomatch h) ⟨⟨v,get_app _ (HA k v hk t2),t3,g2 e1 e3⟩,trivial⟩;have B2:=k2 (L:={L with ts:=L.ts++ [s.tc],hx:=L.hx++ [.ow (b.α k) (s.sg (b.na+L.na)) (b.nl+L.ts.length)],na:=L.na+1}) O G BB HA TT (by simpa only[List.map_cons,List.map_nil,List.append_nil,List.length_cons,List.length_nil,Nat.zero_add]using B1);rw[List.append_assoc,List.append_assoc]at B2;exact B2
      cases h
     cases h
    cases h
   cases h
 | .keepo k s i::ps,M,M',κ,γ,A,hl',I,h=>by
   simp only[matI]at h;split at h
   ·rename_i hk;simp only[Bool.and_eq_true,Nat.blt_eq]at hk;obtain⟨hk1,hk2,hk3,hk4⟩:=hk;split at h
    ·rename_i s' i' hp1 h0;split at h
     ·rename_i ht;obtain⟨rfl,rfl⟩:=ht;obtain⟨hh1,hl0,t1,⟨v,t2,t3,t4⟩,t5⟩:=takeO_ok h0 I.hp
      have I2:Inv X η' ι' β' ρ hl {M with hp:=hp1} κ γ (A++ [hh1]) hl0:=by
       refine⟨?_,t5,I.ats,I.bs,I.lc⟩;rw[List.append_assoc];exact I.to.trans (HpTo.left A (HpTo.of_perm t1))
      obtain⟨δ2,κ2,γ2,A2,hl2,E2,I3,l2,v2,k2⟩:=matI_ok hget hf I2 h;rw[List.append_assoc]at I3;refine⟨δ2,κ2,γ2,[hh1]++A2,hl2,E2,I3,l2,v2,fun{η ι β b L E} O G BB HA TT B=>?_⟩
      have B1:=B.step [] [] (fs1:=[]) (hx1:=[.ow k s' i']) (A1:=[hh1]) (fun _ h=>nomatch h) ⟨⟨v,get_app _ ((BB.a k hk1).trans t2),t3,by
       have:=(Ow.keep (η:=η) (ι:=ι) t4 hk3 hk4 (BB.l i' hk2) BB.a).up (M.ls++ []) (κ++ []) (View.le_refl ρ);exact this⟩,trivial⟩
      have B2:=k2 (L:={L with hx:=L.hx++ [.ow k s' i']}) O G BB HA TT (by simpa using B1);rw[List.append_assoc]at B2;exact B2
     cases h
    cases h
   cases h
end
abbrev JP:=List JI
def JP.lay(j:JP)(nl:Nat)(base:St):Lay:=layI ⟨nl,base.na,base.nb,id,id,id⟩ {} j
def JP.st(j:JP)(nl:Nat)(base:St):St:=⟨(j.lay nl base).env,(j.lay nl base).hx,base.facts++(j.lay nl base).fs,base.na+(j.lay nl base).na,base.nb+(j.lay nl base).nb,base.kn⟩
def JP.ts(j:JP)(nl:Nat)(base:St):List Tc:=(j.lay nl base).ts
def coJ(bl ba bb:Nat)(η:List Leaf)(fs:List Fact)(st:St)(j:JP):Option (List Leaf):=(matI (sameC bl ba bb) η fs st.get bl ba bb (fun k=>Nat.blt k ba) {hp:=st.heap} j).map (·.ls)
theorem subE_of{E' E:Env}(h: ∀p∈E',Eng.look E p.1=some p.2):subE E' E:=by
 induction E' with
 |nil=>trivial
 |cons p l ih=>exact⟨h p (List.mem_cons_self ..),ih fun q hq=>h q (List.mem_cons_of_mem _ hq)⟩
theorem coJ_ok{base st:St}{E:Env}{hl:List Hl}{j:JP}{ls:List Leaf}(B:Base η.length ι.length β.length η ι β η' ι' β')(R:Rel X η' ι' β' st ρ E hl)(hb: ∀f∈base.facts,f.R X η ι ρ)(hna:ι.length=base.na)(hnb:β.length=base.nb)(hkn: ∀p∈base.kn,η[p.1]? =some ⟨.bool,p.2⟩)
 (h:coJ η.length ι.length β.length η' st.facts st j=some ls):
 ∃κ γ M E',HpTo hl M∧subE E' E∧Rel X (η++ls) (ι++κ) (β++γ) (j.st η.length base) ρ E' M∧ls.map (·.1)=j.ts η.length base:=by
 obtain⟨M',h1,rfl⟩:=Option.map_eq_some_iff.1 h;obtain⟨δ,κ,γ,A,hl1,E1,I,l1,v1,k1⟩:=matI_ok (val:=Eng.look E) (fun t v h=>R.env.get h) R.facts (M:={hp:=st.heap}) (κ:=[]) (γ:=[]) (A:=[]) (hl:=hl) (hl':=hl) ⟨HpTo.refl _,R.heap,trivial,rfl,trivial⟩ h1;have K:=k1 (η:=η) (ι:=ι) (β:=β) (b:=⟨η.length,base.na,base.nb,id,id,id⟩) (L:={}) (E:=[]) ⟨rfl,hna,hnb⟩ (fun c d v hs hd=>sameC_ok B hs hd) ⟨B.l,B.a,fun i h=>absurd h (Nat.not_lt_zero i),B.bl,B.ba⟩ (fun i v hq hv=>(B.a i (by rwa[Nat.blt_eq]at hq)).trans hv) (fun k blk hk h=>(B.b k hk).trans h) InvB.none;simp only[List.nil_append]at K I;refine⟨κ,γ,A,E1,I.to.trans (HpTo.drop _ _),subE_of v1,⟨K.env,K.hx,fun f hf=>?_,?_,?_,fun p hp=>get_app _ (hkn p hp)⟩,K.ts⟩
 ·rcases List.mem_append.1 hf with hf|hf
  ·exact(hb f hf).up _ _ (View.le_refl ρ)
  exact K.fs f hf
 ·show(ι++κ).length=base.na+_;rw[List.length_append,K.na,hna];rfl
 show(β++γ).length=base.nb+_;rw[List.length_append,K.nb,hnb];rfl
end Go.Dn
namespace Go.Dn
open Go Go.Eng
set_option maxRecDepth 100000
def HX.flat:HX→Bool
 | .box .. =>true
 | .arr _ t _=>t.flat
 | .ow .. =>false
section
variable {X:Amb}{η:List Leaf}{ι:List Value}{β:List Nat}{ρ:View}
theorem rdL_flat{t:Tc}{ρ ρ':View}(hf:t.flat=true): ∀{xs:List t.den} {cs:List Value},rdL (t.enc X) ρ xs cs→rdL (t.enc X) ρ' xs cs
 | [],_,h=>h
 |_::_,_,h=>by obtain⟨c,d,rfl,h1,h2⟩:=h;exact⟨c,d,rfl,enc_flat hf h1,rdL_flat hf h2⟩
def HX.vf:HX→Bool
 | .box .. =>true
 | .arr _ t _=>t.flat
 | .ow _ (.mp t) _=>t.flat
 | .ow .. =>true
theorem MR_flat{t:Tc}{ρ ρ':View}(hf:t.flat=true){α:Type}: ∀{l:List (α×Value)} {m:List (α×t.den)},MR (t.enc X) ρ l m→MR (t.enc X) ρ' l m
 | [],[],_=>trivial
 |_::_,_::_,⟨h1,⟨cs,h2,h3⟩,h4⟩=>⟨h1,⟨cs,h2,enc_flat hf h3⟩,MR_flat hf h4⟩
 | [],_::_,h=>h.elim
 |_::_,[],h=>h.elim
theorem heapR_vf{ρ ρ':View}: ∀{l:List HX} {hs:List Hl},l.all HX.vf=true→heapR X η ι β ρ l hs→heapR X η ι β ρ' l hs
 | [],[],_,_=>trivial
 | .box b l::r,h::hs,hf,hr=>by
   simp only[List.all_cons,Bool.and_eq_true]at hf;exact⟨hr.1,heapR_vf hf.2 hr.2⟩
 | .arr k t i::r,h::hs,hf,hr=>by
   simp only[List.all_cons,Bool.and_eq_true]at hf;obtain⟨v,c,xs,h1,h2,h3,h4⟩:=hr.1;exact⟨⟨v,c,xs,h1,h2,rdL_flat hf.1 h3,h4⟩,heapR_vf hf.2 hr.2⟩
 | .ow k s i::r,h::hs,hf,hr=>by
   simp only[List.all_cons,Bool.and_eq_true]at hf;obtain⟨v,h1,h2,h3⟩:=hr.1;refine⟨⟨v,h1,h2,?_⟩,heapR_vf hf.2 hr.2⟩
   cases s with
   |ns e r g=>exact h3
   |nh e r g m y=>exact h3
   |mp t=>obtain⟨r,c,m,g1,g2,g3,g4⟩:=h3;exact⟨r,c,m,g1,g2,MR_flat hf.1 g3,g4⟩
 | [],_::_,_,h=>h.elim
 | .box .. ::_,[],_,h=>h.elim
 | .arr .. ::_,[],_,h=>h.elim
 | .ow .. ::_,[],_,h=>h.elim
theorem heapR_part(q:HX→Bool): ∀{l:List HX} {hs:List Hl},heapR X η ι β ρ l hs→ ∃a b,hs.Perm (a++b)∧heapR X η ι β ρ (l.filter q) a∧heapR X η ι β ρ (l.filter fun h=> !q h) b
 | [],[],_=>⟨[],[],List.Perm.refl _,trivial,trivial⟩
 |x::l,h::hs,hr=>by
   obtain⟨a,b,h1,h2,h3⟩:=heapR_part q hr.2
   cases hq:q x with
   |true=>
     refine⟨h::a,b,h1.cons h,?_,?_⟩
     ·rw[List.filter_cons_of_pos hq];exact⟨hr.1,h2⟩
     rw[List.filter_cons_of_neg (by simp[hq])];exact h3
   |false=>
     refine⟨a,h::b,(h1.cons h).trans List.perm_middle.symm,?_,?_⟩
     ·rw[List.filter_cons_of_neg (by simp[hq])];exact h2
     rw[List.filter_cons_of_pos (by simp[hq])];exact⟨hr.1,h3⟩
 | [],_::_,h=>h.elim
 |_::_,[],h=>h.elim
theorem rdL_det{t:Tc}{ρ ρ':View}(hf:t.flat=true): ∀{xs:List t.den} {c d:List Value},rdL (t.enc X) ρ xs c→rdL (t.enc X) ρ' xs d→c=d
 | [],_,_,h,h'=>by obtain rfl:=h;obtain rfl:=h';rfl
 |_::_,_,_,h,h'=>by
   obtain⟨c,d,rfl,h1,h2⟩:=h;obtain⟨c',d',rfl,h1',h2'⟩:=h';rw[enc_det hf h1 h1',rdL_det hf h2 h2']
theorem CX.det{c:CX}{u v:Value}(h:c.R X η ι β u)(h':c.R X η ι β v):u=v:=by
 cases c with
 |lf i=>obtain⟨l,h1,rfl⟩:=h;obtain⟨l',h2,rfl⟩:=h';rw[h1]at h2;cases oi h2;rfl
 | «at» k=>exact oi (h.symm.trans h')
 |cst x=>exact h.trans h'.symm
 |ptr b o=>obtain⟨l,h1,rfl⟩:=h;obtain⟨l',h2,rfl⟩:=h';rw[h1]at h2;cases oi h2;rfl
 |ep k o=>obtain⟨b,a,h1,rfl⟩:=h;obtain⟨b',a',h2,rfl⟩:=h';rw[h1]at h2;simp only[Option.some.injEq,Value.pointer.injEq,Addr.mk.injEq]at h2;obtain⟨rfl,rfl,_⟩:=h2;rfl
 |pd b o m=>obtain⟨l,k,i,h1,h2,rfl⟩:=h;obtain⟨l',k',i',h1',h2',rfl⟩:=h';rw[h1]at h1';cases oi h1';rw[h2]at h2';cases oi h2';rfl
 |er c=>exact h.trans h'.symm
theorem cells_det: ∀{l:List CX} {us vs:List Value},cellsR X η ι β l us→cellsR X η ι β l vs→us=vs
 | [],[],[],_,_=>rfl
 |c::l,u::us,v::vs,h,h'=>by rw[CX.det h.1 h'.1,cells_det h.2 h'.2]
 | [],_::_,_,h,_=>h.elim
 | [],[],_::_,_,h=>h.elim
 |_::_,[],_,h,_=>h.elim
 |_::_,_::_,[],_,h=>h.elim
theorem HX.det{ρ ρ':View}{x:HX}{h h':Hl}(hf:x.flat=true)(hr:x.R X η ι β ρ h)(hr':x.R X η ι β ρ' h'):h=h':=by
 cases x with
 |box b l=>
   obtain⟨blk,vs,h1,h2,rfl⟩:=hr;obtain⟨blk',vs',h1',h2',rfl⟩:=hr';rw[h1]at h1';cases oi h1';rw[cells_det h2 h2']
 |arr k t i=>
   obtain⟨v,c,xs,h1,h2,h3,rfl⟩:=hr;obtain⟨v',c',xs',h1',h2',h3',rfl⟩:=hr';rw[h1]at h1';cases oi h1';rw[h2]at h2';cases oi h2';rw[rdL_det hf h3 h3']
 |ow k s i=>cases hf
end
def HX.beq:HX→HX→Bool
 | .box b l,.box b' l'=>Nat.beq b b'&&beqC l l'
 | .arr k t i,.arr k' t' i'=>Nat.beq k k'&&decide (t=t')&&Nat.beq i i'
 |_,_=>false
theorem HX.beq_ok{a b:HX}(h:a.beq b=true):a=b:=by
 cases a<;>cases b<;>simp only[HX.beq,Bool.and_eq_true,decide_eq_true_eq]at h<;>try (cases h;done)
 ·obtain⟨h1,h2⟩:=h;rw[Nat.eq_of_beq_eq_true h1,beqC_ok h2]
 obtain⟨⟨h1,h2⟩,h3⟩:=h;rw[Nat.eq_of_beq_eq_true h1,h2,Nat.eq_of_beq_eq_true h3]
def takeX(x:HX):List HX→Option (List HX)
 | []=>none
 |y::r=>bif x.beq y then some r else(takeX x r).map (y:: ·)
def takeXs:List HX→List HX→Option (List HX)
 | [],h=>some h
 |x::l,h=>(takeX x h).bind (takeXs l)
section
variable {X:Amb}{η:List Leaf}{ι:List Value}{β:List Nat}{ρ:View}
theorem takeX_ok{ρ':View}{x:HX}{h0:Hl}(hf:x.flat=true)(hr0:x.R X η ι β ρ h0): ∀{l u:List HX} {hs:List Hl},takeX x l=some u→heapR X η ι β ρ' l hs→ ∃hu,hs.Perm (h0::hu)∧heapR X η ι β ρ' u hu
 |y::r,u,h::hs,hk,hr=>by
   simp only[takeX]at hk
   cases hb:x.beq y with
   |true=>
     rw[hb]at hk;obtain rfl:=oi hk;obtain rfl:=HX.beq_ok hb;rw[HX.det hf hr0 hr.1];exact⟨hs,List.Perm.refl _,hr.2⟩
   |false=>
     rw[hb]at hk;obtain⟨u',h1,rfl⟩:=Option.map_eq_some_iff.1 hk;obtain⟨hu,h2,h3⟩:=takeX_ok hf hr0 h1 hr.2;exact⟨h::hu,(h2.cons h).trans (List.Perm.swap _ _ _),hr.1,h3⟩
 | [],_,_,hk,_=>by cases hk
 |_::_,_,[],_,hr=>hr.elim
theorem takeXs_ok{ρ':View}: ∀{l m u:List HX} {h0 hs:List Hl},l.all HX.flat=true→heapR X η ι β ρ l h0→takeXs l m=some u→heapR X η ι β ρ' m hs→ ∃hu,hs.Perm (h0++hu)∧heapR X η ι β ρ' u hu
 | [],m,u,[],hs,_,_,hk,hr=>by obtain rfl:=oi hk;exact⟨hs,List.Perm.refl _,hr⟩
 |x::l,m,u,h::h0,hs,hf,h1,hk,hr=>by
   simp only[List.all_cons,Bool.and_eq_true]at hf;obtain⟨v,h2,h3⟩:=Option.bind_eq_some_iff.1 hk;obtain⟨hu,a1,a2⟩:=takeX_ok hf.1 h1.1 h2 hr;obtain⟨hv,b1,b2⟩:=takeXs_ok hf.2 h1.2 h3 a2;exact⟨hv,a1.trans (b1.cons h),b2⟩
 | [],_,_,_::_,_,_,h,_,_=>h.elim
 |_::_,_,_,[],_,_,h,_,_=>h.elim
def HX.frz(ks:List Nat):HX→Bool
 | .arr k t _=>ks.any (Nat.beq k)&&Nat.blt 0 t.n
 | .ow k (.ns ..) _=>ks.any (Nat.beq k)
 |_=>false
def HX.fact:HX→List Fact
 | .arr k t i=>[.rs k t i]
 | .ow k (.ns e r _) i=>[.rs k (.pair (.list e) r) i]
 |_=>[]
def St.frz(st:St)(ks:List Nat):St:={st with heap:=st.heap.filter fun h=> !h.frz ks,facts:=st.facts++(st.heap.filter (HX.frz ks)).flatMap HX.fact}
theorem frz_list{C:Cx}{w:World}: ∀{l:List HX} {b a:List Hl} {ρ:View},(∀h∈l,(∃k t i,h=HX.arr k t i∧0<t.n)∨ ∃k e r g i,h=HX.ow k (.ns e r g) i)→heapR X η ι β ρ l b→Hp C w ρ (b++a)→ ∃ρ',View.le ρ ρ'∧Hp C w ρ' a∧ ∀f∈l.flatMap HX.fact,f.R X η ι ρ'
 | [],[],a,ρ,_,_,H=>⟨ρ,View.le_refl ρ,H,fun _ h=>nomatch h⟩
 |x::l,h::b,a,ρ,hx,hr,H=>by
   rcases hx _ (List.mem_cons_self ..)with⟨k,t,i,rfl,hn⟩|⟨k,e,r,g,i,rfl⟩
   ·obtain⟨v,c,xs,h1,h2,h3,rfl⟩:=hr.1;rw[←enc_n X t]at H hn;obtain⟨ρ1,l1,H1,r1⟩:=Hp.frz (H:Hp C w ρ (Arr v (t.enc X).n c::(b++a))) hn h3;have hr2:=hr.2.up [] [] [] l1;rw[List.append_nil,List.append_nil,List.append_nil]at hr2;obtain⟨ρ2,l2,H2,r2⟩:=frz_list (fun h hh=>hx h (List.mem_cons_of_mem _ hh)) hr2 H1;refine⟨ρ2,View.le_trans l1 l2,H2,fun f hf=>?_⟩;rcases List.mem_cons.1 hf with rfl|hf
    ·exact⟨v,xs,h1,h2,r1.up l2⟩
    exact r2 f hf
   obtain⟨v,h1,_,us,xs,_,h2,⟨h3,h4,h5⟩,rfl⟩:=hr.1;rw[←enc_n X e]at h3;obtain⟨ρ1,l1,H1,r1⟩:=Hp.sfrz h3 (H:Hp C w ρ (NS (e.enc X) (r.enc X) v us xs::(b++a)));have hr2:=hr.2.up [] [] [] l1;rw[List.append_nil,List.append_nil,List.append_nil]at hr2;obtain⟨ρ2,l2,H2,r2⟩:=frz_list (fun h hh=>hx h (List.mem_cons_of_mem _ hh)) hr2 H1;refine⟨ρ2,View.le_trans l1 l2,H2,fun f hf=>?_⟩;rcases List.mem_cons.1 hf with rfl|hf
   ·exact⟨v,xs,h1,h2,r1.up l2⟩
   exact r2 f hf
 | [],_::_,_,_,_,h,_=>h.elim
 |_::_,[],_,_,_,h,_=>h.elim
theorem frz_ok{C:Cx}{w:World}{st:St}{E:Env}{hl hs:List Hl}(ks:List Nat)(R:Rel X η ι β st ρ E hl)(H:Hp C w ρ (hl++hs)): ∃ρ' hl',View.le ρ ρ'∧Rel X η ι β (st.frz ks) ρ' E hl'∧Hp C w ρ' (hl'++hs):=by
 obtain⟨b,a,h1,h2,h3⟩:=heapR_part (HX.frz ks) R.heap
 have H1:Hp C w ρ (b++(a++hs)):=by
  have:=H.perm (h1.append_right hs);rwa[List.append_assoc]at this
 obtain⟨ρ',hle,H2,hf⟩:=frz_list (l:=st.heap.filter (HX.frz ks)) (fun h hh=>by
  have:=(List.mem_filter.1 hh).2
  cases h with
  |arr k t i=>simp only[HX.frz,Bool.and_eq_true]at this;exact .inl ⟨k,t,i,rfl,by simpa using this.2⟩
  |box b l=>cases this
  |ow k s i=>
    cases s with
    |ns e r g=>exact .inr ⟨k,e,r,g,i,rfl⟩
    |_=>cases this) h2 H1
 have h4:=h3.up [] [] [] hle;rw[List.append_nil,List.append_nil,List.append_nil]at h4;refine⟨ρ',a,hle,⟨R.env,h4,fun f hff=>?_,R.na,R.nb,R.kn⟩,H2⟩;rcases List.mem_append.1 hff with h|h
 ·have:=(R.facts f h).up [] [] hle;rwa[List.append_nil,List.append_nil]at this
 exact hf f h
def frzC(st:St):List CP→List CX→List Nat
 | .sl _::l,.at k::cs=>if((heapA k st.heap).isSome||(heapO k st.heap).isSome)=true then k::frzC st l cs else frzC st l cs
 |_::l,_::cs=>frzC st l cs
 |_,_=>[]
def frzI(st:St)(get:Nat→Option VX):List JI→List Nat
 | []=>[]
 | .v t _ l::r=>(match get t with|some v=>frzC st l v.cells|none=>[])++frzI st get r
 | .kb k l::r=>(match heapB k st.heap with|some cs=>frzC st l cs|none=>[])++frzI st get r
 | .bx (.slot t i) l::r=>(match((get t).map VX.cells).bind fun l=>l[i]? with
   |some (.ptr b _)=>(match heapB b st.heap with|some cs=>frzC st l cs|none=>[])
   |_=>[])++frzI st get r
 |_::r=>frzI st get r
end
end Go.Dn
namespace Go.Dn
open Go Go.Eng
set_option maxRecDepth 100000
inductive Ex where
 |nrm
 |ret
 |ex (id:Nat)
 deriving DecidableEq
def Ex.exit:Ex→Exit
 | .nrm=> .normal
 | .ret=> .ret
 | .ex id=> .exit id
def tupT1:Tc→List Tc→Tc
 |t,[]=>t
 |t,u::r=> .pair t (tupT1 u r)
def tupT:List Tc→Tc
 | []=> .unit
 |t::r=>tupT1 t r
def unT1:(t:Tc)→(r:List Tc)→(tupT1 t r).den→List Leaf
 |t,[],x=>[⟨t,x⟩]
 |t,u::r,x=>⟨t,x.1⟩::unT1 u r x.2
def unT:(ts:List Tc)→(tupT ts).den→List Leaf
 | [],_=>[]
 |t::r,x=>unT1 t r x
def mkT1:(t:Tc)→(r:List Tc)→List Leaf→Option (tupT1 t r).den
 |t,[],ls=>match ls with
   | [l]=>l.as t
   |_=>none
 |t,u::r,ls=>match ls with
   |l::ls=>match l.as t,mkT1 u r ls with
     |some a,some b=>some (a,b)
     |_,_=>none
   | []=>none
def mkT:(ts:List Tc)→List Leaf→Option (tupT ts).den
 | [],ls=>match ls with
   | []=>some ()
   |_=>none
 |t::r,ls=>mkT1 t r ls
structure ER where
 t:Tc
 o:Option t.den
 out:t.den→St×VX×List Leaf
def eAlloc(P:Program)(st:St)(T:TypeId):Option ER:=match tyI P T with
 |some (_,_,z,_)=>some ⟨.unit,some (),fun _=>({st with heap:= .box st.nb (z.cells.toList.map CX.cst)::st.heap,nb:=st.nb+1},.one (.ptr st.nb 0),[])⟩
 |none=>none
abbrev Effs:=St→List Leaf→Op→Option ER
structure Cfg where
 P:Program
 ids:List Nat
 nt:Nat
 ef:Effs
 N:Nat
def outSt(st:St)(d:Option Nat)(r:Out):St:={(st.put d r.v)with facts:=st.facts++r.fs,na:=st.na+r.na}
def dOk(nt:Nat):Option Nat→Bool
 |some d=>Nat.blt d nt
 |none=>true
inductive Pa where
 |s (t n:Nat)
 |h (k:Nat)
 |b (p:Pa) (j:Nat)
 |c (p:Pa) (j:Nat)
def Pa.at(st:St):Pa→Option CX
 | .s t n=>((st.get t).map VX.cells).bind fun l=>l[n]?
 | .h k=>some (.ptr k 0)
 | .b p j=>match p.at st with
   |some (.ptr bb o)=>(heapB bb st.heap).bind fun l=>l[o+j]?
   |_=>none
 | .c _ _=>none
inductive SC where
 |k (v:Value)
 |er (c:Int)
 |p (a:Pa)
 |q (a:Pa) (o:Nat)
 |lf (t:Tc)
 |sl (t:Tc)
 |own (t:Tc)
 |rf (i:Nat)
 |pt (i o:Nat)
 |ow (s:Ow)
 |ar (a:Pa) (t:Tc)
 |ao (a:Pa) (s:Ow)
inductive SI where
 |v (t:Nat) (ag:Bool) (l:List SC)
 |fn (t f:Nat) (l:List SC)
 |bx (s:Sr) (l:List SC)
 |kb (a:Pa) (l:List SC)
 |arr (a:Pa) (t:Tc)
 |keep (a:Pa)
 |aro (a:Pa) (s:Ow)
 |keepo (a:Pa)
abbrev SP:=List SI
def SC.cp(st:St):SC→CP
 | .k v=> .same (.cst v)
 | .er c=> .same (.er c)
 | .p a=> .same ((a.at st).getD (.cst undef))
 | .q a o=>match a.at st with
   |some (.ptr b _)=> .same (.ptr b o)
   |_=> .same (.cst undef)
 | .lf t=> .leaf t
 | .sl t=> .sl t
 | .own t=> .own t
 | .rf i=> .rf i
 | .pt i o=> .pt i o
 | .ow s=> .ow s
 | .ar a t=>match a.at st with
   |some (.at nn)=> .ar nn t
   |_=> .same (.cst undef)
 | .ao a s=>match a.at st with
   |some (.at nn)=> .ao nn s
   |_=> .same (.cst undef)
def SI.ji(st:St):SI→JI
 | .v t ag l=> .v t ag (l.map (SC.cp st))
 | .fn t f l=> .fn t f (l.map (SC.cp st))
 | .bx s l=> .bx s (l.map (SC.cp st))
 | .kb a l=>match a.at st with
   |some (.ptr b _)=> .kb b (l.map (SC.cp st))
   |_=> .kb 0 []
 | .arr a t=>match a.at st with
   |some (.at k)=> .arr k t
   |_=> .kb 0 []
 | .keep a=>match a.at st with
   |some (.at k)=>match heapA k st.heap with
     |some (t,i)=> .keep k t i
     |none=> .kb 0 []
   |_=> .kb 0 []
 | .aro a s=>match a.at st with
   |some (.at k)=> .aro k s
   |_=> .kb 0 []
 | .keepo a=>match a.at st with
   |some (.at k)=>match heapO k st.heap with
     |some (s,i)=> .keepo k s i
     |none=> .kb 0 []
   |_=> .kb 0 []
def SP.jp(j:SP)(st:St):JP:=j.map (SI.ji st)
inductive Pl where
 |e
 |b (p q:Pl)
 |c (t:Nat) (x:Bool) (j:SP) (p q:Pl)
 |l (j:SP) (p:Pl)
 |r (o:Ord) (K:Option Nat) (us:List (List Pa)) (p:Pl)
inductive Gu where
 |run
 |skip
 |und
 |ask (i:Nat) (b:Bool) (x:Bool)
 |no
def guard(all:List Oper)(st:St)(η:List Leaf)(o:Oper):Gu:=match o.guard with
 |none=> .run
 |some (j,b)=>match((all[j]?).bind (·.dst)).bind st.get with
   |some (.one (.lf i))=>match st.kn.find? fun p=>Nat.beq p.1 i with
     |some (_,x)=>if x=b then .run else .skip
     |none=>match η[i]? with
       |some ⟨.bool,x⟩=> .ask i b x
       |_=> .no
   |some (.one (.cst (.bool x)))=>if x=b then .run else .skip
   |some (.one (.cst (.tuple a)))=>if a.toList.isEmpty=true then .und else .no
   |_=> .no
def St.know(st:St)(i:Nat)(b:Bool):St:={st with kn:=(i,b)::st.kn}
def CX.sub(i:Nat)(b:Bool):CX→CX
 | .lf j=>bif Nat.beq i j then .cst (.bool b)else .lf j
 |c=>c
def VX.sub(i:Nat)(b:Bool):VX→VX
 | .one c=> .one (c.sub i b)
 | .agg l=> .agg (l.map (CX.sub i b))
 | .fn f l=> .fn f (l.map (CX.sub i b))
 | .tup l=> .tup (l.map fun
   | .inl c=> .inl (c.sub i b)
   | .inr l=> .inr (l.map (CX.sub i b)))
def HX.sub(i:Nat)(b:Bool):HX→HX
 | .box k l=> .box k (l.map (CX.sub i b))
 |h=>h
def St.said(st:St)(i:Nat)(b:Bool):St:={st with env:=st.env.map fun p=>(p.1,p.2.sub i b),heap:=st.heap.map (HX.sub i b),kn:=(i,b)::st.kn}
section
variable (F:Cfg)
structure Stale where
 t:Tc
 xs:List t.den
 m:Int
 k:Nat
 h:Nat
 mi:Nat
 i:Nat
def ptrOf:Op→Option Operand
 | .load _ x=>some x
 | .store _ x _=>some x
 |_=>none
def heapT(k:Nat)(hp:List HX):Option (Tc×Nat):=match heapA k hp with
 |some p=>some p
 |none=>match heapO k hp with
   |some (.ns e r _,i)=>some (.pair (.list e) r,i)
   |_=>none
def stale(hp:List HX)(fs:List Fact)(st:St)(η:List Leaf)(op:Op):Option Stale:=match(ptrOf op).bind st.op with
 |some (.one (.ep k _))=>match factV k fs,factE k fs with
   |none,some (h,t,m,i,_)=>match heapT h hp,η[m]? with
     |some (t',i'),some ⟨.int _,mm⟩=>if t'=t∧i'≠i∧0<t.n then((η[i']?).bind fun l=>l.as (.list t)).map fun xs=>⟨t,xs,mm,k,h,m,i'⟩else none
     |_,_=>none
   |_,_=>none
 |_=>none
def fresh{R:Type}(hp:List HX)(fs:List Fact)(st:St)(η:List Leaf)(op:Op)(k:List Fact→List Leaf→Option R):Option R:=match stale hp fs st η op with
 |none=>k [] η
 |some s=>(idx s.xs s.m).bind fun y=>k [.el s.k s.h s.t s.mi s.i η.length] (η++ [⟨s.t,y⟩])
def one1{R:Type}(st:St)(η:List Leaf)(o:Oper)(k:St→List Leaf→Option R):Option R:=
 if dOk F.nt o.dst=true then fresh st.heap st.facts st η o.op fun nf η=>match quiet F.P F.ids {st with facts:=nf++st.facts} η o.op with
  |some q=>q.o.bind fun x=>k (outSt st o.dst (q.out x)) (η++(q.out x).δ)
  |none=>match F.ef {st with facts:=nf++st.facts} η o.op with
    |some e=>e.o.bind fun x=>k ({(e.out x).1 with facts:=(e.out x).1.facts.drop nf.length}.put o.dst (e.out x).2.1) (η++(e.out x).2.2)
    |none=>none
 else none
def skip1{R:Type}(st:St)(η:List Leaf)(o:Oper)(k:St→List Leaf→Option R):Option R:=
 if dOk F.nt o.dst=true then k (st.put o.dst (.one (.cst undef))) η else none
def ops{R:Type}(all:List Oper):List Oper→Pl→St→List Leaf→(Pl→St→List Leaf→Option R)→Option R
 | [],pl,st,η,k=>k pl st η
 |o::l,pl,st,η,k=>match guard all st η o with
   | .run=>one1 F st η o fun s h=>ops all l pl s h k
   | .skip| .und=>skip1 F st η o fun s h=>ops all l pl s h k
   | .ask i b x=>match pl with
     | .b p q=>match b with
       |true=>if x=true then one1 F (st.said i true) η o fun s h=>ops all l p s h k else skip1 F (st.said i false) η o fun s h=>ops all l q s h k
       |false=>if x=true then skip1 F (st.said i true) η o fun s h=>ops all l p s h k else one1 F (st.said i false) η o fun s h=>ops all l q s h k
     |_=>none
   | .no=>none
def guarded{R:Type}(all:List Oper)(st:St)(η:List Leaf)(o:Oper)(pl:Pl)(run skip:Pl→St→(HX→HX)→Option R):Option R:=match guard all st η o with
 | .run=>run pl st id
 | .skip| .und=>skip pl st id
 | .ask i b x=>match pl with
   | .b p q=>match b with
     |true=>if x=true then run p (st.said i true) (HX.sub i true)else skip q (st.said i false) (HX.sub i false)
     |false=>if x=true then skip p (st.said i true) (HX.sub i true)else run q (st.said i false) (HX.sub i false)
   |_=>none
 | .no=>none
inductive Cl where
 |cell (b o:Nat) (c:CX)
 |hds (h g i:Nat) (e r:Tc)
abbrev Cls:=List Cl
def lookC(b o:Nat):Cls→Option CX
 | []=>none
 | .cell j q c::r=>bif Nat.beq j b&&Nat.beq q o then some c else lookC b o r
 |_::r=>lookC b o r
def lookH(h:Nat):Cls→Option (Nat×Nat×Tc×Tc)
 | []=>none
 | .hds j g i e r::l=>bif Nat.beq j h then some (g,i,e,r)else lookH h l
 |_::l=>lookH h l
def cOk1(st:St):Cl→Bool
 | .cell b o c=>match(heapB b st.heap).bind fun l=>l[o]? with
   |some c'=>c'.beq c
   |none=>false
 | .hds h g _ e r=>match heapO h st.heap with
   |some (.ns e' r' g',_)=>decide (g'=g∧e'=e∧r'=r)
   |some (.nh e' r' g' _ _,_)=>decide (g'=g∧e'=e∧r'=r)
   |_=>false
def cOk(cs:Cls)(st:St):Bool:=cs.all (cOk1 st)
def chk{R:Type}(cs:Cls)(st:St)(x:Option R):Option R:=if cOk cs st=true then x else none
def cellsOf(st:St):List Pa→Cls
 | []=>[]
 | .c p j::r=>match p.at st with
   |some (.ptr b o)=>match(heapB b st.heap).bind fun l=>l[o+j]? with
     |some c=> .cell b (o+j) c::cellsOf st r
     |none=>cellsOf st r
   |some (.at k)=>match heapO k st.heap with
     |some (.ns e q g,i)=> .hds k g i e q::cellsOf st r
     |_=>cellsOf st r
   |_=>cellsOf st r
 |_::r=>cellsOf st r
def qHd(P:Program)(cs:Cls)(sf:List Fact)(st:St)(η:List Leaf):Op→Option Out
 | .load T x=>match st.op x,tyI P T with
   |some (.one (.ep k 0)),some (n,_,_,false)=>match factE k sf with
     |some (h,t,m,i,x)=>match lookH h cs with
       |some (g,i',e,r)=>if n=1∧t= .pair (.list e) r∧i'=i then match(η[x]?).bind fun l=>l.as (.pair (.list e) r)with
        |some y=>some ⟨.one (.at st.na),[⟨.list e,y.1⟩],[.hd st.na h g m i x η.length e r],1⟩
        |none=>none
         else none
       |none=>none
     |none=>none
   |_,_=>none
 |_=>none
def qCell(P:Program)(cs:Cls)(st:St):Op→Option CX
 | .load T x=>match st.op x,tyI P T with
   |some (.one (.ptr b o)),some (n,_,_,false)=>if n=1 then lookC b o cs else none
   |_,_=>none
 |_=>none
def take1{R:Type}(sh:List HX)(sf:List Fact)(cs:Cls)(st:St)(η:List Leaf)(o:Oper)(k:St→List Fact→List Leaf→Option R):Option R:=
 if dOk F.nt o.dst=true then fresh sh sf st η o.op fun nf η=>match quiet F.P F.ids {st with heap:=sh,facts:=nf++sf} η o.op with
  |some q=>q.o.bind fun x=>k (outSt st o.dst (q.out x)) (sf++(q.out x).fs) (η++(q.out x).δ)
  |none=>match qCell F.P cs st o.op with
    |some c=>k (st.put o.dst (.one c)) sf η
    |none=>match qHd F.P cs sf st η o.op with
      |some x=>k (outSt st o.dst x) (sf++x.fs) (η++x.δ)
      |none=>none
 else none
def eff1{R:Type}(sh:List HX)(st:St)(η:List Leaf)(o:Oper)(k:St→List Leaf→Option R):Option R:=
 if dOk F.nt o.dst=true then fresh (st.heap++sh) st.facts st η o.op fun nf η=>match quiet F.P F.ids {st with heap:=st.heap++sh,facts:=nf++st.facts} η o.op with
  |some q=>q.o.bind fun x=>k (outSt st o.dst (q.out x)) (η++(q.out x).δ)
  |none=>match F.ef {st with heap:=st.heap++sh.filter HX.flat,facts:=nf++st.facts} η o.op with
    |some e=>e.o.bind fun x=>match takeXs (sh.filter HX.flat) (e.out x).1.heap with
      |some u=>k ({(e.out x).1 with heap:=u,facts:=(e.out x).1.facts.drop nf.length}.put o.dst (e.out x).2.1) (η++(e.out x).2.2)
      |none=>none
    |none=>none
 else none
def unst(st:St)(ps:List Pa)(x:HX):Bool:=ps.any fun p=>match p.at st,x with
 |some (.ptr b _),.box b' _=>Nat.beq b b'
 |some (.at k),.arr k' _ _=>Nat.beq k k'
 |some (.at k),.ow k' _ _=>Nat.beq k k'
 |_,_=>false
def eqON:Option Nat→Option Nat→Bool
 |none,none=>true
 |some i,some j=>Nat.beq i j
 |_,_=>false
def _root_.Go.Eng.Ord.beq:Ord→Ord→Bool
 | .done,.done=>true
 | .take i r,.take j s=>Nat.beq i j&&r.beq s
 | .one i r,.one j s=>Nat.beq i j&&r.beq s
 | .two a b r s,.two a' b' r' s'=>Nat.beq a a'&&(Nat.beq b b'&&(r.beq r'&&s.beq s'))
 | .bar i K r,.bar j L s=>Nat.beq i j&&(eqON K L&&r.beq s)
 |_,_=>false
def okd(all:List Oper)(j d i:Nat):Bool:= !Nat.beq i j&&(match all[i]? with
 |some o=>(match o.dst with
   |some d'=> !Nat.beq d d'
   |none=>true)
 |none=>false)
def isAl(all:List Oper)(j:Nat):Bool:=match all[j]? with
 |some ⟨_,.alloc _,_,_,_,_⟩=>true
 |_=>false
def _root_.Go.Eng.Ord.drop(all:List Oper)(j d:Nat):Ord→Option Ord
 | .take i r=>if okd all j d i=true then(r.drop all j d).map (.take i)else none
 | .one i r=>if i=j then some r else if okd all j d i=true then(r.drop all j d).map (.one i)else none
 | .two a b r s=>
   if b=j then(if okd all j d a=true then match r.drop all j d with
    |some r'=>if s.beq (.one a r')=true then some (.one a r')else none
    |none=>none
   else none)
   else if a=j then(if okd all j d b=true∧isAl all b=false then match s.drop all j d with
    |some s'=>if r.beq (.one b s')=true then some (.one b s')else none
    |none=>none
   else none)
   else none
 |_=>none
def flo(P:Program)(all:List Oper)(st:St)(j:Nat):Option Nat:=match all[j]? with
 |some ⟨some d,.alloc T,_,_,_,none⟩=>if(st.get d).isNone=true∧(tyI P T).isSome=true then some d else none
 |_=>none
def opsD{R:Type}(all:List Oper):Ord→Pl→List (List Pa)→List HX→List Fact→Cls→St→List Leaf→(Pl→St→List Leaf→Option R)→Option R
 | .done,pl,_,sh,_,cs,st,η,k=>chk cs st (k pl {st with heap:=st.heap++sh} η)
 | .take i r,pl,us,sh,sf,cs,st,η,k=>chk cs st<|match all[i]? with
   |some o=>guarded all st η o pl (fun pl st f=>take1 F (sh.map f) sf cs st η o fun st sf η=>opsD all r pl us (sh.map f) sf cs st η k) (fun pl st f=>skip1 F st η o fun st η=>opsD all r pl us (sh.map f) sf cs st η k)
   |none=>none
 | .one i r,pl,us,sh,sf,cs,st,η,k=>chk cs st<|match all[i]? with
   |some o=>guarded all st η o pl (fun pl st f=>eff1 F (sh.map f) st η o fun st η=>opsD all r pl us (sh.map f) sf cs st η k) (fun pl st f=>skip1 F st η o fun st η=>opsD all r pl us (sh.map f) sf cs st η k)
   |none=>none
 | .bar i _ r,pl,us,sh,_,cs,st,η,k=>chk cs st<|match all[i]? with
   |some o=>guarded all st η o pl
     (fun pl st f=>eff1 F [] {st with heap:=st.heap++sh.map f} η o fun st η=>opsD all r pl us.tail (st.heap.filter fun x=> !unst st (us.headD []) x) (st.facts++onF st.heap) (cellsOf st (us.headD [])) {st with heap:=st.heap.filter (unst st (us.headD []))} η k)
     (fun pl st f=>skip1 F {st with heap:=st.heap++sh.map f} η o fun st η=>opsD all r pl us.tail (st.heap.filter fun x=> !unst st (us.headD []) x) (st.facts++onF st.heap) (cellsOf st (us.headD [])) {st with heap:=st.heap.filter (unst st (us.headD []))} η k)
   |none=>none
 | .two i j r s,pl,us,sh,sf,cs,st,η,k=>chk cs st<|match flo F.P all st j,flo F.P all st i with
   |some d,_=>if((Ord.two i j r s).drop all j d).isSome=true∧dOk F.nt (some d)=true then match all[i]? with
    |some o=>guarded all st η o pl (fun pl st f=>eff1 F (sh.map f) st η o fun st η=>opsD all r pl us (sh.map f) sf cs st η k) (fun pl st f=>skip1 F st η o fun st η=>opsD all r pl us (sh.map f) sf cs st η k)
    |none=>none
     else none
   |none,some d=>if((Ord.two i j r s).drop all i d).isSome=true∧dOk F.nt (some d)=true then match all[j]? with
    |some o=>guarded all st η o pl (fun pl st f=>eff1 F (sh.map f) st η o fun st η=>opsD all s pl us (sh.map f) sf cs st η k) (fun pl st f=>skip1 F st η o fun st η=>opsD all s pl us (sh.map f) sf cs st η k)
    |none=>none
     else none
   |_,_=>none
 |_,_,_,_,_,_,_,_,_=>none
def drawn{R:Type}(all:List Oper)(o:Ord)(pl:Pl)(us:List (List Pa))(st:St)(η:List Leaf)(k:Pl→St→List Leaf→Option R):Option R:=
 opsD F all o pl us.tail (st.heap.filter fun x=> !unst st (us.headD []) x) (st.facts++onF st.heap) (cellsOf st (us.headD [])) {st with heap:=st.heap.filter (unst st (us.headD []))} η k
def co(st:St)(η:List Leaf)(s:St)(h:List Leaf)(j:JP):Option (tupT (j.ts η.length st)).den:=(coJ η.length st.na st.nb h (s.frz (frzI s s.get j)).facts (s.frz (frzI s s.get j)) j).bind fun l=>mkT _ l
def joined{R:Type}(st:St)(η:List Leaf)(j:JP)(k:St→List Leaf→Option R)(x:(tupT (j.ts η.length st)).den):Option R:=k (j.st η.length st) (η++unT _ x)
abbrev DenT:Type 1:={R:Type}→Pl→St→List Leaf→(Ex→Pl→St→List Leaf→Option R)→Option R
def cutF(d:DenT){R:Type}(j:JP)(p q:Pl)(st:St)(η:List Leaf)(k:Ex→Pl→St→List Leaf→Option R):Option R:=
 (d (R:=(tupT (j.ts η.length st)).den) p st η fun e _ s h=>match e with| .nrm=>co st η s h j|_=>none).bind (joined st η j fun s h=>k .nrm q s h)
def cutT(d:DenT){R:Type}(j:JP)(p q:Pl)(st:St)(η:List Leaf)(k:Ex→Pl→St→List Leaf→Option R):Option R:=
 (d (R:=(tupT (j.ts η.length st)).den ⊕ R) p st η fun e pl s h=>match e with| .nrm=>(co st η s h j).map .inl|e=>(k e pl s h).map .inr).bind fun z=>match z with
  | .inl x=>joined st η j (fun s h=>k .nrm q s h) x
  | .inr r=>some r
def cutW(t:Nat)(d:DenT):DenT:=fun{R} pl st η k=>match pl with
 | .c t' x j p q=>bif Nat.beq t t' then(match x with|false=>cutF d (j.jp st) p q st η k|true=>cutT d (j.jp st) p q st η k)else d pl st η k
 |pl=>d pl st η k
def tagR(i:Nat):Nat:=3*i
def tagB(i:Nat):Nat:=3*i+1
def tagC:Operand→Nat
 | .tmp t=>3*t+2
 |_=>2
def loopD(N:Nat)(d:DenT){R:Type}(j:JP)(p:Pl)(st:St)(η:List Leaf)(k:Ex→Pl→St→List Leaf→Option R):Option R:=
 (co st η st η j).bind fun s0=>
 (iterO N (fun s=>d (R:=(tupT (j.ts η.length st)).den ⊕ R) p (j.st η.length st) (η++unT _ s) fun e pl s h=>match e with
  | .nrm=>(co st η s h j).map .inl
  |e=>(k e pl s h).map .inr) s0:Option R)
def den:Code→DenT
 | .skip,_,pl,st,η,k=>k .nrm pl st η
 | .region i l dr,_,pl,st,η,k=>cutW (tagR i) (fun pl st η k=>match dr with
   |false=>if l.toList.all nodef=true then ops F l.toList l.toList pl st η (k .nrm)else none
   |true=>match pl with
     | .r o K us p=>if F.P.follows .mixedOrders=true∧dchk l.toList o K=true then drawn F l.toList o p us st η (k .nrm)else none
     |_=>none) pl st η k
 | .seq a b,_,pl,st,η,k=>den a pl st η fun e pl s h=>match e with| .nrm=>den b pl s h k|e=>k e pl s h
 | .cond c a b,_,pl,st,η,k=>cutW (tagC c) (fun pl st η k=>match st.op c with
   |some (.one (.lf i))=>match st.kn.find? fun p=>Nat.beq p.1 i with
     |some (_,true)=>den a pl st η k
     |some (_,false)=>den b pl st η k
     |none=>match η[i]?,pl with
       |some ⟨.bool,x⟩,.b p q=>if x=true then den a p (st.know i true) η k else den b q (st.know i false) η k
       |_,_=>none
   |some (.one (.cst (.bool true)))=>den a pl st η k
   |some (.one (.cst (.bool false)))=>den b pl st η k
   |_=>none) pl st η k
 | .block id a,_,pl,st,η,k=>cutW (tagB id) (fun pl st η k=>den a pl st η fun e pl s h=>k (if e= .ex id then .nrm else e) pl s h) pl st η k
 | .loop a,_,pl,st,η,k=>match pl with
   | .l j p=>loopD F.N (den a) (j.jp st) p st η k
   |_=>none
 | .ret,_,pl,st,η,k=>k .ret pl st η
 | .exit id,_,pl,st,η,k=>k (.ex id) pl st η
 |_,_,_,_,_,_=>none
end
end Go.Dn
