import Derived.Test.YtfokmjocophnoaaGreatDoorRulesCheckE3
namespace Go.Proofs.YtfokmjocophnoaaGreatDoor
open Go Go.Eng
set_option maxRecDepth 100000
abbrev Zc:=List Int
abbrev Zd:=Int×Int×Int×Int
def tab_math_bits_deBruijn64tab:List Int:=[0,1,56,2,57,49,28,3,61,58,42,50,38,29,17,4,62,47,59,36,45,43,51,22,53,39,33,30,24,18,12,5,63,55,48,27,60,41,37,16,46,35,44,21,52,32,23,11,54,26,40,15,34,20,31,10,25,14,19,9,13,8,7,6]
def errIds:List Nat:=[0,1,2,3,4,5,6,7,8,9,10,11,12,13,14,15,16,17]
def F_53(_N:Nat)(x1:(List ByteArray))(x2:Int)(x3:Int)(x4:Int):Option ((Int×Int) ⊕ (Unit ⊕ Bool)):=
if(decide (x3<(x1.length:Int)))=true then(
idx x1 x3 >>= fun x5=>
if(decide ((x5.size:Int)>x2))=true then(
some (.inr (.inr true)))
else(
if(decide ((w64 (x4+(w64 (1+(x5.size:Int)))))>x2))=true then(
some (.inr (.inr true)))
else(
some (.inl (w64 (x3+1),w64 (x4+(w64 (1+(x5.size:Int)))))))))
else(
some (.inr (.inl ())))
def F_19(N:Nat)(x1:(List ByteArray))(x2:Int):Option Bool:=
((iterO N (fun s=>F_53 N x1 x2 s.1 s.2) (0,0)):Option (Unit ⊕ Bool)) >>= fun z=>match z with
| .inr z=>some z
| .inl _=>
some false
def F_37(_N:Nat)(self_:Int→Int→Int→Int→Int→(List Nd)→Int→Int→ByteArray→Int→Option ((List Nd)×Int))(x1:(List Nd))(x2:Int)(x3:Int)(x4:(List Nd)):Option ((Int×Int×(List Nd)) ⊕ ((Int×(List Nd)) ⊕ ((List Nd)×Int))):=
if(decide (x3<(x1.length:Int)))=true then(
idx x1 x3 >>= fun x5=>
if(decide (x2≤0))=true then(
some (.inr (.inr (x4,0))))
else(
self_ x5.un.1 x5.un.2.1.1 x5.un.2.1.2.1 x5.un.2.1.2.2.1 x5.un.2.1.2.2.2 x5.un.2.2.1 x5.un.2.2.2.1 x5.un.2.2.2.2.1 x5.un.2.2.2.2.2 x2 >>= fun(x6,x7)=>
app x4 ([(Nd.of (x5.un.1,(x5.un.2.1.1,x5.un.2.1.2.1,x5.un.2.1.2.2.1,x5.un.2.1.2.2.2),x6,x5.un.2.2.2.1,x5.un.2.2.2.2.1,x5.un.2.2.2.2.2))]) >>= fun x8=>
some (.inl (x7,w64 (x3+1),x8))))
else(
some (.inr (.inl (x2,x4))))
def F_5:(N:Nat)→(x1:Int)→(x2:Int)→(x3:Int)→(x4:Int)→(x5:Int)→(x6:(List Nd))→(x7:Int)→(x8:Int)→(x9:ByteArray)→(x10:Int)→Option ((List Nd)×Int)
|0,_,_,_,_,_,_,_,_,_,_=>none
|N+1,x1,x2,x3,x4,x5,x6,x7,x8,x9,x10=>
((iterO N (fun s=>F_37 N (F_5 N) x6 s.1 s.2.1 s.2.2) (w64 (x10-1),0,[])):Option ((Int×(List Nd)) ⊕ ((List Nd)×Int))) >>= fun z=>match z with
| .inr z=>some z
| .inl (x11,x12)=>
some (x12,x11)
def F_43(N:Nat)(x1:(List (ByteArray×Nd×Int)))(x2:(List (ByteArray×Nd×Int)))(x3:Int):Option (((List (ByteArray×Nd×Int))×Int) ⊕ ((List (ByteArray×Nd×Int)) ⊕ ((List (ByteArray×Nd×Int))×(List ((List ByteArray)×Nd×(ByteArray×ByteArray)×Int))×Bool))):=
if(decide (x3<(x1.length:Int)))=true then(
idx x1 x3 >>= fun x4=>
F_5 N x4.2.1.un.1 x4.2.1.un.2.1.1 x4.2.1.un.2.1.2.1 x4.2.1.un.2.1.2.2.1 x4.2.1.un.2.1.2.2.2 x4.2.1.un.2.2.1 x4.2.1.un.2.2.2.1 x4.2.1.un.2.2.2.2.1 x4.2.1.un.2.2.2.2.2 700 >>= fun(x5,x6)=>
((if(decide (x6≤0))=true then(
some true)
else(
some (decide ((x4.1.size:Int)>50)))):Option Bool) >>= fun x7=>
if x7=true then(
some (.inr (.inr (x2,[],false))))
else(
app x2 ([(x4.1,(Nd.of (x4.2.1.un.1,(x4.2.1.un.2.1.1,x4.2.1.un.2.1.2.1,x4.2.1.un.2.1.2.2.1,x4.2.1.un.2.1.2.2.2),x5,x4.2.1.un.2.2.2.1,x4.2.1.un.2.2.2.2.1,x4.2.1.un.2.2.2.2.2)),x4.2.2)]) >>= fun x8=>
some (.inl (x8,w64 (x3+1)))))
else(
some (.inr (.inl x2)))
def F_44(N:Nat)(x1:(List ((List ByteArray)×Nd×(ByteArray×ByteArray)×Int)))(x2:(List (ByteArray×Nd×Int)))(x3:(List ((List ByteArray)×Nd×(ByteArray×ByteArray)×Int)))(x4:Int):Option (((List ((List ByteArray)×Nd×(ByteArray×ByteArray)×Int))×Int) ⊕ ((List ((List ByteArray)×Nd×(ByteArray×ByteArray)×Int)) ⊕ ((List (ByteArray×Nd×Int))×(List ((List ByteArray)×Nd×(ByteArray×ByteArray)×Int))×Bool))):=
if(decide (x4<(x1.length:Int)))=true then(
idx x1 x4 >>= fun x5=>
F_5 N x5.2.1.un.1 x5.2.1.un.2.1.1 x5.2.1.un.2.1.2.1 x5.2.1.un.2.1.2.2.1 x5.2.1.un.2.1.2.2.2 x5.2.1.un.2.2.1 x5.2.1.un.2.2.2.1 x5.2.1.un.2.2.2.2.1 x5.2.1.un.2.2.2.2.2 700 >>= fun(x6,x7)=>
((if(decide (x7≤0))=true then(
some true)
else(
F_19 N x5.1 500 >>= fun x8=>
if x8=true then(
some true)
else(
if(decide ((x5.2.2.1.1.size:Int)>50))=true then(
some true)
else(
some (decide ((x5.2.2.1.2.size:Int)>50)))))):Option Bool) >>= fun x9=>
if x9=true then(
some (.inr (.inr (x2,x3,false))))
else(
app x3 ([(x5.1,(Nd.of (x5.2.1.un.1,(x5.2.1.un.2.1.1,x5.2.1.un.2.1.2.1,x5.2.1.un.2.1.2.2.1,x5.2.1.un.2.1.2.2.2),x6,x5.2.1.un.2.2.2.1,x5.2.1.un.2.2.2.2.1,x5.2.1.un.2.2.2.2.2)),(x5.2.2.1.1,x5.2.2.1.2),x5.2.2.2)]) >>= fun x10=>
some (.inl (x10,w64 (x4+1)))))
else(
some (.inr (.inl x3)))
def F_6(N:Nat)(x1:(List ByteArray))(x2:(List (ByteArray×Nd×Int)))(x3:(List ((List ByteArray)×Nd×(ByteArray×ByteArray)×Int))):Option ((List (ByteArray×Nd×Int))×(List ((List ByteArray)×Nd×(ByteArray×ByteArray)×Int))×Bool):=
((if(decide ((x1.length:Int)>20))=true then(
some true)
else(
if(decide ((x2.length:Int)>40))=true then(
some true)
else(
some (decide ((x3.length:Int)>60))))):Option Bool) >>= fun x4=>
if x4=true then(
some ([],[],false))
else(
F_19 N x1 500 >>= fun x5=>
if x5=true then(
some ([],[],false))
else(
((iterO N (fun s=>F_43 N x2 s.1 s.2) ([],0)):Option ((List (ByteArray×Nd×Int)) ⊕ ((List (ByteArray×Nd×Int))×(List ((List ByteArray)×Nd×(ByteArray×ByteArray)×Int))×Bool))) >>= fun z=>match z with
| .inr z=>some z
| .inl x6=>
((iterO N (fun s=>F_44 N x3 x6 s.1 s.2) ([],0)):Option ((List ((List ByteArray)×Nd×(ByteArray×ByteArray)×Int)) ⊕ ((List (ByteArray×Nd×Int))×(List ((List ByteArray)×Nd×(ByteArray×ByteArray)×Int))×Bool))) >>= fun z=>match z with
| .inr z=>some z
| .inl x7=>
some (x6,x7,true)))
def F_63(_N:Nat)(_x1:Int)(_x2:Int)(_x3:Int)(_x4:Int)(_x5:Int)(_x7:(List Nd))(_x9:Int)(_x10:Int)(_x11:ByteArray):Option Unit:=
some ()
def F_116(_N:Nat)(x1:Int)(x2:Int)(x3:Int)(x4:Int)(x5:Int)(_x7:(List Nd))(x6:Int)(x7:Int)(x8:ByteArray):Option Bool:=
((if(x6==0)=true then(
some (x7==0))
else(
some false)):Option Bool) >>= fun x9=>
((if(([x2,x3,x4,x5]:List Int)==([0,0,0,0]:List Int))=true then(
if x9=true then(
if(x8.toList==ByteArray.empty.toList)=true then(
some true)
else(
some (x1==5)))
else(
if(x1==4)=true then(
if(x8.toList==ByteArray.empty.toList)=true then(
some true)
else(
some (x1==5)))
else(
some false)))
else(
if(x1==1)=true then(
if x9=true then(
if(x8.toList==ByteArray.empty.toList)=true then(
some true)
else(
some (x1==5)))
else(
if(x1==4)=true then(
if(x8.toList==ByteArray.empty.toList)=true then(
some true)
else(
some (x1==5)))
else(
some false)))
else(
some false))):Option Bool) >>= fun x10=>
some x10
def F_104(_N:Nat)(x1:ByteArray)(x2:Int):Option (Int ⊕ (Unit ⊕ Bool)):=
if(decide (x2<(x1.size:Int)))=true then(
((sidx x1 x2 >>= fun x3=>
if(decide (x3≥97))=true then(
sidx x1 x2 >>= fun x4=>
some (decide (x4≤122)))
else(
some false)):Option Bool) >>= fun x5=>
((if(!x5)=true then(
if(x2==0)=true then(
some true)
else(
sidx x1 x2 >>= fun x6=>
if(decide (x6<48))=true then(
some true)
else(
sidx x1 x2 >>= fun x7=>
some (decide (x7>57)))))
else(
some false)):Option Bool) >>= fun x8=>
if x8=true then(
some (.inr (.inr false)))
else(
some (.inl (w64 (x2+1)))))
else(
some (.inr (.inl ())))
def F_28(N:Nat)(x1:ByteArray):Option Bool:=
((iterO N (fun s=>F_104 N x1 s) 0):Option (Unit ⊕ Bool)) >>= fun z=>match z with
| .inr z=>some z
| .inl _=>
((if(x1.toList != ByteArray.empty.toList)=true then(
some (decide ((x1.size:Int)≤12)))
else(
some false)):Option Bool) >>= fun x2=>
some x2
def F_117(N:Nat)(x1:Int)(x2:Int)(x3:Int)(x4:Int)(x5:Int)(x6:(List Nd))(x7:Int)(x8:Int)(x9:ByteArray):Option Bool:=
F_116 N x1 x2 x3 x4 x5 x6 x7 x8 x9 >>= fun x10=>
if(!x10)=true then(
some false)
else(
if(x1==1)=true then(
some ((x6.length:Int)==0))
else(
if(x1==2)=true then(
some true)
else(
if(x1==3)=true then(
some (decide ((x6.length:Int)≥2)))
else(
if(x1==4)=true then(
((if(decide (x8≥(imax x7 1)))=true then(
some (decide (x8≤40)))
else(
some false)):Option Bool) >>= fun x11=>
((if((x6.length:Int)==1)=true then(
if(decide (x7≥0))=true then(
if(decide (x7≤40))=true then(
if(x8==(-1))=true then(
some true)
else(
some x11))
else(
some false))
else(
some false))
else(
some false)):Option Bool) >>= fun x12=>
some x12)
else(
((if(x1==5)=true then(
if((x6.length:Int)==0)=true then(
F_28 N x9 >>= fun x13=>
some x13)
else(
some false))
else(
some false)):Option Bool) >>= fun x14=>
some x14)))))
def F_73(_N:Nat){σ:Type}(self_:Int→((Nd×Int)→σ→Option (σ×Bool))→σ→Int→Int→Int→Int→Int→(List Nd)→Int→Int→ByteArray→Int→Option ((σ×Int) ⊕ ((σ×Int) ⊕ (σ×Int))))(Y:((Nd×Int)→σ→Option (σ×Bool)))(x1:(List Nd))(x2:Int)(x3:σ)(x4:Int)(x5:Int):Option ((σ×Int×Int) ⊕ ((σ×Int) ⊕ ((σ×Int) ⊕ ((σ×Int) ⊕ (σ×Int))))):=
if(decide (x5<(x1.length:Int)))=true then(
idx x1 x5 >>= fun x6=>
self_ x4 Y x3 x6.un.1 x6.un.2.1.1 x6.un.2.1.2.1 x6.un.2.1.2.2.1 x6.un.2.1.2.2.2 x6.un.2.2.1 x6.un.2.2.2.1 x6.un.2.2.2.2.1 x6.un.2.2.2.2.2 (w64 (x2+1)) >>= fun z=>match z with
| .inl (x7,x8)=>(
some (.inr (.inr (.inl (x7,x8)))))
| .inr (.inl (x9,x10))=>(
some (.inr (.inr (.inr (.inl (x9,x10))))))
| .inr (.inr (x11,x12))=>(
some (.inl (x11,x12,w64 (x5+1)))))
else(
some (.inr (.inl (x3,x4))))
def F_17{σ:Type}:(N:Nat)→(x1:Int)→(Y:(Nd×Int)→σ→Option (σ×Bool))→(s0:σ)→(x2:Int)→(x3:Int)→(x4:Int)→(x5:Int)→(x6:Int)→(x7:(List Nd))→(x8:Int)→(x9:Int)→(x10:ByteArray)→(x11:Int)→Option ((σ×Int) ⊕ ((σ×Int) ⊕ (σ×Int)))
|0,_,_,_,_,_,_,_,_,_,_,_,_,_=>none
|N+1,x1,Y,s0,x2,x3,x4,x5,x6,x7,x8,x9,x10,x11=>
if(x1==0)=true then(
some (.inl (s0,x1)))
else(
Y ((Nd.of (x2,(x3,x4,x5,x6),x7,x8,x9,x10)),x11) s0 >>= fun q12=>
if(!q12.2)=true then(
some (.inr (.inl (q12.1,x1))))
else(
if(decide (x11>24))=true then(
some (.inr (.inr (q12.1,w64 (x1-1)))))
else(
((iterO N (fun s=>F_73 N (F_17 N) Y x7 x11 s.1 s.2.1 s.2.2) (q12.1,w64 (x1-1),0)):Option ((σ×Int) ⊕ ((σ×Int) ⊕ ((σ×Int) ⊕ (σ×Int))))) >>= fun z=>match z with
| .inr z=>some z
| .inl (x13,x14)=>
some (.inr (.inr (x13,x14))))))
def F_124(N:Nat){σ:Type}(Y:(Nd×Int)→σ→Option (σ×Bool))(s0:σ)(x1:Int)(x2:Int)(x3:Int)(x4:Int)(x5:Int)(x6:(List Nd))(x7:Int)(x8:Int)(x9:ByteArray):Option (σ×Bool):=
F_17 N 601 Y s0 x1 x2 x3 x4 x5 x6 x7 x8 x9 1 >>= fun z=>match z with
| .inl (x10,_x43)=>(
some (x10,true))
| .inr (.inl (x11,_x48))=>(
some (x11,false))
| .inr (.inr (x12,_x53))=>(
some (x12,true))
def F_72(N:Nat)(x1:Nd)(x2:Int)(x3:Int):Option ((Int ⊕ Unit)×Bool):=
((if(decide (x2>24))=true then(
some true)
else(
if(decide ((w64 (x3+1))>600))=true then(
some true)
else(
F_117 N x1.un.1 x1.un.2.1.1 x1.un.2.1.2.1 x1.un.2.1.2.2.1 x1.un.2.1.2.2.2 x1.un.2.2.1 x1.un.2.2.2.1 x1.un.2.2.2.2.1 x1.un.2.2.2.2.2 >>= fun x4=>
some (!x4)))):Option Bool) >>= fun x5=>
if x5=true then(
some (.inr (),false))
else(
some (.inl (w64 (x3+1)),true))
def F_16(N:Nat)(x1:Int)(x2:Int)(x3:Int)(x4:Int)(x5:Int)(x6:(List Nd))(x7:Int)(x8:Int)(x9:ByteArray):Option Bool:=
F_63 N x1 x2 x3 x4 x5 x6 x7 x8 x9 >>= fun _=>
F_124 N (YS (σ1:=Int) (σ2:=Unit) (fun x s=>F_72 N x.1 x.2 s)) (.inl 0) x1 x2 x3 x4 x5 x6 x7 x8 x9 >>= fun z=>match z with
|(.inl _x123,true)=>(
some true)
|(.inr _,false)=>(
some false)
|_=>none
def F_77(_N:Nat)(self_:Int→Int→Int→Int→Int→(List Nd)→Int→Int→ByteArray→Option Bool)(x1:(List Nd))(x2:Int):Option (Int ⊕ (Unit ⊕ Bool)):=
if(decide (x2<(x1.length:Int)))=true then(
idx x1 x2 >>= fun x3=>
self_ x3.un.1 x3.un.2.1.1 x3.un.2.1.2.1 x3.un.2.1.2.2.1 x3.un.2.1.2.2.2 x3.un.2.2.1 x3.un.2.2.2.1 x3.un.2.2.2.2.1 x3.un.2.2.2.2.2 >>= fun x4=>
if x4=true then(
some (.inr (.inr true)))
else(
some (.inl (w64 (x2+1)))))
else(
some (.inr (.inl ())))
def F_18:(N:Nat)→(x1:Int)→(x2:Int)→(x3:Int)→(x4:Int)→(x5:Int)→(x6:(List Nd))→(x7:Int)→(x8:Int)→(x9:ByteArray)→Option Bool
|0,_,_,_,_,_,_,_,_,_=>none
|N+1,x1,x2,x3,x4,x5,x6,x7,x8,x9=>
((if(x1==2)=true then(
some ((x6.length:Int)==1))
else(
some false)):Option Bool) >>= fun x10=>
if x10=true then(
some true)
else(
((iterO N (fun s=>F_77 N (F_18 N) x6 s) 0):Option (Unit ⊕ Bool)) >>= fun z=>match z with
| .inr z=>some z
| .inl _=>
some false)
def F_95(N:Nat)(x1:Int)(x2:Int)(x3:Int)(x4:Int)(x5:Int)(x6:(List Nd))(x7:Int)(x8:Int)(x9:ByteArray):Option Bool:=
((F_16 N x1 x2 x3 x4 x5 x6 x7 x8 x9 >>= fun x10=>
if x10=true then(
F_18 N x1 x2 x3 x4 x5 x6 x7 x8 x9 >>= fun x11=>
some (!x11))
else(
some false)):Option Bool) >>= fun x12=>
some x12
def F_71(_N:Nat)(x1:(List ByteArray))(x2:ByteArray)(x3:Int):Option (Int ⊕ (Unit ⊕ Int)):=
if(decide (x3<(x1.length:Int)))=true then(
idx x1 x3 >>= fun x4=>
if(x2.toList==x4.toList)=true then(
some (.inr (.inr x3)))
else(
some (.inl (w64 (x3+1)))))
else(
some (.inr (.inl ())))
def F_21(N:Nat)(x1:(List ByteArray))(x2:ByteArray):Option Int:=
((iterO N (fun s=>F_71 N x1 x2 s) 0):Option (Unit ⊕ Int)) >>= fun z=>match z with
| .inr z=>some z
| .inl _=>
some (-1)
def F_69(N:Nat)(x1:(List ByteArray))(x2:ByteArray):Option Bool:=
F_21 N x1 x2 >>= fun x3=>
some (decide (x3≥0))
def F_96(N:Nat)(x1:(List ByteArray))(x2:Int):Option (Int ⊕ (Unit ⊕ Bool)):=
if(decide (x2<(x1.length:Int)))=true then(
idx x1 x2 >>= fun x3=>
((F_28 N x3 >>= fun x4=>
if(!x4)=true then(
some true)
else(
slc x1 0 x2 >>= fun x5=>
F_69 N x5 x3 >>= fun x6=>
some x6)):Option Bool) >>= fun x7=>
if x7=true then(
some (.inr (.inr false)))
else(
some (.inl (w64 (x2+1)))))
else(
some (.inr (.inl ())))
def F_31(N:Nat)(x1:(List ByteArray)):Option Bool:=
((iterO N (fun s=>F_96 N x1 s) 0):Option (Unit ⊕ Bool)) >>= fun z=>match z with
| .inr z=>some z
| .inl _=>
some true
def F_80(N:Nat)(x1:ByteArray):Option Bool:=
((if(x1.toList==ByteArray.empty.toList)=true then(
some true)
else(
F_28 N x1 >>= fun x2=>
some x2)):Option Bool) >>= fun x3=>
some x3
def F_105(N:Nat)(x1:ByteArray)(x2:ByteArray):Option Bool:=
((F_80 N x1 >>= fun x3=>
if x3=true then(
F_80 N x2 >>= fun x4=>
some x4)
else(
some false)):Option Bool) >>= fun x5=>
some x5
def F_58(N:Nat)(x1:(List (ByteArray×Nd×Int)))(x2:Int)(x3:(List ByteArray)):Option ((Int×(List ByteArray)) ⊕ ((List ByteArray) ⊕ Bool)):=
if(decide (x2<(x1.length:Int)))=true then(
idx x1 x2 >>= fun x4=>
F_95 N x4.2.1.un.1 x4.2.1.un.2.1.1 x4.2.1.un.2.1.2.1 x4.2.1.un.2.1.2.2.1 x4.2.1.un.2.1.2.2.2 x4.2.1.un.2.2.1 x4.2.1.un.2.2.2.1 x4.2.1.un.2.2.2.2.1 x4.2.1.un.2.2.2.2.2 >>= fun x5=>
if(!x5)=true then(
some (.inr (.inr false)))
else(
app x3 ([x4.1]) >>= fun x6=>
some (.inl (w64 (x2+1),x6))))
else(
some (.inr (.inl x3)))
def F_78(N:Nat)(x1:(List ((List ByteArray)×Nd×(ByteArray×ByteArray)×Int)))(x2:Int):Option (Int ⊕ (Unit ⊕ Bool)):=
if(decide (x2<(x1.length:Int)))=true then(
idx x1 x2 >>= fun x3=>
((if((x3.1.length:Int)==0)=true then(
some true)
else(
F_31 N x3.1 >>= fun x4=>
if(!x4)=true then(
some true)
else(
F_95 N x3.2.1.un.1 x3.2.1.un.2.1.1 x3.2.1.un.2.1.2.1 x3.2.1.un.2.1.2.2.1 x3.2.1.un.2.1.2.2.2 x3.2.1.un.2.2.1 x3.2.1.un.2.2.2.1 x3.2.1.un.2.2.2.2.1 x3.2.1.un.2.2.2.2.2 >>= fun x5=>
if(!x5)=true then(
some true)
else(
F_105 N x3.2.2.1.1 x3.2.2.1.2 >>= fun x6=>
some (!x6))))):Option Bool) >>= fun x7=>
if x7=true then(
some (.inr (.inr false)))
else(
some (.inl (w64 (x2+1)))))
else(
some (.inr (.inl ())))
def F_14(N:Nat)(x1:(List ByteArray))(x2:(List (ByteArray×Nd×Int)))(x3:(List ((List ByteArray)×Nd×(ByteArray×ByteArray)×Int))):Option Bool:=
((iterO N (fun s=>F_58 N x2 s.1 s.2) (0,[])):Option ((List ByteArray) ⊕ Bool)) >>= fun z=>match z with
| .inr z=>some z
| .inl x4=>
((iterO N (fun s=>F_78 N x3 s) 0):Option (Unit ⊕ Bool)) >>= fun z=>match z with
| .inr z=>some z
| .inl _=>
((if(decide ((x1.length:Int)≥1))=true then(
if(decide ((x1.length:Int)≤8))=true then(
if(decide ((x4.length:Int)≤32))=true then(
some (decide ((x3.length:Int)≤48)))
else(
some false))
else(
some false))
else(
some false)):Option Bool) >>= fun x5=>
((if x5=true then(
idx x1 0 >>= fun x6=>
if(x6.toList==(⟨#[109,97,105,110]⟩:ByteArray).toList)=true then(
F_31 N x1 >>= fun x7=>
if x7=true then(
F_31 N x4 >>= fun x8=>
some x8)
else(
some false))
else(
some false))
else(
some false)):Option Bool) >>= fun x9=>
some x9
def F_119(_N:Nat)(x:(List ByteArray)):Option (List ByteArray):=app [] x
def F_120(_N:Nat):Option Unit:=
some ()
def F_81(_N:Nat)(x:(List Nd)):Option (List Nd):=app [] x
def F_50(_N:Nat)(self_:Int→Int→Int→Int→Int→(List Nd)→Int→Int→ByteArray→Option (List Nd))(x1:(List Nd))(x2:(List Nd))(x3:Int):Option (((List Nd)×Int) ⊕ (List Nd)):=
if(decide (x3<(x1.length:Int)))=true then(
idx x2 x3 >>= fun x4=>
((self_ x4.un.1 x4.un.2.1.1 x4.un.2.1.2.1 x4.un.2.1.2.2.1 x4.un.2.1.2.2.2 x4.un.2.2.1 x4.un.2.2.2.1 x4.un.2.2.2.2.1 x4.un.2.2.2.2.2 >>= fun x5=>
idx x2 x3 >>= fun _x1487=>
setI x2 x3 (Nd.of (x4.un.1,(x4.un.2.1.1,x4.un.2.1.2.1,x4.un.2.1.2.2.1,x4.un.2.1.2.2.2),x5,x4.un.2.2.2.1,x4.un.2.2.2.2.1,x4.un.2.2.2.2.2)) >>= fun x6=>
some x6):Option (List Nd)) >>= fun x7=>
some (.inl (x7,w64 (x3+1))))
else(
some (.inr x2))
def F_10:(N:Nat)→(x1:Int)→(x2:Int)→(x3:Int)→(x4:Int)→(x5:Int)→(x6:(List Nd))→(x7:Int)→(x8:Int)→(x9:ByteArray)→Option (List Nd)
|0,_,_,_,_,_,_,_,_,_=>none
|N+1,x1,x2,x3,x4,x5,x6,x7,x8,x9=>
F_81 N x6 >>= fun x10=>
((iterO N (fun s=>F_50 N (F_10 N) x10 s.1 s.2) (x10,0)):Option (List Nd)) >>= fun x11=>
some x11
def F_115(N:Nat)(x1:Int)(x2:Int)(x3:Int)(x4:Int)(x5:Int)(x6:(List Nd))(x7:Int)(x8:Int)(x9:ByteArray):Option (Int×Int×Int×Int×Int×(List Nd)×Int×Int×ByteArray):=
F_16 N x1 x2 x3 x4 x5 x6 x7 x8 x9 >>= fun x10=>
if(!x10)=true then(
some (0,0,0,0,0,[],0,0,ByteArray.empty))
else(
F_10 N x1 x2 x3 x4 x5 x6 x7 x8 x9 >>= fun x11=>
some (x1,x2,x3,x4,x5,x11,x7,x8,x9))
def F_109(N:Nat)(x1:(List ByteArray))(x2:(List (ByteArray×Nd)))(x3:ByteArray)(x4:Int)(x5:Int)(x6:Int)(x7:Int)(x8:Int)(x9:(List Nd))(x10:Int)(x11:Int)(x12:ByteArray):Option ((List ByteArray)×(List (ByteArray×Nd))×Int):=
some ((mget x2 x3).getD (Nd.of ((0:Int),((0:Int),(0:Int),(0:Int),(0:Int)),[],(0:Int),(0:Int),ByteArray.empty))) >>= fun _x147=>
F_28 N x3 >>= fun x13=>
if(!x13)=true then(
some (x1,x2,6))
else(
F_16 N x4 x5 x6 x7 x8 x9 x10 x11 x12 >>= fun x14=>
if(!x14)=true then(
some (x1,x2,1))
else(
if((mget x2 x3).isSome)=true then(
some (x1,x2,7))
else(
if(decide ((x1.length:Int)≥32))=true then(
some (x1,x2,13))
else(
app x1 ([x3]) >>= fun x15=>
((F_115 N x4 x5 x6 x7 x8 x9 x10 x11 x12 >>= fun(x16,x17,x18,x19,x20,x21,x22,x23,x24)=>
some (mset x2 x3 (Nd.of (x16,(x17,x18,x19,x20),x21,x22,x23,x24)))):Option (List (ByteArray×Nd))) >>= fun x25=>
some (x15,x25,0)))))
def F_98(N:Nat)(x1:(List ByteArray))(_x5:(List ByteArray))(_x8:(List (Zc×Nd×Int×Int)))(x2:ByteArray):Option Int:=
F_21 N x1 x2 >>= fun x3=>
some x3
def F_60(N:Nat)(x1:(List ByteArray))(x2:(List ByteArray))(x3:(List (Zc×Nd×Int×Int)))(x4:(List ByteArray))(x5:Int)(x6:Zc):Option ((Int×Zc) ⊕ (Zc ⊕ (Zc×Int))):=
if(decide (x5<(x4.length:Int)))=true then(
idx x4 x5 >>= fun x7=>
F_98 N x1 x2 x3 x7 >>= fun x8=>
if(decide (x8<0))=true then(
some (.inr (.inr ([],15))))
else(
app x6 ([x8]) >>= fun x9=>
some (.inl (w64 (x5+1),x9))))
else(
some (.inr (.inl x6)))
def F_27(N:Nat)(x1:(List ByteArray))(x2:(List ByteArray))(x3:(List (Zc×Nd×Int×Int)))(_x16:(List ByteArray))(_x20:(List (ByteArray×Nd)))(x4:(List ByteArray)):Option (Zc×Int):=
((iterO N (fun s=>F_60 N x1 x2 x3 x4 s.1 s.2) (0,[])):Option (Zc ⊕ (Zc×Int))) >>= fun z=>match z with
| .inr z=>some z
| .inl x5=>
sortI x5 >>= fun x6=>
some (x6,0)
def F_94(N:Nat)(self_:(List ByteArray)→(List (ByteArray×Nd))→Int→(List ByteArray)→Int→Int→Int→Int→Int→Int→(List Nd)→Int→Int→ByteArray→Int→Option (Int×(List ByteArray)×Int×Int×Int×Int×Int×Int×(List Nd)×Int×Int×ByteArray))(x1:(List ByteArray))(x2:(List (ByteArray×Nd)))(x3:Int)(x4:(List ByteArray))(x5:Int)(x6:ByteArray)(x7:Int):Option (Int×(List ByteArray)×Int×Int×Int×Int×Int×Int×(List Nd)×Int×Int×ByteArray):=
some ((mget x2 x6).getD (Nd.of ((0:Int),((0:Int),(0:Int),(0:Int),(0:Int)),[],(0:Int),(0:Int),ByteArray.empty))) >>= fun x8=>
if(!((mget x2 x6).isSome))=true then(
some (x3,x4,15,0,0,0,0,0,[],0,0,ByteArray.empty))
else(
F_69 N x4 x6 >>= fun x9=>
if x9=true then(
some (x3,x4,9,0,0,0,0,0,[],0,0,ByteArray.empty))
else(
app x4 ([x6]) >>= fun x10=>
self_ x1 x2 x3 x10 x5 x8.un.1 x8.un.2.1.1 x8.un.2.1.2.1 x8.un.2.1.2.2.1 x8.un.2.1.2.2.2 x8.un.2.2.1 x8.un.2.2.2.1 x8.un.2.2.2.2.1 x8.un.2.2.2.2.2 x7 >>= fun(x11,x12,x13,x14,x15,x16,x17,x18,x19,x20,x21,x22)=>
((slc x12 0 (w64 ((x12.length:Int)-1)) >>= fun x23=>
some x23):Option (List ByteArray)) >>= fun x24=>
some (x11,x24,x13,x14,x15,x16,x17,x18,x19,x20,x21,x22)))
def F_24(_N:Nat)(self_:(List ByteArray)→(List (ByteArray×Nd))→Int→(List ByteArray)→Int→Int→Int→Int→Int→Int→(List Nd)→Int→Int→ByteArray→Int→Option (Int×(List ByteArray)×Int×Int×Int×Int×Int×Int×(List Nd)×Int×Int×ByteArray))(x1:(List ByteArray))(x2:(List (ByteArray×Nd)))(x3:Int)(x4:(List Nd))(x5:Int)(x6:(List ByteArray))(x7:Int)(x8:(List Nd))(x9:Int):Option ((Int×(List ByteArray)×Int×(List Nd)×Int) ⊕ (Int×(List ByteArray)×Int×(List Nd))):=
if(decide (x9<(x4.length:Int)))=true then(
idx x8 x9 >>= fun x10=>
((self_ x1 x2 x5 x6 x7 x10.un.1 x10.un.2.1.1 x10.un.2.1.2.1 x10.un.2.1.2.2.1 x10.un.2.1.2.2.2 x10.un.2.2.1 x10.un.2.2.2.1 x10.un.2.2.2.2.1 x10.un.2.2.2.2.2 (w64 (x3+1)) >>= fun(x11,x12,x13,x14,x15,x16,x17,x18,x19,x20,x21,x22)=>
idx x8 x9 >>= fun _x2906=>
setI x8 x9 (Nd.of (x14,(x15,x16,x17,x18),x19,x20,x21,x22)) >>= fun x23=>
some (x11,x12,x13,x23)):Option (Int×(List ByteArray)×Int×(List Nd))) >>= fun(x24,x25,x26,x27)=>
some (.inl (x24,x25,x26,x27,w64 (x9+1))))
else(
some (.inr (x5,x6,x7,x8)))
def F_2:(N:Nat)→(x1:(List ByteArray))→(x2:(List (ByteArray×Nd)))→(x3:Int)→(x4:(List ByteArray))→(x5:Int)→(x6:Int)→(x7:Int)→(x8:Int)→(x9:Int)→(x10:Int)→(x11:(List Nd))→(x12:Int)→(x13:Int)→(x14:ByteArray)→(x15:Int)→Option (Int×(List ByteArray)×Int×Int×Int×Int×Int×Int×(List Nd)×Int×Int×ByteArray)
|0,_,_,_,_,_,_,_,_,_,_,_,_,_,_,_=>none
|N+1,x1,x2,x3,x4,x5,x6,x7,x8,x9,x10,x11,x12,x13,x14,x15=>
if(eOk errIds x5)=true then(
some (x3,x4,x5,0,0,0,0,0,[],0,0,ByteArray.empty))
else(
if(x6==5)=true then(
F_94 N (F_2 N) x1 x2 x3 x4 x5 x14 x15 >>= fun(x16,x17,x18,x19,x20,x21,x22,x23,x24,x25,x26,x27)=>
some (x16,x17,x18,x19,x20,x21,x22,x23,x24,x25,x26,x27))
else(
if(decide (x15>24))=true then(
some (x3,x4,8,0,0,0,0,0,[],0,0,ByteArray.empty))
else(
if(x3==600)=true then(
some (x3,x4,2,0,0,0,0,0,[],0,0,ByteArray.empty))
else(
F_81 N x11 >>= fun x28=>
((iterO N (fun s=>F_24 N (F_2 N) x1 x2 x15 x28 s.1 s.2.1 s.2.2.1 s.2.2.2.1 s.2.2.2.2) (w64 (x3+1),x4,x5,x28,0)):Option (Int×(List ByteArray)×Int×(List Nd))) >>= fun(x29,x30,x31,x32)=>
some (x29,x30,x31,x6,x7,x8,x9,x10,x32,x12,x13,x14)))))
def F_93(N:Nat)(x1:(List ByteArray))(x2:(List (ByteArray×Nd)))(x3:Int)(x4:Int)(x5:Int)(x6:Int)(x7:Int)(x8:(List Nd))(x9:Int)(x10:Int)(x11:ByteArray):Option (Int×Int×Int×Int×Int×(List Nd)×Int×Int×ByteArray×Int):=
F_16 N x3 x4 x5 x6 x7 x8 x9 x10 x11 >>= fun x12=>
if(!x12)=true then(
((some ()):Option Unit) >>= fun _=>
some (0,0,0,0,0,[],0,0,ByteArray.empty,1))
else(
F_2 N x1 x2 0 ([]) 0 x3 x4 x5 x6 x7 x8 x9 x10 x11 1 >>= fun(_x97,_x98,x13,x14,x15,x16,x17,x18,x19,x20,x21,x22)=>
if(eOk errIds x13)=true then(
((some ()):Option Unit) >>= fun _=>
some (0,0,0,0,0,[],0,0,ByteArray.empty,x13))
else(
some (x14,x15,x16,x17,x18,x19,x20,x21,x22,0)))
def F_49(_N:Nat)(_x1:Int):Option Unit:=
some ()
def F_122(_N:Nat)(_x1:Int)(_x2:Int)(_x3:Int)(_x4:Int):Option Unit:=
some ()
def F_100(_N:Nat):Option Unit:=
some ()
def F_41(_N:Nat)(x1:Int)(x2:Int):Option Int:=
some (imin (w64 (x1+x2)) 1048576)
def F_79(_N:Nat)(x1:Int)(x2:Int)(x3:Int)(x4:Int)(x5:Int)(x6:Int)(x7:Int)(x8:Int)(x9:Int):Option ((Int×Int×Int×Int×Int) ⊕ Zd):=
if(decide (x9<4))=true then(
((idx [x5,x6,x7,x8] x9 >>= fun x10=>
idx [x1,x2,x3,x4] x9 >>= fun x11=>
idx [x5,x6,x7,x8] x9 >>= fun _x405=>
setI [x5,x6,x7,x8] x9 (ior .u64 x10 x11) >>= fun x12=>
some (x12.getD 0 0,x12.getD 1 0,x12.getD 2 0,x12.getD 3 0)):Option Zd) >>= fun(x13,x14,x15,x16)=>
some (.inl (x13,x14,x15,x16,w64 (x9+1))))
else(
some (.inr (x5,x6,x7,x8)))
def F_15(N:Nat)(x1:Int)(x2:Int)(x3:Int)(x4:Int)(x5:Int)(x6:Int)(x7:Int)(x8:Int):Option Zd:=
((iterO N (fun s=>F_79 N x5 x6 x7 x8 s.1 s.2.1 s.2.2.1 s.2.2.2.1 s.2.2.2.2) (x1,x2,x3,x4,0)):Option Zd) >>= fun(x9,x10,x11,x12)=>
some (x9,x10,x11,x12)
def F_113(N:Nat)(x1:Bool)(x2:Bool)(x3:Int)(x4:Int)(_x5:Int)(x5:Int)(x6:Int)(x7:Int)(x8:Int)(x9:Int)(x10:Int)(x11:Int)(x12:Int)(x13:Int)(x14:Int)(x15:Int)(x16:Int)(x17:Bool)(x18:Bool)(x19:Int)(x20:Int)(_x22:Int)(x21:Int)(x22:Int)(x23:Int)(x24:Int)(x25:Int)(x26:Int)(x27:Int)(x28:Int)(x29:Int)(x30:Int)(x31:Int)(x32:Int):Option (Bool×Bool×Int×Int×Int×Int×Int×Int×Int×Int×Int×Int×Int×Int×Int×Int):=
((if x1=true then(
some (true,true))
else(
some (x17,false))):Option (Bool×Bool)) >>= fun(x33,_x368)=>
if x33=true then(
F_49 N 0 >>= fun _=>
some (true,false,(-1),(-1),0,0,0,0,0,0,0,0,0,0,0,0))
else(
((if x2=true then(
F_41 N x3 x19 >>= fun x34=>
F_41 N x4 x20 >>= fun x35=>
F_15 N x13 x14 x15 x16 x29 x30 x31 x32 >>= fun(x36,x37,x38,x39)=>
some (true,x18,x34,x35,x36,x37,x38,x39))
else(
F_41 N x3 x19 >>= fun x40=>
F_41 N x4 x20 >>= fun x41=>
F_15 N x13 x14 x15 x16 x29 x30 x31 x32 >>= fun(x42,x43,x44,x45)=>
some (false,false,x40,x41,x42,x43,x44,x45))):Option (Bool×Bool×Int×Int×Int×Int×Int×Int)) >>= fun(x46,x47,x48,x49,x50,x51,x52,x53)=>
((if x46=true then(
F_15 N x5 x6 x7 x8 x21 x22 x23 x24 >>= fun(x54,x55,x56,x57)=>
some (x54,x55,x56,x57))
else(
some (x5,x6,x7,x8))):Option Zd) >>= fun(x58,x59,x60,x61)=>
((if x18=true then(
F_15 N x25 x26 x27 x28 x9 x10 x11 x12 >>= fun(x62,x63,x64,x65)=>
some (x62,x63,x64,x65))
else(
some (x25,x26,x27,x28))):Option Zd) >>= fun(x66,x67,x68,x69)=>
some (false,x47,x48,x49,x58,x59,x60,x61,x66,x67,x68,x69,x50,x51,x52,x53))
def F_114(N:Nat)(x1:Bool)(x2:Bool)(x3:Int)(x4:Int)(x5:Int)(x6:Int)(x7:Int)(x8:Int)(x9:Int)(x10:Int)(x11:Int)(x12:Int)(x13:Int)(x14:Int)(x15:Int)(x16:Int)(x17:Int)(x18:Bool)(x19:Bool)(x20:Int)(x21:Int)(x22:Int)(x23:Int)(x24:Int)(x25:Int)(x26:Int)(x27:Int)(x28:Int)(x29:Int)(x30:Int)(x31:Int)(x32:Int)(x33:Int)(x34:Int):Option (Bool×Bool×Int×Int×Int×Int×Int×Int×Int×Int×Int×Int×Int×Int×Int×Int×Int):=
if x1=true then(
some (x18,x19,x20,x21,x22,x23,x24,x25,x26,x27,x28,x29,x30,x31,x32,x33,x34))
else(
if x18=true then(
some (x1,x2,x3,x4,x5,x6,x7,x8,x9,x10,x11,x12,x13,x14,x15,x16,x17))
else(
((if x2=true then(
F_15 N x6 x7 x8 x9 x23 x24 x25 x26 >>= fun(x35,x36,x37,x38)=>
F_15 N x10 x11 x12 x13 x27 x28 x29 x30 >>= fun(x39,x40,x41,x42)=>
F_15 N x14 x15 x16 x17 x31 x32 x33 x34 >>= fun(x43,x44,x45,x46)=>
some (true,x35,x36,x37,x38,x39,x40,x41,x42,x43,x44,x45,x46))
else(
F_15 N x6 x7 x8 x9 x23 x24 x25 x26 >>= fun(x47,x48,x49,x50)=>
F_15 N x10 x11 x12 x13 x27 x28 x29 x30 >>= fun(x51,x52,x53,x54)=>
F_15 N x14 x15 x16 x17 x31 x32 x33 x34 >>= fun(x55,x56,x57,x58)=>
some (x19,x47,x48,x49,x50,x51,x52,x53,x54,x55,x56,x57,x58))):Option (Bool×Int×Int×Int×Int×Int×Int×Int×Int×Int×Int×Int×Int)) >>= fun(x59,x60,x61,x62,x63,x64,x65,x66,x67,x68,x69,x70,x71)=>
some (false,x59,imin x3 x20,imax x4 x21,0,x60,x61,x62,x63,x64,x65,x66,x67,x68,x69,x70,x71)))
def F_62(_N:Nat)(x1:Int)(x2:Int):Option Int:=
((if(decide (x1>0))=true then(
nz x1 >>= fun _x12=>
some (decide (x2>(w64 ((1048576:Int).tdiv x1)))))
else(
some false)):Option Bool) >>= fun x3=>
if x3=true then(
some 1048576)
else(
some (imin (w64 (x1*x2)) 1048576))
def F_112(N:Nat)(x1:Bool)(x2:Bool)(x3:Int)(x4:Int)(x5:Int)(x6:Int)(x7:Int)(x8:Int)(x9:Int)(x10:Int)(x11:Int)(x12:Int)(x13:Int)(x14:Int)(x15:Int)(x16:Int)(x17:Int)(x18:Int)(x19:Int):Option (Bool×Bool×Int×Int×Int×Int×Int×Int×Int×Int×Int×Int×Int×Int×Int×Int×Int):=
if x1=true then(
if(x18==0)=true then(
F_100 N >>= fun _=>
some (false,true,0,0,0,0,0,0,0,0,0,0,0,0,0,0,0))
else(
F_49 N 0 >>= fun _=>
some (true,false,(-1),(-1),0,0,0,0,0,0,0,0,0,0,0,0,0)))
else(
((if x2=true then(
some (true,true))
else(
some (false,x18==0))):Option (Bool×Bool)) >>= fun(_x103,x20)=>
F_62 N x3 x18 >>= fun x21=>
F_62 N x4 x19 >>= fun x22=>
((if(x19==(-1))=true then(
((if(decide (x4>0))=true then(
some 1048576)
else(
some 0)):Option Int) >>= fun x23=>
some x23)
else(
some x22)):Option Int) >>= fun x24=>
some (x1,x20,x21,x24,x5,x6,x7,x8,x9,x10,x11,x12,x13,x14,x15,x16,x17))
def F_61(N:Nat)(self_:Int→Int→Int→Int→Int→(List Nd)→Int→Int→ByteArray→Option (Bool×Bool×Int×Int×Int×Int×Int×Int×Int×Int×Int×Int×Int×Int×Int×Int×Int))(x1:(List Nd))(x2:Int)(x3:(List (Bool×Bool×Int×Int×Int×Zd×Zd×Zd)))(x4:Int):Option ((Int×(List (Bool×Bool×Int×Int×Int×Zd×Zd×Zd))×Int) ⊕ ((List (Bool×Bool×Int×Int×Int×Zd×Zd×Zd))×Int)):=
if(decide (x2<(x1.length:Int)))=true then(
idx x1 x2 >>= fun x5=>
self_ x5.un.1 x5.un.2.1.1 x5.un.2.1.2.1 x5.un.2.1.2.2.1 x5.un.2.1.2.2.2 x5.un.2.2.1 x5.un.2.2.2.1 x5.un.2.2.2.2.1 x5.un.2.2.2.2.2 >>= fun(x6,x7,x8,x9,x10,x11,x12,x13,x14,x15,x16,x17,x18,x19,x20,x21,x22)=>
app x3 ([(x6,x7,x8,x9,x10,(x11,x12,x13,x14),(x15,x16,x17,x18),(x19,x20,x21,x22))]) >>= fun x23=>
F_41 N x4 x10 >>= fun x24=>
some (.inl (w64 (x2+1),x23,x24)))
else(
some (.inr (x3,x4)))
def F_67(N:Nat)(x1:(List (Bool×Bool×Int×Int×Int×Zd×Zd×Zd)))(x2:Int)(x3:Bool)(x4:Bool)(x5:Int)(x6:Int)(x7:Int)(x8:Int)(x9:Int)(x10:Int)(x11:Int)(x12:Int)(x13:Int)(x14:Int)(x15:Int)(x16:Int)(x17:Int)(x18:Int):Option ((Int×Bool×Bool×Int×Int×Int×Int×Int×Int×Int×Int×Int×Int×Int×Int×Int×Int) ⊕ (Bool×Bool×Int×Int×Int×Int×Int×Int×Int×Int×Int×Int×Int×Int×Int×Int)):=
if(decide (x2<(x1.length:Int)))=true then(
idx x1 x2 >>= fun x19=>
F_113 N x3 x4 x5 x6 0 x7 x8 x9 x10 x11 x12 x13 x14 x15 x16 x17 x18 x19.1 x19.2.1 x19.2.2.1 x19.2.2.2.1 x19.2.2.2.2.1 x19.2.2.2.2.2.1.1 x19.2.2.2.2.2.1.2.1 x19.2.2.2.2.2.1.2.2.1 x19.2.2.2.2.2.1.2.2.2 x19.2.2.2.2.2.2.1.1 x19.2.2.2.2.2.2.1.2.1 x19.2.2.2.2.2.2.1.2.2.1 x19.2.2.2.2.2.2.1.2.2.2 x19.2.2.2.2.2.2.2.1 x19.2.2.2.2.2.2.2.2.1 x19.2.2.2.2.2.2.2.2.2.1 x19.2.2.2.2.2.2.2.2.2.2 >>= fun(x20,x21,x22,x23,x24,x25,x26,x27,x28,x29,x30,x31,x32,x33,x34,x35)=>
some (.inl (w64 (x2+1),x20,x21,x22,x23,x24,x25,x26,x27,x28,x29,x30,x31,x32,x33,x34,x35)))
else(
some (.inr (x3,x4,x5,x6,x7,x8,x9,x10,x11,x12,x13,x14,x15,x16,x17,x18)))
def F_68(N:Nat)(x1:(List (Bool×Bool×Int×Int×Int×Zd×Zd×Zd)))(x2:Int)(x3:Bool)(x4:Bool)(x5:Int)(x6:Int)(x7:Int)(x8:Int)(x9:Int)(x10:Int)(x11:Int)(x12:Int)(x13:Int)(x14:Int)(x15:Int)(x16:Int)(x17:Int)(x18:Int)(x19:Int):Option ((Int×Bool×Bool×Int×Int×Int×Int×Int×Int×Int×Int×Int×Int×Int×Int×Int×Int×Int) ⊕ (Bool×Bool×Int×Int×Int×Int×Int×Int×Int×Int×Int×Int×Int×Int×Int×Int×Int)):=
if(decide (x2<(x1.length:Int)))=true then(
idx x1 x2 >>= fun x20=>
F_114 N x3 x4 x5 x6 x7 x8 x9 x10 x11 x12 x13 x14 x15 x16 x17 x18 x19 x20.1 x20.2.1 x20.2.2.1 x20.2.2.2.1 x20.2.2.2.2.1 x20.2.2.2.2.2.1.1 x20.2.2.2.2.2.1.2.1 x20.2.2.2.2.2.1.2.2.1 x20.2.2.2.2.2.1.2.2.2 x20.2.2.2.2.2.2.1.1 x20.2.2.2.2.2.2.1.2.1 x20.2.2.2.2.2.2.1.2.2.1 x20.2.2.2.2.2.2.1.2.2.2 x20.2.2.2.2.2.2.2.1 x20.2.2.2.2.2.2.2.2.1 x20.2.2.2.2.2.2.2.2.2.1 x20.2.2.2.2.2.2.2.2.2.2 >>= fun(x21,x22,x23,x24,x25,x26,x27,x28,x29,x30,x31,x32,x33,x34,x35,x36,x37)=>
some (.inl (w64 (x2+1),x21,x22,x23,x24,x25,x26,x27,x28,x29,x30,x31,x32,x33,x34,x35,x36,x37)))
else(
some (.inr (x3,x4,x5,x6,x7,x8,x9,x10,x11,x12,x13,x14,x15,x16,x17,x18,x19)))
def F_4:(N:Nat)→(x1:Int)→(x2:Int)→(x3:Int)→(x4:Int)→(x5:Int)→(x6:(List Nd))→(x7:Int)→(x8:Int)→(x9:ByteArray)→Option (Bool×Bool×Int×Int×Int×Int×Int×Int×Int×Int×Int×Int×Int×Int×Int×Int×Int)
|0,_,_,_,_,_,_,_,_,_=>none
|N+1,x1,x2,x3,x4,x5,x6,x7,x8,x9=>
((iterO N (fun s=>F_61 N (F_4 N) x6 s.1 s.2.1 s.2.2) (0,[],1)):Option ((List (Bool×Bool×Int×Int×Int×Zd×Zd×Zd))×Int)) >>= fun(x10,x11)=>
((((if(x1==1)=true then(
F_122 N x2 x3 x4 x5 >>= fun _=>
((if(([x2,x3,x4,x5]:List Int)==([0,0,0,0]:List Int))=true then(
F_49 N 0 >>= fun _=>
some (true,(-1),(-1),0,0,0,0,0,0,0,0,0,0,0,0))
else(
some (false,1,1,x2,x3,x4,x5,x2,x3,x4,x5,x2,x3,x4,x5))):Option (Bool×Int×Int×Int×Int×Int×Int×Int×Int×Int×Int×Int×Int×Int×Int)) >>= fun(x12,x13,x14,x15,x16,x17,x18,x19,x20,x21,x22,x23,x24,x25,x26)=>
some (x11,x12,false,x13,x14,0,x15,x16,x17,x18,x19,x20,x21,x22,x23,x24,x25,x26))
else(
((if(x1==2)=true then(
F_100 N >>= fun _=>
((iterO N (fun s=>F_67 N x10 s.1 s.2.1 s.2.2.1 s.2.2.2.1 s.2.2.2.2.1 s.2.2.2.2.2.1 s.2.2.2.2.2.2.1 s.2.2.2.2.2.2.2.1 s.2.2.2.2.2.2.2.2.1 s.2.2.2.2.2.2.2.2.2.1 s.2.2.2.2.2.2.2.2.2.2.1 s.2.2.2.2.2.2.2.2.2.2.2.1 s.2.2.2.2.2.2.2.2.2.2.2.2.1 s.2.2.2.2.2.2.2.2.2.2.2.2.2.1 s.2.2.2.2.2.2.2.2.2.2.2.2.2.2.1 s.2.2.2.2.2.2.2.2.2.2.2.2.2.2.2.1 s.2.2.2.2.2.2.2.2.2.2.2.2.2.2.2.2) (0,false,true,0,0,0,0,0,0,0,0,0,0,0,0,0,0)):Option (Bool×Bool×Int×Int×Int×Int×Int×Int×Int×Int×Int×Int×Int×Int×Int×Int)) >>= fun(x27,x28,x29,x30,x31,x32,x33,x34,x35,x36,x37,x38,x39,x40,x41,x42)=>
some (x11,x27,x28,x29,x30,0,x31,x32,x33,x34,x35,x36,x37,x38,x39,x40,x41,x42))
else(
((if(x1==3)=true then(
idx x10 0 >>= fun x43=>
slc x10 1 (x10.length:Int) >>= fun x44=>
((iterO N (fun s=>F_68 N x44 s.1 s.2.1 s.2.2.1 s.2.2.2.1 s.2.2.2.2.1 s.2.2.2.2.2.1 s.2.2.2.2.2.2.1 s.2.2.2.2.2.2.2.1 s.2.2.2.2.2.2.2.2.1 s.2.2.2.2.2.2.2.2.2.1 s.2.2.2.2.2.2.2.2.2.2.1 s.2.2.2.2.2.2.2.2.2.2.2.1 s.2.2.2.2.2.2.2.2.2.2.2.2.1 s.2.2.2.2.2.2.2.2.2.2.2.2.2.1 s.2.2.2.2.2.2.2.2.2.2.2.2.2.2.1 s.2.2.2.2.2.2.2.2.2.2.2.2.2.2.2.1 s.2.2.2.2.2.2.2.2.2.2.2.2.2.2.2.2.1 s.2.2.2.2.2.2.2.2.2.2.2.2.2.2.2.2.2) (0,x43.1,x43.2.1,x43.2.2.1,x43.2.2.2.1,x43.2.2.2.2.1,x43.2.2.2.2.2.1.1,x43.2.2.2.2.2.1.2.1,x43.2.2.2.2.2.1.2.2.1,x43.2.2.2.2.2.1.2.2.2,x43.2.2.2.2.2.2.1.1,x43.2.2.2.2.2.2.1.2.1,x43.2.2.2.2.2.2.1.2.2.1,x43.2.2.2.2.2.2.1.2.2.2,x43.2.2.2.2.2.2.2.1,x43.2.2.2.2.2.2.2.2.1,x43.2.2.2.2.2.2.2.2.2.1,x43.2.2.2.2.2.2.2.2.2.2)):Option (Bool×Bool×Int×Int×Int×Int×Int×Int×Int×Int×Int×Int×Int×Int×Int×Int×Int)) >>= fun(x45,x46,x47,x48,x49,x50,x51,x52,x53,x54,x55,x56,x57,x58,x59,x60,x61)=>
some (x11,x45,x46,x47,x48,x49,x50,x51,x52,x53,x54,x55,x56,x57,x58,x59,x60,x61))
else(
((if(x1==4)=true then(
((idx x10 0 >>= fun x62=>
F_112 N x62.1 x62.2.1 x62.2.2.1 x62.2.2.2.1 x62.2.2.2.2.1 x62.2.2.2.2.2.1.1 x62.2.2.2.2.2.1.2.1 x62.2.2.2.2.2.1.2.2.1 x62.2.2.2.2.2.1.2.2.2 x62.2.2.2.2.2.2.1.1 x62.2.2.2.2.2.2.1.2.1 x62.2.2.2.2.2.2.1.2.2.1 x62.2.2.2.2.2.2.1.2.2.2 x62.2.2.2.2.2.2.2.1 x62.2.2.2.2.2.2.2.2.1 x62.2.2.2.2.2.2.2.2.2.1 x62.2.2.2.2.2.2.2.2.2.2 x7 x8 >>= fun(x63,x64,x65,x66,x67,x68,x69,x70,x71,x72,x73,x74,x75,x76,x77,x78,x79)=>
some (x63,x64,x65,x66,x67,x68,x69,x70,x71,x72,x73,x74,x75,x76,x77,x78,x79)):Option (Bool×Bool×Int×Int×Int×Int×Int×Int×Int×Int×Int×Int×Int×Int×Int×Int×Int)) >>= fun(x80,x81,x82,x83,x84,x85,x86,x87,x88,x89,x90,x91,x92,x93,x94,x95,x96)=>
((if(x8==(-1))=true then(
some (w64 (x7+1)))
else(
some x8)):Option Int) >>= fun x97=>
idx x10 0 >>= fun x98=>
F_62 N x98.2.2.2.2.1 x97 >>= fun x99=>
F_41 N 1 x99 >>= fun x100=>
some (x100,x80,x81,x82,x83,x84,x85,x86,x87,x88,x89,x90,x91,x92,x93,x94,x95,x96))
else(
F_49 N 0 >>= fun _=>
some (x11,true,false,(-1),(-1),0,0,0,0,0,0,0,0,0,0,0,0,0))):Option (Int×Bool×Bool×Int×Int×Int×Int×Int×Int×Int×Int×Int×Int×Int×Int×Int×Int×Int)) >>= fun(x101,x102,x103,x104,x105,x106,x107,x108,x109,x110,x111,x112,x113,x114,x115,x116,x117,x118)=>
some (x101,x102,x103,x104,x105,x106,x107,x108,x109,x110,x111,x112,x113,x114,x115,x116,x117,x118))):Option (Int×Bool×Bool×Int×Int×Int×Int×Int×Int×Int×Int×Int×Int×Int×Int×Int×Int×Int)) >>= fun(x119,x120,x121,x122,x123,x124,x125,x126,x127,x128,x129,x130,x131,x132,x133,x134,x135,x136)=>
some (x119,x120,x121,x122,x123,x124,x125,x126,x127,x128,x129,x130,x131,x132,x133,x134,x135,x136))):Option (Int×Bool×Bool×Int×Int×Int×Int×Int×Int×Int×Int×Int×Int×Int×Int×Int×Int×Int)) >>= fun(x137,x138,x139,x140,x141,x142,x143,x144,x145,x146,x147,x148,x149,x150,x151,x152,x153,x154)=>
some (x137,x138,x139,x140,x141,x142,x143,x144,x145,x146,x147,x148,x149,x150,x151,x152,x153,x154))):Option (Int×Bool×Bool×Int×Int×Int×Int×Int×Int×Int×Int×Int×Int×Int×Int×Int×Int×Int)) >>= fun(x155,x156,x157,x158,x159,x160,x161,x162,x163,x164,x165,x166,x167,x168,x169,x170,x171,x172)=>
some (x155,x156,x157,x158,x159,x160,x161,x162,x163,x164,x165,x166,x167,x168,x169,x170,x171,x172)):Option (Int×Bool×Bool×Int×Int×Int×Int×Int×Int×Int×Int×Int×Int×Int×Int×Int×Int×Int)) >>= fun(x173,x174,x175,x176,x177,_x77802,x178,x179,x180,x181,x182,x183,x184,x185,x186,x187,x188,x189)=>
some (x174,x175,x176,x177,x173,x178,x179,x180,x181,x182,x183,x184,x185,x186,x187,x188,x189)
def F_123(N:Nat)(x1:Int)(x2:Int)(x3:Int)(x4:Int)(x5:Int)(x6:(List Nd))(x7:Int)(x8:Int)(x9:ByteArray):Option (Bool×Bool×Int×Int×Int×Int×Int×Int×Int×Int×Int×Int×Int×Int×Int×Int×Int):=
F_16 N x1 x2 x3 x4 x5 x6 x7 x8 x9 >>= fun x10=>
if(!x10)=true then(
F_49 N 0 >>= fun _=>
some (true,false,(-1),(-1),0,0,0,0,0,0,0,0,0,0,0,0,0))
else(
F_4 N x1 x2 x3 x4 x5 x6 x7 x8 x9 >>= fun(x11,x12,x13,x14,x15,x16,x17,x18,x19,x20,x21,x22,x23,x24,x25,x26,x27)=>
some (x11,x12,x13,x14,x15,x16,x17,x18,x19,x20,x21,x22,x23,x24,x25,x26,x27))
def F_99(N:Nat)(x1:Int)(x2:Int)(x3:Int)(x4:Int)(x5:Int)(x6:(List Nd))(x7:Int)(x8:Int)(x9:ByteArray):Option Int:=
F_123 N x1 x2 x3 x4 x5 x6 x7 x8 x9 >>= fun(_x40,_x41,_x42,_x43,x10,_x45,_x46,_x47,_x48,_x49,_x50,_x51,_x52,_x53,_x54,_x55,_x56)=>
some x10
def F_121(N:Nat)(_x3:(List ByteArray))(x1:(List ByteArray))(_x11:(List (Zc×Nd×Int×Int)))(_x16:(List ByteArray))(_x20:(List (ByteArray×Nd)))(x2:ByteArray):Option ((List ByteArray)×Int):=
if(x2.toList==ByteArray.empty.toList)=true then(
some (x1,(-1)))
else(
F_21 N x1 x2 >>= fun x3=>
if(decide (x3≥0))=true then(
some (x1,x3))
else(
app x1 ([x2]) >>= fun x4=>
some (x4,w64 ((x4.length:Int)-1))))
def F_110(N:Nat)(x1:(List ByteArray))(x2:(List ByteArray))(x3:(List (Zc×Nd×Int×Int)))(x4:(List ByteArray))(x5:(List (ByteArray×Nd)))(x6:(List ByteArray))(x7:Int)(x8:Int)(x9:Int)(x10:Int)(x11:Int)(x12:(List Nd))(x13:Int)(x14:Int)(x15:ByteArray)(x16:ByteArray)(x17:ByteArray)(_x39:Int):Option ((List ByteArray)×(List (Zc×Nd×Int×Int))×Int):=
F_27 N x1 x2 x3 x4 x5 x6 >>= fun(x18,x19)=>
if(eOk errIds x19)=true then(
some (x2,x3,x19))
else(
((if(x17.toList != ByteArray.empty.toList)=true then(
F_98 N x1 x2 x3 x17 >>= fun x20=>
if(decide (x20<0))=true then(
some (.inr (x2,x3,15)))
else(
some (.inl x20)))
else(
some (.inl (-1)))):Option (Int ⊕ ((List ByteArray)×(List (Zc×Nd×Int×Int))×Int))) >>= fun z=>match z with
| .inr z=>some z
| .inl x21=>
((F_93 N x4 x5 x7 x8 x9 x10 x11 x12 x13 x14 x15 >>= fun(x22,x23,x24,x25,x26,x27,x28,x29,x30,x31)=>
some (x31,x22,x23,x24,x25,x26,x27,x28,x29,x30)):Option (Int×Int×Int×Int×Int×Int×(List Nd)×Int×Int×ByteArray)) >>= fun(x32,x33,x34,x35,x36,x37,x38,x39,x40,x41)=>
if(eOk errIds x32)=true then(
some (x2,x3,x32))
else(
F_99 N x33 x34 x35 x36 x37 x38 x39 x40 x41 >>= fun x42=>
if(decide (x42>4000))=true then(
some (x2,x3,2))
else(
((F_121 N x1 x2 x3 x4 x5 x16 >>= fun(x43,x44)=>
app x3 ([(x18,(Nd.of (x33,(x34,x35,x36,x37),x38,x39,x40,x41)),x44,x21)]) >>= fun x45=>
some (x43,x45)):Option ((List ByteArray)×(List (Zc×Nd×Int×Int)))) >>= fun(x46,x47)=>
some (x46,x47,0))))
def F_48(N:Nat)(x1:(List (ByteArray×Nd×Int)))(x2:Int)(x3:(List ByteArray))(x4:(List (ByteArray×Nd))):Option ((Int×(List ByteArray)×(List (ByteArray×Nd))) ⊕ (((List ByteArray)×(List (ByteArray×Nd))) ⊕ ((List ByteArray)×(List ByteArray)×(List (Zc×Nd×Int×Int))×Int×Int))):=
if(decide (x2<(x1.length:Int)))=true then(
idx x1 x2 >>= fun x5=>
F_109 N x3 x4 x5.1 x5.2.1.un.1 x5.2.1.un.2.1.1 x5.2.1.un.2.1.2.1 x5.2.1.un.2.1.2.2.1 x5.2.1.un.2.1.2.2.2 x5.2.1.un.2.2.1 x5.2.1.un.2.2.2.1 x5.2.1.un.2.2.2.2.1 x5.2.1.un.2.2.2.2.2 >>= fun(x6,x7,x8)=>
if(eOk errIds x8)=true then(
((some ()):Option Unit) >>= fun _=>
some (.inr (.inr ([],[],[],x5.2.2,x8))))
else(
some (.inl (w64 (x2+1),x6,x7))))
else(
some (.inr (.inl (x3,x4))))
def F_59(N:Nat)(x1:(List ((List ByteArray)×Nd×(ByteArray×ByteArray)×Int)))(x2:(List ByteArray))(x3:(List ByteArray))(x4:(List (ByteArray×Nd)))(x5:(List ByteArray))(x6:(List (Zc×Nd×Int×Int)))(x7:Int):Option (((List ByteArray)×(List (Zc×Nd×Int×Int))×Int) ⊕ (((List ByteArray)×(List (Zc×Nd×Int×Int))) ⊕ ((List ByteArray)×(List ByteArray)×(List (Zc×Nd×Int×Int))×Int×Int))):=
if(decide (x7<(x1.length:Int)))=true then(
idx x1 x7 >>= fun x8=>
F_110 N x2 x5 x6 x3 x4 x8.1 x8.2.1.un.1 x8.2.1.un.2.1.1 x8.2.1.un.2.1.2.1 x8.2.1.un.2.1.2.2.1 x8.2.1.un.2.1.2.2.2 x8.2.1.un.2.2.1 x8.2.1.un.2.2.2.1 x8.2.1.un.2.2.2.2.1 x8.2.1.un.2.2.2.2.2 x8.2.2.1.1 x8.2.2.1.2 x8.2.2.2 >>= fun(x9,x10,x11)=>
if(eOk errIds x11)=true then(
((some ()):Option Unit) >>= fun _=>
some (.inr (.inr ([],[],[],x8.2.2.2,x11))))
else(
some (.inl (x9,x10,w64 (x7+1)))))
else(
some (.inr (.inl (x5,x6))))
def F_8(N:Nat)(x1:(List ByteArray))(x2:(List (ByteArray×Nd×Int)))(x3:(List ((List ByteArray)×Nd×(ByteArray×ByteArray)×Int))):Option ((List ByteArray)×(List ByteArray)×(List (Zc×Nd×Int×Int))×Int×Int):=
F_14 N x1 x2 x3 >>= fun x4=>
if(!x4)=true then(
((some ()):Option Unit) >>= fun _=>
some ([],[],[],0,1))
else(
if((x3.length:Int)==0)=true then(
((some ()):Option Unit) >>= fun _=>
some ([],[],[],0,4))
else(
F_119 N x1 >>= fun x5=>
F_120 N >>= fun _=>
((iterO N (fun s=>F_48 N x2 s.1 s.2.1 s.2.2) (0,[],([]:List (ByteArray×Nd)))):Option (((List ByteArray)×(List (ByteArray×Nd))) ⊕ ((List ByteArray)×(List ByteArray)×(List (Zc×Nd×Int×Int))×Int×Int))) >>= fun z=>match z with
| .inr z=>some z
| .inl (x6,x7)=>
((iterO N (fun s=>F_59 N x3 x5 x6 x7 s.1 s.2.1 s.2.2) ([],[],0)):Option (((List ByteArray)×(List (Zc×Nd×Int×Int))) ⊕ ((List ByteArray)×(List ByteArray)×(List (Zc×Nd×Int×Int))×Int×Int))) >>= fun z=>match z with
| .inr z=>some z
| .inl (x8,x9)=>
some (x5,x8,x9,0,0)))
def F_46(_N:Nat)(self_:Int→Int→Int→Int→Int→(List Nd)→Int→Int→ByteArray→Int→(List (Nd×Int×Int))→Option (List (Nd×Int×Int)))(x1:(List Nd))(x2:Int)(x3:(List (Nd×Int×Int)))(x4:Int):Option (((List (Nd×Int×Int))×Int) ⊕ ((List (Nd×Int×Int)) ⊕ (List (Nd×Int×Int)))):=
if(decide (x4<(x1.length:Int)))=true then(
idx x1 x4 >>= fun x5=>
if(decide ((x3.length:Int)≥601))=true then(
some (.inr (.inr x3)))
else(
self_ x5.un.1 x5.un.2.1.1 x5.un.2.1.2.1 x5.un.2.1.2.2.1 x5.un.2.1.2.2.2 x5.un.2.2.1 x5.un.2.2.2.1 x5.un.2.2.2.2.1 x5.un.2.2.2.2.2 (w64 (x2+1)) x3 >>= fun x6=>
some (.inl (x6,w64 (x4+1)))))
else(
some (.inr (.inl x3)))
def F_7:(N:Nat)→(x1:Int)→(x2:Int)→(x3:Int)→(x4:Int)→(x5:Int)→(x6:(List Nd))→(x7:Int)→(x8:Int)→(x9:ByteArray)→(x10:Int)→(x11:(List (Nd×Int×Int)))→Option (List (Nd×Int×Int))
|0,_,_,_,_,_,_,_,_,_,_,_=>none
|N+1,x1,x2,x3,x4,x5,x6,x7,x8,x9,x10,x11=>
if(decide ((x11.length:Int)≥601))=true then(
some x11)
else(
app x11 ([((Nd.of (x1,(x2,x3,x4,x5),[],x7,x8,x9)),x10,(x6.length:Int))]) >>= fun x12=>
if(decide (x10>24))=true then(
some x12)
else(
((iterO N (fun s=>F_46 N (F_7 N) x6 x10 s.1 s.2) (x12,0)):Option ((List (Nd×Int×Int)) ⊕ (List (Nd×Int×Int)))) >>= fun z=>match z with
| .inr z=>some z
| .inl x13=>
some x13))
def F_84(_N:Nat)(x1:ByteArray)(x2:Int):Option (Int ⊕ (Unit ⊕ Bool)):=
if(decide (x2<(x1.size:Int)))=true then(
((sidx x1 x2 >>= fun x3=>
if(decide (x3<97))=true then(
sidx x1 x2 >>= fun x4=>
if(decide (x4<48))=true then(
some true)
else(
sidx x1 x2 >>= fun x5=>
some (decide (x5>57))))
else(
sidx x1 x2 >>= fun x6=>
if(decide (x6>122))=true then(
sidx x1 x2 >>= fun x7=>
if(decide (x7<48))=true then(
some true)
else(
sidx x1 x2 >>= fun x8=>
some (decide (x8>57))))
else(
some false))):Option Bool) >>= fun x9=>
if x9=true then(
some (.inr (.inr false)))
else(
some (.inl (w64 (x2+1)))))
else(
some (.inr (.inl ())))
def F_20(N:Nat)(x1:ByteArray):Option Bool:=
((if(decide ((x1.size:Int)<1))=true then(
some true)
else(
if(decide ((x1.size:Int)>12))=true then(
some true)
else(
sidx x1 0 >>= fun x2=>
if(decide (x2<97))=true then(
some true)
else(
sidx x1 0 >>= fun x3=>
some (decide (x3>122)))))):Option Bool) >>= fun x4=>
if x4=true then(
some false)
else(
((iterO N (fun s=>F_84 N x1 s) 0):Option (Unit ⊕ Bool)) >>= fun z=>match z with
| .inr z=>some z
| .inl _=>
some true)
def F_106(N:Nat)(x1:Int)(x2:Int)(x3:Int)(x4:Int)(x5:Int)(_x7:(List Nd))(x6:Int)(x7:Int)(x8:ByteArray)(_x12:Int)(x9:Int):Option Bool:=
((if(x1 != 1)=true then(
if(([x2,x3,x4,x5]:List Int) != ([0,0,0,0]:List Int))=true then(
some true)
else(
if(x1 != 4)=true then(
if(x6 != 0)=true then(
some true)
else(
if(x7 != 0)=true then(
some true)
else(
if(x1 != 5)=true then(
some (x8.toList != ByteArray.empty.toList))
else(
some false))))
else(
if(x1 != 5)=true then(
some (x8.toList != ByteArray.empty.toList))
else(
some false))))
else(
if(x1 != 4)=true then(
if(x6 != 0)=true then(
some true)
else(
if(x7 != 0)=true then(
some true)
else(
if(x1 != 5)=true then(
some (x8.toList != ByteArray.empty.toList))
else(
some false))))
else(
if(x1 != 5)=true then(
some (x8.toList != ByteArray.empty.toList))
else(
some false)))):Option Bool) >>= fun x10=>
if x10=true then(
some false)
else(
if(x1==1)=true then(
some (x9==0))
else(
if(x1==2)=true then(
some true)
else(
if(x1==3)=true then(
some (decide (x9>1)))
else(
if(x1==4)=true then(
((if(x9 != 1)=true then(
some true)
else(
if(decide (x6<0))=true then(
some true)
else(
some (decide (x6>40))))):Option Bool) >>= fun x11=>
if x11=true then(
some false)
else(
((if(x7==(-1))=true then(
some true)
else(
if(decide (x7≥x6))=true then(
if(decide (x7≥1))=true then(
some (decide (x7≤40)))
else(
some false))
else(
some false))):Option Bool) >>= fun x12=>
some x12))
else(
((if(x1==5)=true then(
if(x9==0)=true then(
F_20 N x8 >>= fun x13=>
some x13)
else(
some false))
else(
some false)):Option Bool) >>= fun x14=>
some x14)))))
def F_85(N:Nat)(x1:(List (Nd×Int×Int)))(x2:Int):Option (Int ⊕ (Unit ⊕ Bool)):=
if(decide (x2<(x1.length:Int)))=true then(
idx x1 x2 >>= fun x3=>
((if(decide (x3.2.1>24))=true then(
some true)
else(
F_106 N x3.1.un.1 x3.1.un.2.1.1 x3.1.un.2.1.2.1 x3.1.un.2.1.2.2.1 x3.1.un.2.1.2.2.2 x3.1.un.2.2.1 x3.1.un.2.2.2.1 x3.1.un.2.2.2.2.1 x3.1.un.2.2.2.2.2 x3.2.1 x3.2.2 >>= fun x4=>
some (!x4))):Option Bool) >>= fun x5=>
if x5=true then(
some (.inr (.inr false)))
else(
some (.inl (w64 (x2+1)))))
else(
some (.inr (.inl ())))
def F_25(N:Nat)(x1:Int)(x2:Int)(x3:Int)(x4:Int)(x5:Int)(x6:(List Nd))(x7:Int)(x8:Int)(x9:ByteArray):Option Bool:=
F_7 N x1 x2 x3 x4 x5 x6 x7 x8 x9 1 ([]) >>= fun x10=>
((iterO N (fun s=>F_85 N x10 s) 0):Option (Unit ⊕ Bool)) >>= fun z=>match z with
| .inr z=>some z
| .inl _=>
some (decide ((x10.length:Int)≤600))
def F_54(_N:Nat)(self_:Int→Int→Int→Int→Int→(List Nd)→Int→Int→ByteArray→Option (Int×Int×Int×Int×Int×(List Nd)×Int×Int×ByteArray))(x1:(List Nd))(x2:(List Nd))(x3:Int):Option (((List Nd)×Int) ⊕ (List Nd)):=
if(decide (x3<(x1.length:Int)))=true then(
idx x1 x3 >>= fun x4=>
((self_ x4.un.1 x4.un.2.1.1 x4.un.2.1.2.1 x4.un.2.1.2.2.1 x4.un.2.1.2.2.2 x4.un.2.2.1 x4.un.2.2.2.1 x4.un.2.2.2.2.1 x4.un.2.2.2.2.2 >>= fun(x5,x6,x7,x8,x9,x10,x11,x12,x13)=>
app x2 ([(Nd.of (x5,(x6,x7,x8,x9),x10,x11,x12,x13))]) >>= fun x14=>
some x14):Option (List Nd)) >>= fun x15=>
some (.inl (x15,w64 (x3+1))))
else(
some (.inr x2))
def F_11:(N:Nat)→(x1:Int)→(x2:Int)→(x3:Int)→(x4:Int)→(x5:Int)→(x6:(List Nd))→(x7:Int)→(x8:Int)→(x9:ByteArray)→Option (Int×Int×Int×Int×Int×(List Nd)×Int×Int×ByteArray)
|0,_,_,_,_,_,_,_,_,_=>none
|N+1,x1,x2,x3,x4,x5,x6,x7,x8,x9=>
((if(x1==2)=true then(
some ((x6.length:Int)==1))
else(
some false)):Option Bool) >>= fun x10=>
if x10=true then(
idx x6 0 >>= fun x11=>
F_11 N x11.un.1 x11.un.2.1.1 x11.un.2.1.2.1 x11.un.2.1.2.2.1 x11.un.2.1.2.2.2 x11.un.2.2.1 x11.un.2.2.2.1 x11.un.2.2.2.2.1 x11.un.2.2.2.2.2 >>= fun(x12,x13,x14,x15,x16,x17,x18,x19,x20)=>
some (x12,x13,x14,x15,x16,x17,x18,x19,x20))
else(
((iterO N (fun s=>F_54 N (F_11 N) x6 s.1 s.2) ([],0)):Option (List Nd)) >>= fun x21=>
some (x1,x2,x3,x4,x5,x21,x7,x8,x9))
def F_86(_N:Nat)(x1:(List (Nd×Int×Int)))(x2:(List (Nd×Int×Int)))(x3:Int):Option (Int ⊕ (Unit ⊕ Bool)):=
if(decide (x3<(x1.length:Int)))=true then(
((idx x1 x3 >>= fun x4=>
idx x2 x3 >>= fun x5=>
some (x4.1.un.1,x4.1.un.2.1.1,x4.1.un.2.1.2.1,x4.1.un.2.1.2.2.1,x4.1.un.2.1.2.2.2,x4.1.un.2.2.1,x4.1.un.2.2.2.1,x4.1.un.2.2.2.2.1,x4.1.un.2.2.2.2.2,x5.1.un.1,x5.1.un.2.1.1,x5.1.un.2.1.2.1,x5.1.un.2.1.2.2.1,x5.1.un.2.1.2.2.2,x5.1.un.2.2.1,x5.1.un.2.2.2.1,x5.1.un.2.2.2.2.1,x5.1.un.2.2.2.2.2)):Option (Int×Int×Int×Int×Int×(List Nd)×Int×Int×ByteArray×Int×Int×Int×Int×Int×(List Nd)×Int×Int×ByteArray)) >>= fun(x6,x7,x8,x9,x10,_x4313,x11,x12,x13,x14,x15,x16,x17,x18,_x4325,x19,x20,x21)=>
((idx x1 x3 >>= fun x22=>
idx x2 x3 >>= fun x23=>
if(x22.2.1 != x23.2.1)=true then(
some true)
else(
idx x1 x3 >>= fun x24=>
idx x2 x3 >>= fun x25=>
if(x24.2.2 != x25.2.2)=true then(
some true)
else(
if(x6 != x14)=true then(
some true)
else(
if(([x7,x8,x9,x10]:List Int) != ([x15,x16,x17,x18]:List Int))=true then(
some true)
else(
if(x11 != x19)=true then(
some true)
else(
if(x12 != x20)=true then(
some true)
else(
some (x13.toList != x21.toList)))))))):Option Bool) >>= fun x26=>
if x26=true then(
some (.inr (.inr false)))
else(
some (.inl (w64 (x3+1)))))
else(
some (.inr (.inl ())))
def F_26(N:Nat)(x1:Int)(x2:Int)(x3:Int)(x4:Int)(x5:Int)(x6:(List Nd))(x7:Int)(x8:Int)(x9:ByteArray)(x10:Int)(x11:Int)(x12:Int)(x13:Int)(x14:Int)(x15:(List Nd))(x16:Int)(x17:Int)(x18:ByteArray):Option Bool:=
F_7 N x1 x2 x3 x4 x5 x6 x7 x8 x9 1 ([]) >>= fun x19=>
F_7 N x10 x11 x12 x13 x14 x15 x16 x17 x18 1 ([]) >>= fun x20=>
((F_25 N x1 x2 x3 x4 x5 x6 x7 x8 x9 >>= fun x21=>
if(!x21)=true then(
some true)
else(
F_25 N x10 x11 x12 x13 x14 x15 x16 x17 x18 >>= fun x22=>
if(!x22)=true then(
some true)
else(
some ((x19.length:Int) != (x20.length:Int))))):Option Bool) >>= fun x23=>
if x23=true then(
some false)
else(
((iterO N (fun s=>F_86 N x19 x20 s) 0):Option (Unit ⊕ Bool)) >>= fun z=>match z with
| .inr z=>some z
| .inl _=>
some true)
def F_89(N:Nat)(x1:Int)(x2:Int)(x3:Int)(x4:Int)(x5:Int)(x6:(List Nd))(x7:Int)(x8:Int)(x9:ByteArray):Option Bool:=
((F_25 N x1 x2 x3 x4 x5 x6 x7 x8 x9 >>= fun x10=>
if x10=true then(
F_11 N x1 x2 x3 x4 x5 x6 x7 x8 x9 >>= fun(x11,x12,x13,x14,x15,x16,x17,x18,x19)=>
F_26 N x11 x12 x13 x14 x15 x16 x17 x18 x19 x1 x2 x3 x4 x5 x6 x7 x8 x9 >>= fun x20=>
some x20)
else(
some false)):Option Bool) >>= fun x21=>
some x21
def F_88(_N:Nat)(x1:(List ByteArray))(x2:ByteArray)(x3:Int):Option (Int ⊕ (Unit ⊕ Bool)):=
if(decide (x3<(x1.length:Int)))=true then(
idx x1 x3 >>= fun x4=>
if(x4.toList==x2.toList)=true then(
some (.inr (.inr true)))
else(
some (.inl (w64 (x3+1)))))
else(
some (.inr (.inl ())))
def F_39(N:Nat)(x1:(List ByteArray))(x2:ByteArray):Option Bool:=
((iterO N (fun s=>F_88 N x1 x2 s) 0):Option (Unit ⊕ Bool)) >>= fun z=>match z with
| .inr z=>some z
| .inl _=>
some false
def F_90(N:Nat)(x1:(List ByteArray))(x2:Int):Option (Int ⊕ (Unit ⊕ Bool)):=
if(decide (x2<(x1.length:Int)))=true then(
idx x1 x2 >>= fun x3=>
((F_20 N x3 >>= fun x4=>
if(!x4)=true then(
some true)
else(
slc x1 0 x2 >>= fun x5=>
F_39 N x5 x3 >>= fun x6=>
some x6)):Option Bool) >>= fun x7=>
if x7=true then(
some (.inr (.inr false)))
else(
some (.inl (w64 (x2+1)))))
else(
some (.inr (.inl ())))
def F_30(N:Nat)(x1:(List ByteArray)):Option Bool:=
((iterO N (fun s=>F_90 N x1 s) 0):Option (Unit ⊕ Bool)) >>= fun z=>match z with
| .inr z=>some z
| .inl _=>
some true
def F_108(N:Nat)(x1:ByteArray)(x2:ByteArray):Option Bool:=
((if(x1.toList==ByteArray.empty.toList)=true then(
if(x2.toList==ByteArray.empty.toList)=true then(
some true)
else(
F_20 N x2 >>= fun x3=>
some x3))
else(
F_20 N x1 >>= fun x4=>
if x4=true then(
if(x2.toList==ByteArray.empty.toList)=true then(
some true)
else(
F_20 N x2 >>= fun x5=>
some x5))
else(
some false))):Option Bool) >>= fun x6=>
some x6
def F_56(N:Nat)(x1:(List (ByteArray×Nd×Int)))(x2:Int)(x3:(List ByteArray)):Option ((Int×(List ByteArray)) ⊕ ((List ByteArray) ⊕ Bool)):=
if(decide (x2<(x1.length:Int)))=true then(
idx x1 x2 >>= fun x4=>
app x3 ([x4.1]) >>= fun x5=>
F_89 N x4.2.1.un.1 x4.2.1.un.2.1.1 x4.2.1.un.2.1.2.1 x4.2.1.un.2.1.2.2.1 x4.2.1.un.2.1.2.2.2 x4.2.1.un.2.2.1 x4.2.1.un.2.2.2.1 x4.2.1.un.2.2.2.2.1 x4.2.1.un.2.2.2.2.2 >>= fun x6=>
if(!x6)=true then(
some (.inr (.inr false)))
else(
some (.inl (w64 (x2+1),x5))))
else(
some (.inr (.inl x3)))
def F_75(N:Nat)(x1:(List ((List ByteArray)×Nd×(ByteArray×ByteArray)×Int)))(x2:Int):Option (Int ⊕ (Unit ⊕ Bool)):=
if(decide (x2<(x1.length:Int)))=true then(
idx x1 x2 >>= fun x3=>
((if(decide ((x3.1.length:Int)<1))=true then(
some true)
else(
F_30 N x3.1 >>= fun x4=>
if(!x4)=true then(
some true)
else(
F_89 N x3.2.1.un.1 x3.2.1.un.2.1.1 x3.2.1.un.2.1.2.1 x3.2.1.un.2.1.2.2.1 x3.2.1.un.2.1.2.2.2 x3.2.1.un.2.2.1 x3.2.1.un.2.2.2.1 x3.2.1.un.2.2.2.2.1 x3.2.1.un.2.2.2.2.2 >>= fun x5=>
if(!x5)=true then(
some true)
else(
F_108 N x3.2.2.1.1 x3.2.2.1.2 >>= fun x6=>
some (!x6))))):Option Bool) >>= fun x7=>
if x7=true then(
some (.inr (.inr false)))
else(
some (.inl (w64 (x2+1)))))
else(
some (.inr (.inl ())))
def F_13(N:Nat)(x1:(List ByteArray))(x2:(List (ByteArray×Nd×Int)))(x3:(List ((List ByteArray)×Nd×(ByteArray×ByteArray)×Int))):Option Bool:=
((iterO N (fun s=>F_56 N x2 s.1 s.2) (0,[])):Option ((List ByteArray) ⊕ Bool)) >>= fun z=>match z with
| .inr z=>some z
| .inl x4=>
((iterO N (fun s=>F_75 N x3 s) 0):Option (Unit ⊕ Bool)) >>= fun z=>match z with
| .inr z=>some z
| .inl _=>
((if(decide ((x1.length:Int)≥1))=true then(
if(decide ((x1.length:Int)≤8))=true then(
idx x1 0 >>= fun x5=>
if(x5.toList==(⟨#[109,97,105,110]⟩:ByteArray).toList)=true then(
F_30 N x1 >>= fun x6=>
if x6=true then(
F_30 N x4 >>= fun x7=>
if x7=true then(
if(decide ((x4.length:Int)≤32))=true then(
some (decide ((x3.length:Int)≤48)))
else(
some false))
else(
some false))
else(
some false))
else(
some false))
else(
some false))
else(
some false)):Option Bool) >>= fun x8=>
some x8
def F_87(_N:Nat)(x1:(List (ByteArray×Nd)))(x2:ByteArray)(x3:Int):Option (Int ⊕ (Unit ⊕ Int)):=
if(decide (x3<(x1.length:Int)))=true then(
idx x1 x3 >>= fun x4=>
if(x4.1.toList==x2.toList)=true then(
some (.inr (.inr x3)))
else(
some (.inl (w64 (x3+1)))))
else(
some (.inr (.inl ())))
def F_33(N:Nat)(x1:(List (ByteArray×Nd)))(x2:ByteArray):Option Int:=
((iterO N (fun s=>F_87 N x1 x2 s) 0):Option (Unit ⊕ Int)) >>= fun z=>match z with
| .inr z=>some z
| .inl _=>
some (-1)
def F_107(N:Nat)(x1:(List (ByteArray×Nd)))(x2:ByteArray)(x3:Int)(x4:Int)(x5:Int)(x6:Int)(x7:Int)(x8:(List Nd))(x9:Int)(x10:Int)(x11:ByteArray):Option ((List (ByteArray×Nd))×Int):=
F_20 N x2 >>= fun x12=>
if(!x12)=true then(
some (x1,5))
else(
F_25 N x3 x4 x5 x6 x7 x8 x9 x10 x11 >>= fun x13=>
if(!x13)=true then(
some (x1,4))
else(
F_33 N x1 x2 >>= fun x14=>
if(decide (x14≥0))=true then(
some (x1,6))
else(
if(decide ((x1.length:Int)≥32))=true then(
some (x1,13))
else(
((app ([]) x1 >>= fun x15=>
app x15 ([(x2,(Nd.of (x3,(x4,x5,x6,x7),x8,x9,x10,x11)))]) >>= fun x16=>
some x16):Option (List (ByteArray×Nd))) >>= fun x17=>
some (x17,0)))))
def F_92(_N:Nat)(x1:(List ByteArray))(x2:ByteArray)(x3:Int):Option (Int ⊕ (Unit ⊕ Int)):=
if(decide (x3<(x1.length:Int)))=true then(
idx x1 x3 >>= fun x4=>
if(x4.toList==x2.toList)=true then(
some (.inr (.inr x3)))
else(
some (.inl (w64 (x3+1)))))
else(
some (.inr (.inl ())))
def F_23(N:Nat)(x1:(List ByteArray))(x2:ByteArray):Option Int:=
((iterO N (fun s=>F_92 N x1 x2 s) 0):Option (Unit ⊕ Int)) >>= fun z=>match z with
| .inr z=>some z
| .inl _=>
some (-1)
def F_65(_N:Nat)(x1:ByteArray)(x2:Int)(x3:(List ByteArray))(x4:Int):Option (Int ⊕ (Unit ⊕ (Int×Int×Int×Int×Int×(List Nd)×Int×Int×Int×Int))):=
if(decide (x4<(x3.length:Int)))=true then(
idx x3 x4 >>= fun x5=>
if(x5.toList==x1.toList)=true then(
some (.inr (.inr (0,0,0,0,0,[],0,0,x2,8))))
else(
some (.inl (w64 (x4+1)))))
else(
some (.inr (.inl ())))
def F_29(_N:Nat)(self_:(List (ByteArray×Nd))→Int→Int→Int→Int→Int→(List Nd)→Int→Int→ByteArray→Int→Int→(List ByteArray)→Option (Int×Int×Int×Int×Int×(List Nd)×Int×Int×Int×Int))(x1:(List (ByteArray×Nd)))(x2:(List Nd))(x3:Int)(x4:(List ByteArray))(x5:(List Nd))(x6:Int)(x7:Int):Option (((List Nd)×Int×Int) ⊕ (((List Nd)×Int) ⊕ (Int×Int×Int×Int×Int×(List Nd)×Int×Int×Int×Int))):=
if(decide (x7<(x2.length:Int)))=true then(
idx x2 x7 >>= fun x8=>
self_ x1 x8.un.1 x8.un.2.1.1 x8.un.2.1.2.1 x8.un.2.1.2.2.1 x8.un.2.1.2.2.2 x8.un.2.2.1 x8.un.2.2.2.1 x8.un.2.2.2.2.1 x8.un.2.2.2.2.2 (w64 (x3+1)) x6 x4 >>= fun(x9,x10,x11,x12,x13,x14,x15,x16,x17,x18)=>
if(x18 != 0)=true then(
some (.inr (.inr (0,0,0,0,0,[],0,0,x17,x18))))
else(
app x5 ([(Nd.of (x9,(x10,x11,x12,x13),x14,x15,x16,ByteArray.empty))]) >>= fun x19=>
some (.inl (x19,x17,w64 (x7+1)))))
else(
some (.inr (.inl (x5,x6))))
def F_1:(N:Nat)→(x1:(List (ByteArray×Nd)))→(x2:Int)→(x3:Int)→(x4:Int)→(x5:Int)→(x6:Int)→(x7:(List Nd))→(x8:Int)→(x9:Int)→(x10:ByteArray)→(x11:Int)→(x12:Int)→(x13:(List ByteArray))→Option (Int×Int×Int×Int×Int×(List Nd)×Int×Int×Int×Int)
|0,_,_,_,_,_,_,_,_,_,_,_,_,_=>none
|N+1,x1,x2,x3,x4,x5,x6,x7,x8,x9,x10,x11,x12,x13=>
if(x2==5)=true then(
F_33 N x1 x10 >>= fun x14=>
if(decide (x14<0))=true then(
some (0,0,0,0,0,[],0,0,x12,15))
else(
((iterO N (fun s=>F_65 N x10 x12 x13 s) 0):Option (Unit ⊕ (Int×Int×Int×Int×Int×(List Nd)×Int×Int×Int×Int))) >>= fun z=>match z with
| .inr z=>some z
| .inl _=>
((idx x1 x14 >>= fun x15=>
app ([]) x13 >>= fun x16=>
app x16 ([x10]) >>= fun x17=>
F_1 N x1 x15.2.un.1 x15.2.un.2.1.1 x15.2.un.2.1.2.1 x15.2.un.2.1.2.2.1 x15.2.un.2.1.2.2.2 x15.2.un.2.2.1 x15.2.un.2.2.2.1 x15.2.un.2.2.2.2.1 x15.2.un.2.2.2.2.2 x11 x12 x17 >>= fun(x18,x19,x20,x21,x22,x23,x24,x25,x26,x27)=>
some (x18,x19,x20,x21,x22,x23,x24,x25,x26,x27)):Option (Int×Int×Int×Int×Int×(List Nd)×Int×Int×Int×Int)) >>= fun(x28,x29,x30,x31,x32,x33,x34,x35,x36,x37)=>
some (x28,x29,x30,x31,x32,x33,x34,x35,x36,x37)))
else(
if(decide (x11>24))=true then(
some (0,0,0,0,0,[],0,0,x12,7))
else(
if(decide (x12≥600))=true then(
some (0,0,0,0,0,[],0,0,x12,9))
else(
((iterO N (fun s=>F_29 N (F_1 N) x1 x7 x11 x13 s.1 s.2.1 s.2.2) ([],w64 (x12+1),0)):Option (((List Nd)×Int) ⊕ (Int×Int×Int×Int×Int×(List Nd)×Int×Int×Int×Int))) >>= fun z=>match z with
| .inr z=>some z
| .inl (x38,x39)=>
some (x2,x3,x4,x5,x6,x38,x8,x9,x39,0))))
def F_74(_N:Nat)(x1:Int):Option Int:=
if(decide (x1>1048576))=true then(
some 1048576)
else(
some x1)
def F_55(N:Nat)(self_:Int→Int→Int→Int→Int→(List Nd)→Int→Int→ByteArray→Option Int)(x1:Int)(x2:(List Nd))(x3:Int)(x4:Int)(x5:Int)(x6:Int):Option ((Int×Int) ⊕ Int):=
if(decide (x5<(x2.length:Int)))=true then(
((idx x2 x5 >>= fun x7=>
self_ x7.un.1 x7.un.2.1.1 x7.un.2.1.2.1 x7.un.2.1.2.2.1 x7.un.2.1.2.2.2 x7.un.2.2.1 x7.un.2.2.2.1 x7.un.2.2.2.2.1 x7.un.2.2.2.2.2 >>= fun x8=>
((if(x1==4)=true then(
some (x4==(-1)))
else(
some false)):Option Bool) >>= fun x9=>
((if x9=true then(
F_74 N (w64 (x8*(w64 (x3+1)))) >>= fun x10=>
some x10)
else(
((if(x1==4)=true then(
F_74 N (w64 (x8*x4)) >>= fun x11=>
some x11)
else(
some x8)):Option Int) >>= fun x12=>
some x12)):Option Int) >>= fun x13=>
F_74 N (w64 (x6+x13)) >>= fun x14=>
some x14):Option Int) >>= fun x15=>
some (.inl (w64 (x5+1),x15)))
else(
some (.inr x6))
def F_12:(N:Nat)→(x1:Int)→(x2:Int)→(x3:Int)→(x4:Int)→(x5:Int)→(x6:(List Nd))→(x7:Int)→(x8:Int)→(x9:ByteArray)→Option Int
|0,_,_,_,_,_,_,_,_,_=>none
|N+1,x1,x2,x3,x4,x5,x6,x7,x8,x9=>
((iterO N (fun s=>F_55 N (F_12 N) x1 x6 x7 x8 s.1 s.2) (0,1)):Option Int) >>= fun x10=>
some x10
def F_47(N:Nat)(x1:(List (ByteArray×Nd×Int)))(x2:Int)(x3:(List (ByteArray×Nd))):Option ((Int×(List (ByteArray×Nd))) ⊕ (List (ByteArray×Nd))):=
if(decide (x2<(x1.length:Int)))=true then(
idx x1 x2 >>= fun x4=>
F_107 N x3 x4.1 x4.2.1.un.1 x4.2.1.un.2.1.1 x4.2.1.un.2.1.2.1 x4.2.1.un.2.1.2.2.1 x4.2.1.un.2.1.2.2.2 x4.2.1.un.2.2.1 x4.2.1.un.2.2.2.1 x4.2.1.un.2.2.2.2.1 x4.2.1.un.2.2.2.2.2 >>= fun(x5,_x17189)=>
some (.inl (w64 (x2+1),x5)))
else(
some (.inr x3))
def F_76(N:Nat)(x1:(List ByteArray))(x2:((List ByteArray)×Nd×(ByteArray×ByteArray)×Int))(x3:Int):Option (Int ⊕ (Unit ⊕ (((List ByteArray)×(List (Zc×Nd×Int×Int))) ⊕ ((Int×(List ByteArray)×(List (Zc×Nd×Int×Int))) ⊕ (((List ByteArray)×(List (Zc×Nd×Int×Int))) ⊕ ((Int×Int) ⊕ ((List ByteArray)×(List (Zc×Nd×Int×Int))))))))):=
if(decide (x3<(x2.1.length:Int)))=true then(
idx x2.1 x3 >>= fun x4=>
F_23 N x1 x4 >>= fun x5=>
if(decide (x5<0))=true then(
((some ()):Option Unit) >>= fun _=>
some (.inr (.inr (.inr (.inr (.inr (.inl (x2.2.2.2,15))))))))
else(
some (.inl (w64 (x3+1)))))
else(
some (.inr (.inl ())))
def F_66(N:Nat)(x1:(List ByteArray))(x2:((List ByteArray)×Nd×(ByteArray×ByteArray)×Int))(x3:Zc)(x4:Int):Option ((Zc×Int) ⊕ Zc):=
if(decide (x4<(x1.length:Int)))=true then(
((idx x1 x4 >>= fun x5=>
F_23 N x2.1 x5 >>= fun x6=>
((if(decide (x6≥0))=true then(
app x3 ([x4]) >>= fun x7=>
some x7)
else(
some x3)):Option Zc) >>= fun x8=>
some x8):Option Zc) >>= fun x9=>
some (.inl (x9,w64 (x4+1))))
else(
some (.inr x3))
def F_57(N:Nat)(x1:(List ByteArray))(x2:(List ((List ByteArray)×Nd×(ByteArray×ByteArray)×Int)))(x3:(List (ByteArray×Nd)))(x4:Int)(x5:(List ByteArray))(x6:(List (Zc×Nd×Int×Int))):Option ((Int×(List ByteArray)×(List (Zc×Nd×Int×Int))) ⊕ (((List ByteArray)×(List (Zc×Nd×Int×Int))) ⊕ ((Int×Int) ⊕ ((List ByteArray)×(List (Zc×Nd×Int×Int)))))):=
if(decide (x4<(x2.length:Int)))=true then(
((idx x2 x4 >>= fun x7=>
((iterO N (fun s=>F_76 N x1 x7 s) 0):Option (Unit ⊕ (((List ByteArray)×(List (Zc×Nd×Int×Int))) ⊕ ((Int×(List ByteArray)×(List (Zc×Nd×Int×Int))) ⊕ (((List ByteArray)×(List (Zc×Nd×Int×Int))) ⊕ ((Int×Int) ⊕ ((List ByteArray)×(List (Zc×Nd×Int×Int))))))))) >>= fun z=>match z with
| .inr z=>some z
| .inl _=>
((iterO N (fun s=>F_66 N x1 x7 s.1 s.2) ([],0)):Option Zc) >>= fun x8=>
((if(x7.2.2.1.2.toList != ByteArray.empty.toList)=true then(
F_23 N x1 x7.2.2.1.2 >>= fun x9=>
if(decide (x9<0))=true then(
((some ()):Option Unit) >>= fun _=>
some (.inr (.inr (.inr (.inr (.inl (x7.2.2.2,15)))))))
else(
some (.inl x9)))
else(
some (.inl (-1)))):Option (Int ⊕ (((List ByteArray)×(List (Zc×Nd×Int×Int))) ⊕ ((Int×(List ByteArray)×(List (Zc×Nd×Int×Int))) ⊕ (((List ByteArray)×(List (Zc×Nd×Int×Int))) ⊕ ((Int×Int) ⊕ ((List ByteArray)×(List (Zc×Nd×Int×Int))))))))) >>= fun z=>match z with
| .inr z=>some z
| .inl x10=>
F_1 N x3 x7.2.1.un.1 x7.2.1.un.2.1.1 x7.2.1.un.2.1.2.1 x7.2.1.un.2.1.2.2.1 x7.2.1.un.2.1.2.2.2 x7.2.1.un.2.2.1 x7.2.1.un.2.2.2.1 x7.2.1.un.2.2.2.2.1 x7.2.1.un.2.2.2.2.2 1 0 [] >>= fun(x11,x12,x13,x14,x15,x16,x17,x18,_x32798,x19)=>
if(x19 != 0)=true then(
((some ()):Option Unit) >>= fun _=>
some (.inr (.inr (.inr (.inl (x7.2.2.2,x19))))))
else(
F_12 N x11 x12 x13 x14 x15 x16 x17 x18 ByteArray.empty >>= fun x20=>
if(decide (x20>4000))=true then(
((some ()):Option Unit) >>= fun _=>
some (.inr (.inr (.inr (.inl (x7.2.2.2,9))))))
else(
((if(x7.2.2.1.1.toList != ByteArray.empty.toList)=true then(
F_23 N x5 x7.2.2.1.1 >>= fun x21=>
((if(decide (x21<0))=true then(
((app ([]) x5 >>= fun x22=>
app x22 ([x7.2.2.1.1]) >>= fun x23=>
some x23):Option (List ByteArray)) >>= fun x24=>
some x24)
else(
some x5)):Option (List ByteArray)) >>= fun x25=>
F_23 N x25 x7.2.2.1.1 >>= fun x26=>
some (x26,x25))
else(
some ((-1),x5))):Option (Int×(List ByteArray))) >>= fun(x27,x28)=>
((app ([]) x6 >>= fun x29=>
app x29 ([(x8,(Nd.of (x11,(x12,x13,x14,x15),x16,x17,x18,ByteArray.empty)),x27,x10)]) >>= fun x30=>
some x30):Option (List (Zc×Nd×Int×Int))) >>= fun x31=>
some (.inl (x28,x31))))):Option (((List ByteArray)×(List (Zc×Nd×Int×Int))) ⊕ ((Int×(List ByteArray)×(List (Zc×Nd×Int×Int))) ⊕ (((List ByteArray)×(List (Zc×Nd×Int×Int))) ⊕ ((Int×Int) ⊕ ((List ByteArray)×(List (Zc×Nd×Int×Int)))))))) >>= fun z=>match z with
| .inr z=>some z
| .inl (x32,x33)=>
some (.inl (w64 (x4+1),x32,x33)))
else(
some (.inr (.inl (x5,x6))))
def F_3(N:Nat)(x1:(List ByteArray))(x2:(List (ByteArray×Nd×Int)))(x3:(List ((List ByteArray)×Nd×(ByteArray×ByteArray)×Int))):Option ((Int×Int) ⊕ ((List ByteArray)×(List (Zc×Nd×Int×Int)))):=
F_13 N x1 x2 x3 >>= fun x4=>
if(!x4)=true then(
some (.inl (0,4)))
else(
if((x3.length:Int)==0)=true then(
some (.inl (0,2)))
else(
((iterO N (fun s=>F_47 N x2 s.1 s.2) (0,[])):Option (List (ByteArray×Nd))) >>= fun x5=>
((iterO N (fun s=>F_57 N x1 x3 x5 s.1 s.2.1 s.2.2) (0,[],[])):Option (((List ByteArray)×(List (Zc×Nd×Int×Int))) ⊕ ((Int×Int) ⊕ ((List ByteArray)×(List (Zc×Nd×Int×Int)))))) >>= fun z=>match z with
| .inr z=>some z
| .inl (x6,x7)=>
some (.inr (x6,x7))))
def F_45(_N:Nat)(x1:Int)(x2:Int):Option (Int ⊕ (Unit ⊕ Int)):=
if(decide (x2<(([3,4,5,1,6,7,8,9,2,10,11,12,13,14,15,16,17,18]).length:Int)))=true then(
idx ([3,4,5,1,6,7,8,9,2,10,11,12,13,14,15,16,17,18]) x2 >>= fun x3=>
isO errIds x1 x3 >>= fun x4=>
if x4=true then(
some (.inr (.inr (w64 (x2+1)))))
else(
some (.inl (w64 (x2+1)))))
else(
some (.inr (.inl ())))
def F_9(N:Nat)(x1:Int):Option Int:=
if(!(eOk errIds x1))=true then(
some 0)
else(
((iterO N (fun s=>F_45 N x1 s) 0):Option (Unit ⊕ Int)) >>= fun z=>match z with
| .inr z=>some z
| .inl _=>
some (-1))
def F_51(N:Nat)(x1:(List (Zc×Nd×Int×Int)))(x2:Int)(x3:(List (Zc×Nd×Int×Int))):Option ((Int×(List (Zc×Nd×Int×Int))) ⊕ (List (Zc×Nd×Int×Int))):=
if(decide (x2<(x1.length:Int)))=true then(
idx x1 x2 >>= fun x4=>
F_5 N x4.2.1.un.1 x4.2.1.un.2.1.1 x4.2.1.un.2.1.2.1 x4.2.1.un.2.1.2.2.1 x4.2.1.un.2.1.2.2.2 x4.2.1.un.2.2.1 x4.2.1.un.2.2.2.1 x4.2.1.un.2.2.2.2.1 x4.2.1.un.2.2.2.2.2 700 >>= fun(x5,_x1197)=>
app x3 ([(x4.1,(Nd.of (x4.2.1.un.1,(x4.2.1.un.2.1.1,x4.2.1.un.2.1.2.1,x4.2.1.un.2.1.2.2.1,x4.2.1.un.2.1.2.2.2),x5,x4.2.1.un.2.2.2.1,x4.2.1.un.2.2.2.2.1,x4.2.1.un.2.2.2.2.2)),x4.2.2.1,x4.2.2.2)]) >>= fun x6=>
some (.inl (w64 (x2+1),x6)))
else(
some (.inr x3))
def F_22(N:Nat)(_x2:(List ByteArray))(_x5:(List ByteArray))(x1:(List (Zc×Nd×Int×Int))):Option (List (Zc×Nd×Int×Int)):=
((iterO N (fun s=>F_51 N x1 s.1 s.2) (0,[])):Option (List (Zc×Nd×Int×Int))) >>= fun x2=>
some x2
def F_83(_N:Nat)(x1:(List ByteArray))(x2:(List ByteArray))(x3:Int):Option (Int ⊕ (Unit ⊕ Bool)):=
if(decide (x3<(x1.length:Int)))=true then(
idx x1 x3 >>= fun x4=>
idx x2 x3 >>= fun x5=>
if(x4.toList != x5.toList)=true then(
some (.inr (.inr false)))
else(
some (.inl (w64 (x3+1)))))
else(
some (.inr (.inl ())))
def F_32(N:Nat)(x1:(List ByteArray))(x2:(List ByteArray)):Option Bool:=
if((x1.length:Int) != (x2.length:Int))=true then(
some false)
else(
((iterO N (fun s=>F_83 N x1 x2 s) 0):Option (Unit ⊕ Bool)) >>= fun z=>match z with
| .inr z=>some z
| .inl _=>
some true)
def F_82(_N:Nat)(x1:Zc)(x2:Zc)(x3:Int):Option (Int ⊕ (Unit ⊕ Bool)):=
if(decide (x3<(x1.length:Int)))=true then(
idx x1 x3 >>= fun x4=>
idx x2 x3 >>= fun x5=>
if(x4 != x5)=true then(
some (.inr (.inr false)))
else(
some (.inl (w64 (x3+1)))))
else(
some (.inr (.inl ())))
def F_38(N:Nat)(x1:Zc)(x2:Zc):Option Bool:=
if((x1.length:Int) != (x2.length:Int))=true then(
some false)
else(
((iterO N (fun s=>F_82 N x1 x2 s) 0):Option (Unit ⊕ Bool)) >>= fun z=>match z with
| .inr z=>some z
| .inl _=>
some true)
def F_91(N:Nat)(x1:(List (Zc×Nd×Int×Int)))(x2:(List (Zc×Nd×Int×Int)))(x3:Int):Option (Int ⊕ (Unit ⊕ Bool)):=
if(decide (x3<(x1.length:Int)))=true then(
idx x1 x3 >>= fun x4=>
idx x2 x3 >>= fun x5=>
((F_38 N x4.1 x5.1 >>= fun x6=>
if(!x6)=true then(
some true)
else(
if(x4.2.2.1 != x5.2.2.1)=true then(
some true)
else(
if(x4.2.2.2 != x5.2.2.2)=true then(
some true)
else(
F_26 N x4.2.1.un.1 x4.2.1.un.2.1.1 x4.2.1.un.2.1.2.1 x4.2.1.un.2.1.2.2.1 x4.2.1.un.2.1.2.2.2 x4.2.1.un.2.2.1 x4.2.1.un.2.2.2.1 x4.2.1.un.2.2.2.2.1 x4.2.1.un.2.2.2.2.2 x5.2.1.un.1 x5.2.1.un.2.1.1 x5.2.1.un.2.1.2.1 x5.2.1.un.2.1.2.2.1 x5.2.1.un.2.1.2.2.2 x5.2.1.un.2.2.1 x5.2.1.un.2.2.2.1 x5.2.1.un.2.2.2.2.1 x5.2.1.un.2.2.2.2.2 >>= fun x7=>
some (!x7))))):Option Bool) >>= fun x8=>
if x8=true then(
some (.inr (.inr false)))
else(
some (.inl (w64 (x3+1)))))
else(
some (.inr (.inl ())))
def F_34(N:Nat)(x1:(List ByteArray))(x2:(List ByteArray))(x3:(List (Zc×Nd×Int×Int)))(x4:(List ByteArray))(x5:(List ByteArray))(x6:(List (Zc×Nd×Int×Int))):Option Bool:=
((F_32 N x1 x4 >>= fun x7=>
if(!x7)=true then(
some true)
else(
F_32 N x2 x5 >>= fun x8=>
if(!x8)=true then(
some true)
else(
some ((x3.length:Int) != (x6.length:Int))))):Option Bool) >>= fun x9=>
if x9=true then(
some false)
else(
((iterO N (fun s=>F_91 N x3 x6 s) 0):Option (Unit ⊕ Bool)) >>= fun z=>match z with
| .inr z=>some z
| .inl _=>
some true)
def F_103(_N:Nat)(x1:(List ByteArray))(x2:(List ByteArray))(x3:Int):Option (Int ⊕ (Unit ⊕ Bool)):=
if(decide (x3<(x1.length:Int)))=true then(
idx x1 x3 >>= fun x4=>
idx x2 x3 >>= fun x5=>
if(x4.toList != x5.toList)=true then(
some (.inr (.inr false)))
else(
some (.inl (w64 (x3+1)))))
else(
some (.inr (.inl ())))
def F_36(N:Nat)(x1:(List ByteArray))(x2:(List ByteArray)):Option Bool:=
if((x1.length:Int) != (x2.length:Int))=true then(
some false)
else(
((iterO N (fun s=>F_103 N x1 x2 s) 0):Option (Unit ⊕ Bool)) >>= fun z=>match z with
| .inr z=>some z
| .inl _=>
some true)
def F_102(_N:Nat)(x1:Zc)(x2:Zc)(x3:Int):Option (Int ⊕ (Unit ⊕ Bool)):=
if(decide (x3<(x1.length:Int)))=true then(
idx x1 x3 >>= fun x4=>
idx x2 x3 >>= fun x5=>
if(x4 != x5)=true then(
some (.inr (.inr false)))
else(
some (.inl (w64 (x3+1)))))
else(
some (.inr (.inl ())))
def F_40(N:Nat)(x1:Zc)(x2:Zc):Option Bool:=
if((x1.length:Int) != (x2.length:Int))=true then(
some false)
else(
((iterO N (fun s=>F_102 N x1 x2 s) 0):Option (Unit ⊕ Bool)) >>= fun z=>match z with
| .inr z=>some z
| .inl _=>
some true)
def F_70(_N:Nat)(self_:Int→Int→Int→Int→Int→(List Nd)→Int→Int→ByteArray→Int→Int→Int→Int→Int→(List Nd)→Int→Int→ByteArray→Option Bool)(x1:(List Nd))(x2:(List Nd))(x3:Int):Option (Int ⊕ (Unit ⊕ Bool)):=
if(decide (x3<(x1.length:Int)))=true then(
idx x1 x3 >>= fun x4=>
idx x2 x3 >>= fun x5=>
self_ x4.un.1 x4.un.2.1.1 x4.un.2.1.2.1 x4.un.2.1.2.2.1 x4.un.2.1.2.2.2 x4.un.2.2.1 x4.un.2.2.2.1 x4.un.2.2.2.2.1 x4.un.2.2.2.2.2 x5.un.1 x5.un.2.1.1 x5.un.2.1.2.1 x5.un.2.1.2.2.1 x5.un.2.1.2.2.2 x5.un.2.2.1 x5.un.2.2.2.1 x5.un.2.2.2.2.1 x5.un.2.2.2.2.2 >>= fun x6=>
if(!x6)=true then(
some (.inr (.inr false)))
else(
some (.inl (w64 (x3+1)))))
else(
some (.inr (.inl ())))
def F_35(N:Nat)(self_:Int→Int→Int→Int→Int→(List Nd)→Int→Int→ByteArray→Int→Int→Int→Int→Int→(List Nd)→Int→Int→ByteArray→Option Bool)(x1:(List Nd))(x2:(List Nd)):Option Bool:=
if((x1.length:Int) != (x2.length:Int))=true then(
some false)
else(
((iterO N (fun s=>F_70 N self_ x1 x2 s) 0):Option (Unit ⊕ Bool)) >>= fun z=>match z with
| .inr z=>some z
| .inl _=>
some true)
def F_64:(N:Nat)→(x1:Int)→(x2:Int)→(x3:Int)→(x4:Int)→(x5:Int)→(x6:(List Nd))→(x7:Int)→(x8:Int)→(x9:ByteArray)→(x10:Int)→(x11:Int)→(x12:Int)→(x13:Int)→(x14:Int)→(x15:(List Nd))→(x16:Int)→(x17:Int)→(x18:ByteArray)→Option Bool
|0,_,_,_,_,_,_,_,_,_,_,_,_,_,_,_,_,_,_=>none
|N+1,x1,x2,x3,x4,x5,x6,x7,x8,x9,x10,x11,x12,x13,x14,x15,x16,x17,x18=>
((if(x1==x10)=true then(
if(([x2,x3,x4,x5]:List Int)==([x11,x12,x13,x14]:List Int))=true then(
if(x7==x16)=true then(
if(x8==x17)=true then(
some (x9.toList==x18.toList))
else(
some false))
else(
some false))
else(
some false))
else(
some false)):Option Bool) >>= fun x19=>
((if x19=true then(
F_35 N (F_64 N) x6 x15 >>= fun x20=>
some x20)
else(
some false)):Option Bool) >>= fun x21=>
some x21
def F_118(N:Nat)(x1:Int)(x2:Int)(x3:Int)(x4:Int)(x5:Int)(x6:(List Nd))(x7:Int)(x8:Int)(x9:ByteArray)(x10:Int)(x11:Int)(x12:Int)(x13:Int)(x14:Int)(x15:(List Nd))(x16:Int)(x17:Int)(x18:ByteArray):Option Bool:=
((F_16 N x1 x2 x3 x4 x5 x6 x7 x8 x9 >>= fun x19=>
if x19=true then(
F_16 N x10 x11 x12 x13 x14 x15 x16 x17 x18 >>= fun x20=>
if x20=true then(
F_64 N x1 x2 x3 x4 x5 x6 x7 x8 x9 x10 x11 x12 x13 x14 x15 x16 x17 x18 >>= fun x21=>
some x21)
else(
some false))
else(
some false)):Option Bool) >>= fun x22=>
some x22
def F_111(N:Nat)(x1:Zc)(x2:Int)(x3:Int)(x4:Int)(x5:Int)(x6:Int)(x7:(List Nd))(x8:Int)(x9:Int)(x10:ByteArray)(x11:Int)(x12:Int)(x13:Zc)(x14:Int)(x15:Int)(x16:Int)(x17:Int)(x18:Int)(x19:(List Nd))(x20:Int)(x21:Int)(x22:ByteArray)(x23:Int)(x24:Int):Option Bool:=
((F_40 N x1 x13 >>= fun x25=>
if x25=true then(
if(x11==x23)=true then(
if(x12==x24)=true then(
F_118 N x2 x3 x4 x5 x6 x7 x8 x9 x10 x14 x15 x16 x17 x18 x19 x20 x21 x22 >>= fun x26=>
some x26)
else(
some false))
else(
some false))
else(
some false)):Option Bool) >>= fun x27=>
some x27
def F_101(N:Nat)(x1:(List (Zc×Nd×Int×Int)))(x2:(List (Zc×Nd×Int×Int)))(x3:Int):Option (Int ⊕ (Unit ⊕ Bool)):=
if(decide (x3<(x1.length:Int)))=true then(
idx x1 x3 >>= fun x4=>
idx x2 x3 >>= fun x5=>
F_111 N x4.1 x4.2.1.un.1 x4.2.1.un.2.1.1 x4.2.1.un.2.1.2.1 x4.2.1.un.2.1.2.2.1 x4.2.1.un.2.1.2.2.2 x4.2.1.un.2.2.1 x4.2.1.un.2.2.2.1 x4.2.1.un.2.2.2.2.1 x4.2.1.un.2.2.2.2.2 x4.2.2.1 x4.2.2.2 x5.1 x5.2.1.un.1 x5.2.1.un.2.1.1 x5.2.1.un.2.1.2.1 x5.2.1.un.2.1.2.2.1 x5.2.1.un.2.1.2.2.2 x5.2.1.un.2.2.1 x5.2.1.un.2.2.2.1 x5.2.1.un.2.2.2.2.1 x5.2.1.un.2.2.2.2.2 x5.2.2.1 x5.2.2.2 >>= fun x6=>
if(!x6)=true then(
some (.inr (.inr false)))
else(
some (.inl (w64 (x3+1)))))
else(
some (.inr (.inl ())))
def F_42(N:Nat)(x1:(List (Zc×Nd×Int×Int)))(x2:(List (Zc×Nd×Int×Int))):Option Bool:=
if((x1.length:Int) != (x2.length:Int))=true then(
some false)
else(
((iterO N (fun s=>F_101 N x1 x2 s) 0):Option (Unit ⊕ Bool)) >>= fun z=>match z with
| .inr z=>some z
| .inl _=>
some true)
def F_97(N:Nat)(x1:(List ByteArray))(x2:(List ByteArray))(x3:(List (Zc×Nd×Int×Int)))(x4:(List ByteArray))(x5:(List ByteArray))(x6:(List (Zc×Nd×Int×Int))):Option Bool:=
((F_36 N x1 x4 >>= fun x7=>
if x7=true then(
F_36 N x2 x5 >>= fun x8=>
if x8=true then(
F_42 N x3 x6 >>= fun x9=>
some x9)
else(
some false))
else(
some false)):Option Bool) >>= fun x10=>
some x10
def F_52(N:Nat)(x1:(List ByteArray))(x2:(List (ByteArray×Nd×Int)))(x3:(List ((List ByteArray)×Nd×(ByteArray×ByteArray)×Int))):Option Bool:=
F_6 N x1 x2 x3 >>= fun(x4,x5,x6)=>
if(!x6)=true then(
some true)
else(
F_8 N x1 x2 x3 >>= fun(x7,x8,x9,x10,x11)=>
F_3 N x1 x4 x5 >>= fun z=>match z with
| .inl (x12,x13)=>(
((if(x10 != x12)=true then(
some true)
else(
F_9 N x11 >>= fun x14=>
some (x14 != x13))):Option Bool) >>= fun x15=>
if x15=true then(
some false)
else(
if(x13 != 0)=true then(
some ((w64 ((w64 ((x7.length:Int)+(x8.length:Int)))+(x9.length:Int)))==0))
else(
((F_22 N x7 x8 x9 >>= fun x16=>
F_34 N x7 x8 x16 ([]) ([]) ([]) >>= fun x17=>
if x17=true then(
F_97 N x7 x8 x9 x7 x8 x9 >>= fun x18=>
some x18)
else(
some false)):Option Bool) >>= fun x19=>
some x19)))
| .inr (x20,x21)=>(
((if(x10 != 0)=true then(
some true)
else(
F_9 N x11 >>= fun x22=>
some (x22 != 0))):Option Bool) >>= fun x23=>
if x23=true then(
some false)
else(
((F_22 N x7 x8 x9 >>= fun x24=>
F_34 N x7 x8 x24 x1 x20 x21 >>= fun x25=>
if x25=true then(
F_97 N x7 x8 x9 x7 x8 x9 >>= fun x26=>
some x26)
else(
some false)):Option Bool) >>= fun x27=>
some x27)))
abbrev eV(gV:Nat→Value)(x:Int):Value:=errV errIds gV x
abbrev GE(ρ:View)(gV:Nat→Value):Prop:=GErrs ρ 391 errIds gV
end Go.Proofs.YtfokmjocophnoaaGreatDoor
