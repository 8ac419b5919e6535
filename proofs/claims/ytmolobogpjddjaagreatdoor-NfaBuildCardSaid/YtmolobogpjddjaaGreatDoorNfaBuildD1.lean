import Derived.Test.YtmolobogpjddjaaGreatDoorNfaBuildE3
namespace Go.Proofs.YtmolobogpjddjaaGreatDoor
open Go Go.Eng
set_option maxRecDepth 100000
abbrev Za:=List ((List Int)×(Int×Int×Int×Int)×Int×Int)
abbrev Zc:=List Int
abbrev Zd:=Int×Int×Int×Int
def errIds:List Nat:=[0,1,2,3,4,5,6,7,8,9,10,11,12,13,14,15,16,17]
def F_25(_N:Nat)(self_:Int→Int→Int→Int→Int→(List Nd)→Int→Int→ByteArray→Int→Option ((List Nd)×Int))(x1:(List Nd))(x2:Int)(x3:Int)(x4:(List Nd)):Option ((Int×Int×(List Nd)) ⊕ ((Int×(List Nd)) ⊕ ((List Nd)×Int))):=
if(decide (x3<(x1.length:Int)))=true then(
idx x1 x3 >>= fun x5=>
if(decide (x2≤0))=true then(
some (.inr (.inr (x4,0))))
else(
self_ x5.un.1 x5.un.2.1.1 x5.un.2.1.2.1 x5.un.2.1.2.2.1 x5.un.2.1.2.2.2 x5.un.2.2.1 x5.un.2.2.2.1 x5.un.2.2.2.2.1 x5.un.2.2.2.2.2 x2 >>= fun(x6,x7)=>
app x4 ([(Nd.of (x5.un.1,(x5.un.2.1.1,x5.un.2.1.2.1,x5.un.2.1.2.2.1,x5.un.2.1.2.2.2),x6,x5.un.2.2.2.1,x5.un.2.2.2.2.1,x5.un.2.2.2.2.2))]) >>= fun x8=>
some (.inl (x7,w64 (x3+1),x8))))
else(
some (.inr (.inl (x2,x4))))
def F_7:(N:Nat)→(x1:Int)→(x2:Int)→(x3:Int)→(x4:Int)→(x5:Int)→(x6:(List Nd))→(x7:Int)→(x8:Int)→(x9:ByteArray)→(x10:Int)→Option ((List Nd)×Int)
|0,_,_,_,_,_,_,_,_,_,_=>none
|N+1,_,_,_,_,_,x6,_,_,_,x10=>
((iterO N (fun s=>F_25 N (F_7 N) x6 s.1 s.2.1 s.2.2) (w64 (x10-1),0,[])):Option ((Int×(List Nd)) ⊕ ((List Nd)×Int))) >>= fun z=>match z with
| .inr z=>some z
| .inl (x11,x12)=>
some (x12,x11)
def F_75(N:Nat)(x1:(List (Zc×Nd×Int×Int)))(x2:Int):Option (Int ⊕ (Unit ⊕ Bool)):=
if(decide (x2<(x1.length:Int)))=true then(
idx x1 x2 >>= fun x3=>
F_7 N x3.2.1.un.1 x3.2.1.un.2.1.1 x3.2.1.un.2.1.2.1 x3.2.1.un.2.1.2.2.1 x3.2.1.un.2.1.2.2.2 x3.2.1.un.2.2.1 x3.2.1.un.2.2.2.1 x3.2.1.un.2.2.2.2.1 x3.2.1.un.2.2.2.2.2 700 >>= fun(_x1078,x4)=>
((if(decide (x4≤0))=true then(
some true)
else(
some (decide ((x3.1.length:Int)>50)))):Option Bool) >>= fun x5=>
if x5=true then(
some (.inr (.inr true)))
else(
some (.inl (w64 (x2+1)))))
else(
some (.inr (.inl ())))
def F_27(N:Nat)(x1:(List ByteArray))(x2:(List ByteArray))(x3:(List (Zc×Nd×Int×Int))):Option Bool:=
((if(decide ((x1.length:Int)>20))=true then(
some true)
else(
if(decide ((x3.length:Int)>60))=true then(
some true)
else(
some (decide ((x2.length:Int)>60))))):Option Bool) >>= fun x4=>
if x4=true then(
some true)
else(
((iterO N (fun s=>F_75 N x3 s) 0):Option (Unit ⊕ Bool)) >>= fun z=>match z with
| .inr z=>some z
| .inl _=>
some false)
def F_62(_N:Nat)(_x1:Int)(_x2:Int)(_x3:Int)(_x4:Int)(_x5:Int)(_x7:(List Nd))(_x9:Int)(_x10:Int)(_x11:ByteArray):Option Unit:=
some ()
def F_99(_N:Nat)(x1:Int)(x2:Int)(x3:Int)(x4:Int)(x5:Int)(_x7:(List Nd))(x6:Int)(x7:Int)(x8:ByteArray):Option Bool:=
((if(x6==0)=true then(
some (x7==0))
else(
some false)):Option Bool) >>= fun x9=>
((if(([x2,x3,x4,x5]:List Int)==([0,0,0,0]:List Int))=true then(
if x9=true then(
if(x8.toList==ByteArray.empty.toList)=true then(
some true)
else(
some (x1==5)))
else(
if(x1==4)=true then(
if(x8.toList==ByteArray.empty.toList)=true then(
some true)
else(
some (x1==5)))
else(
some false)))
else(
if(x1==1)=true then(
if x9=true then(
if(x8.toList==ByteArray.empty.toList)=true then(
some true)
else(
some (x1==5)))
else(
if(x1==4)=true then(
if(x8.toList==ByteArray.empty.toList)=true then(
some true)
else(
some (x1==5)))
else(
some false)))
else(
some false))):Option Bool) >>= fun x10=>
some x10
def F_90(_N:Nat)(x1:ByteArray)(x2:Int):Option (Int ⊕ (Unit ⊕ Bool)):=
if(decide (x2<(x1.size:Int)))=true then(
((sidx x1 x2 >>= fun x3=>
if(decide (x3≥97))=true then(
sidx x1 x2 >>= fun x4=>
some (decide (x4≤122)))
else(
some false)):Option Bool) >>= fun x5=>
((if(!x5)=true then(
if(x2==0)=true then(
some true)
else(
sidx x1 x2 >>= fun x6=>
if(decide (x6<48))=true then(
some true)
else(
sidx x1 x2 >>= fun x7=>
some (decide (x7>57)))))
else(
some false)):Option Bool) >>= fun x8=>
if x8=true then(
some (.inr (.inr false)))
else(
some (.inl (w64 (x2+1)))))
else(
some (.inr (.inl ())))
def F_32(N:Nat)(x1:ByteArray):Option Bool:=
((iterO N (fun s=>F_90 N x1 s) 0):Option (Unit ⊕ Bool)) >>= fun z=>match z with
| .inr z=>some z
| .inl _=>
((if(x1.toList != ByteArray.empty.toList)=true then(
some (decide ((x1.size:Int)≤12)))
else(
some false)):Option Bool) >>= fun x2=>
some x2
def F_100(N:Nat)(x1:Int)(x2:Int)(x3:Int)(x4:Int)(x5:Int)(x6:(List Nd))(x7:Int)(x8:Int)(x9:ByteArray):Option Bool:=
F_99 N x1 x2 x3 x4 x5 x6 x7 x8 x9 >>= fun x10=>
if(!x10)=true then(
some false)
else(
if(x1==1)=true then(
some ((x6.length:Int)==0))
else(
if(x1==2)=true then(
some true)
else(
if(x1==3)=true then(
some (decide ((x6.length:Int)≥2)))
else(
if(x1==4)=true then(
((if(decide (x8≥(imax x7 1)))=true then(
some (decide (x8≤40)))
else(
some false)):Option Bool) >>= fun x11=>
((if((x6.length:Int)==1)=true then(
if(decide (x7≥0))=true then(
if(decide (x7≤40))=true then(
if(x8==(-1))=true then(
some true)
else(
some x11))
else(
some false))
else(
some false))
else(
some false)):Option Bool) >>= fun x12=>
some x12)
else(
((if(x1==5)=true then(
if((x6.length:Int)==0)=true then(
F_32 N x9 >>= fun x13=>
some x13)
else(
some false))
else(
some false)):Option Bool) >>= fun x14=>
some x14)))))
def F_68(_N:Nat){σ:Type}(self_:Int→((Nd×Int)→σ→Option (σ×Bool))→σ→Int→Int→Int→Int→Int→(List Nd)→Int→Int→ByteArray→Int→Option ((σ×Int) ⊕ ((σ×Int) ⊕ (σ×Int))))(Y:((Nd×Int)→σ→Option (σ×Bool)))(x1:(List Nd))(x2:Int)(x3:σ)(x4:Int)(x5:Int):Option ((σ×Int×Int) ⊕ ((σ×Int) ⊕ ((σ×Int) ⊕ ((σ×Int) ⊕ (σ×Int))))):=
if(decide (x5<(x1.length:Int)))=true then(
idx x1 x5 >>= fun x6=>
self_ x4 Y x3 x6.un.1 x6.un.2.1.1 x6.un.2.1.2.1 x6.un.2.1.2.2.1 x6.un.2.1.2.2.2 x6.un.2.2.1 x6.un.2.2.2.1 x6.un.2.2.2.2.1 x6.un.2.2.2.2.2 (w64 (x2+1)) >>= fun z=>match z with
| .inl (x7,x8)=>(
some (.inr (.inr (.inl (x7,x8)))))
| .inr (.inl (x9,x10))=>(
some (.inr (.inr (.inr (.inl (x9,x10))))))
| .inr (.inr (x11,x12))=>(
some (.inl (x11,x12,w64 (x5+1)))))
else(
some (.inr (.inl (x3,x4))))
def F_16{σ:Type}:(N:Nat)→(x1:Int)→(Y:(Nd×Int)→σ→Option (σ×Bool))→(s0:σ)→(x2:Int)→(x3:Int)→(x4:Int)→(x5:Int)→(x6:Int)→(x7:(List Nd))→(x8:Int)→(x9:Int)→(x10:ByteArray)→(x11:Int)→Option ((σ×Int) ⊕ ((σ×Int) ⊕ (σ×Int)))
|0,_,_,_,_,_,_,_,_,_,_,_,_,_=>none
|N+1,x1,Y,s0,x2,x3,x4,x5,x6,x7,x8,x9,x10,x11=>
if(x1==0)=true then(
some (.inl (s0,x1)))
else(
Y ((Nd.of (x2,(x3,x4,x5,x6),x7,x8,x9,x10)),x11) s0 >>= fun q12=>
if(!q12.2)=true then(
some (.inr (.inl (q12.1,x1))))
else(
if(decide (x11>24))=true then(
some (.inr (.inr (q12.1,w64 (x1-1)))))
else(
((iterO N (fun s=>F_68 N (F_16 N) Y x7 x11 s.1 s.2.1 s.2.2) (q12.1,w64 (x1-1),0)):Option ((σ×Int) ⊕ ((σ×Int) ⊕ ((σ×Int) ⊕ (σ×Int))))) >>= fun z=>match z with
| .inr z=>some z
| .inl (x13,x14)=>
some (.inr (.inr (x13,x14))))))
def F_104(N:Nat){σ:Type}(Y:(Nd×Int)→σ→Option (σ×Bool))(s0:σ)(x1:Int)(x2:Int)(x3:Int)(x4:Int)(x5:Int)(x6:(List Nd))(x7:Int)(x8:Int)(x9:ByteArray):Option (σ×Bool):=
F_16 N 601 Y s0 x1 x2 x3 x4 x5 x6 x7 x8 x9 1 >>= fun z=>match z with
| .inl (x10,_x43)=>(
some (x10,true))
| .inr (.inl (x11,_x48))=>(
some (x11,false))
| .inr (.inr (x12,_x53))=>(
some (x12,true))
def F_67(N:Nat)(x1:Nd)(x2:Int)(x3:Int):Option ((Int ⊕ Unit)×Bool):=
((if(decide (x2>24))=true then(
some true)
else(
if(decide ((w64 (x3+1))>600))=true then(
some true)
else(
F_100 N x1.un.1 x1.un.2.1.1 x1.un.2.1.2.1 x1.un.2.1.2.2.1 x1.un.2.1.2.2.2 x1.un.2.2.1 x1.un.2.2.2.1 x1.un.2.2.2.2.1 x1.un.2.2.2.2.2 >>= fun x4=>
some (!x4)))):Option Bool) >>= fun x5=>
if x5=true then(
some (.inr (),false))
else(
some (.inl (w64 (x3+1)),true))
def F_20(N:Nat)(x1:Int)(x2:Int)(x3:Int)(x4:Int)(x5:Int)(x6:(List Nd))(x7:Int)(x8:Int)(x9:ByteArray):Option Bool:=
F_62 N x1 x2 x3 x4 x5 x6 x7 x8 x9 >>= fun _=>
F_104 N (YS (σ1:=Int) (σ2:=Unit) (fun x s=>F_67 N x.1 x.2 s)) (.inl 0) x1 x2 x3 x4 x5 x6 x7 x8 x9 >>= fun z=>match z with
|(.inl _x123,true)=>(
some true)
|(.inr _,false)=>(
some false)
|_=>none
def F_92(_N:Nat)(x1:Int)(x2:(List ByteArray))(_x7:(List ByteArray))(_x10:(List (Zc×Nd×Int×Int))):Option Bool:=
((if(decide (x1<0))=true then(
some true)
else(
some (decide (x1≥(x2.length:Int))))):Option Bool) >>= fun x3=>
some x3
def F_87(N:Nat)(x1:Zc)(x2:(List ByteArray))(x3:(List ByteArray))(x4:(List (Zc×Nd×Int×Int)))(x5:Int):Option (Int ⊕ (Unit ⊕ Int)):=
if(decide (x5<(x1.length:Int)))=true then(
idx x1 x5 >>= fun x6=>
F_92 N x6 x2 x3 x4 >>= fun x7=>
if x7=true then(
some (.inr (.inr x5)))
else(
some (.inl (w64 (x5+1)))))
else(
some (.inr (.inl ())))
def F_10(N:Nat)(x1:Zc)(x2:(List ByteArray))(x3:(List ByteArray))(x4:(List (Zc×Nd×Int×Int))):Option Int:=
((iterO N (fun s=>F_87 N x1 x2 x3 x4 s) 0):Option (Unit ⊕ Int)) >>= fun z=>match z with
| .inr z=>some z
| .inl _=>
some (-1)
def F_31(N:Nat)(x1:Zc)(x2:(List ByteArray))(x3:(List ByteArray))(x4:(List (Zc×Nd×Int×Int))):Option Bool:=
F_10 N x1 x2 x3 x4 >>= fun x5=>
some (decide (x5≥0))
def F_36(N:Nat)(x1:Zc)(x2:Int)(x3:Int)(x4:Int)(x5:Int)(x6:Int)(x7:(List Nd))(x8:Int)(x9:Int)(x10:ByteArray)(_x15:Int)(_x16:Int)(x11:(List ByteArray))(x12:(List ByteArray))(x13:(List (Zc×Nd×Int×Int))):Option Bool:=
((F_20 N x2 x3 x4 x5 x6 x7 x8 x9 x10 >>= fun x14=>
if(!x14)=true then(
some true)
else(
F_31 N x1 x11 x12 x13 >>= fun x15=>
some x15)):Option Bool) >>= fun x16=>
some x16
def F_89(N:Nat)(x1:(List (Zc×Nd×Int×Int)))(x2:(List ByteArray))(x3:(List ByteArray))(x4:(List (Zc×Nd×Int×Int)))(x5:Int):Option (Int ⊕ (Unit ⊕ Int)):=
if(decide (x5<(x1.length:Int)))=true then(
idx x1 x5 >>= fun x6=>
F_36 N x6.1 x6.2.1.un.1 x6.2.1.un.2.1.1 x6.2.1.un.2.1.2.1 x6.2.1.un.2.1.2.2.1 x6.2.1.un.2.1.2.2.2 x6.2.1.un.2.2.1 x6.2.1.un.2.2.2.1 x6.2.1.un.2.2.2.2.1 x6.2.1.un.2.2.2.2.2 x6.2.2.1 x6.2.2.2 x2 x3 x4 >>= fun x7=>
if x7=true then(
some (.inr (.inr x5)))
else(
some (.inl (w64 (x5+1)))))
else(
some (.inr (.inl ())))
def F_11(N:Nat)(x1:(List (Zc×Nd×Int×Int)))(x2:(List ByteArray))(x3:(List ByteArray))(x4:(List (Zc×Nd×Int×Int))):Option Int:=
((iterO N (fun s=>F_89 N x1 x2 x3 x4 s) 0):Option (Unit ⊕ Int)) >>= fun z=>match z with
| .inr z=>some z
| .inl _=>
some (-1)
def F_39(N:Nat)(x1:(List (Zc×Nd×Int×Int)))(x2:(List ByteArray))(x3:(List ByteArray))(x4:(List (Zc×Nd×Int×Int))):Option Bool:=
F_11 N x1 x2 x3 x4 >>= fun x5=>
some (decide (x5≥0))
def F_18(N:Nat)(x1:(List ByteArray))(x2:(List ByteArray))(x3:(List (Zc×Nd×Int×Int))):Option Bool:=
((if(decide ((x1.length:Int)<1))=true then(
some true)
else(
if(decide ((x1.length:Int)>8))=true then(
some true)
else(
if(decide ((x3.length:Int)<1))=true then(
some true)
else(
some (decide ((x3.length:Int)>48)))))):Option Bool) >>= fun x4=>
if x4=true then(
some false)
else(
F_39 N x3 x1 x2 x3 >>= fun x5=>
some (!x5))
def F_50(_N:Nat)(_x1:Int):Option Unit:=
some ()
def F_83(_N:Nat)(_x1:Int)(_x2:Int)(_x3:Int)(_x4:Int):Option Unit:=
some ()
def F_84(_N:Nat):Option Unit:=
some ()
def F_38(_N:Nat)(x1:Int)(x2:Int):Option Int:=
some (imin (w64 (x1+x2)) 1048576)
def F_73(_N:Nat)(x1:Int)(x2:Int)(x3:Int)(x4:Int)(x5:Int)(x6:Int)(x7:Int)(x8:Int)(x9:Int):Option ((Int×Int×Int×Int×Int) ⊕ Zd):=
if(decide (x9<4))=true then(
((idx [x5,x6,x7,x8] x9 >>= fun x10=>
idx [x1,x2,x3,x4] x9 >>= fun x11=>
idx [x5,x6,x7,x8] x9 >>= fun _x405=>
setI [x5,x6,x7,x8] x9 (ior .u64 x10 x11) >>= fun x12=>
some (x12.getD 0 0,x12.getD 1 0,x12.getD 2 0,x12.getD 3 0)):Option Zd) >>= fun(x13,x14,x15,x16)=>
some (.inl (x13,x14,x15,x16,w64 (x9+1))))
else(
some (.inr (x5,x6,x7,x8)))
def F_13(N:Nat)(x1:Int)(x2:Int)(x3:Int)(x4:Int)(x5:Int)(x6:Int)(x7:Int)(x8:Int):Option Zd:=
((iterO N (fun s=>F_73 N x5 x6 x7 x8 s.1 s.2.1 s.2.2.1 s.2.2.2.1 s.2.2.2.2) (x1,x2,x3,x4,0)):Option Zd) >>= fun(x9,x10,x11,x12)=>
some (x9,x10,x11,x12)
def F_96(N:Nat)(x1:Bool)(x2:Bool)(x3:Int)(x4:Int)(_x5:Int)(x5:Int)(x6:Int)(x7:Int)(x8:Int)(x9:Int)(x10:Int)(x11:Int)(x12:Int)(x13:Int)(x14:Int)(x15:Int)(x16:Int)(x17:Bool)(x18:Bool)(x19:Int)(x20:Int)(_x22:Int)(x21:Int)(x22:Int)(x23:Int)(x24:Int)(x25:Int)(x26:Int)(x27:Int)(x28:Int)(x29:Int)(x30:Int)(x31:Int)(x32:Int):Option (Bool×Bool×Int×Int×Int×Int×Int×Int×Int×Int×Int×Int×Int×Int×Int×Int):=
((if x1=true then(
some (true,true))
else(
some (x17,false))):Option (Bool×Bool)) >>= fun(x33,_x368)=>
if x33=true then(
F_50 N 0 >>= fun _=>
some (true,false,(-1),(-1),0,0,0,0,0,0,0,0,0,0,0,0))
else(
((if x2=true then(
F_38 N x3 x19 >>= fun x34=>
F_38 N x4 x20 >>= fun x35=>
F_13 N x13 x14 x15 x16 x29 x30 x31 x32 >>= fun(x36,x37,x38,x39)=>
some (true,x18,x34,x35,x36,x37,x38,x39))
else(
F_38 N x3 x19 >>= fun x40=>
F_38 N x4 x20 >>= fun x41=>
F_13 N x13 x14 x15 x16 x29 x30 x31 x32 >>= fun(x42,x43,x44,x45)=>
some (false,false,x40,x41,x42,x43,x44,x45))):Option (Bool×Bool×Int×Int×Int×Int×Int×Int)) >>= fun(x46,x47,x48,x49,x50,x51,x52,x53)=>
((if x46=true then(
F_13 N x5 x6 x7 x8 x21 x22 x23 x24 >>= fun(x54,x55,x56,x57)=>
some (x54,x55,x56,x57))
else(
some (x5,x6,x7,x8))):Option Zd) >>= fun(x58,x59,x60,x61)=>
((if x18=true then(
F_13 N x25 x26 x27 x28 x9 x10 x11 x12 >>= fun(x62,x63,x64,x65)=>
some (x62,x63,x64,x65))
else(
some (x25,x26,x27,x28))):Option Zd) >>= fun(x66,x67,x68,x69)=>
some (false,x47,x48,x49,x58,x59,x60,x61,x66,x67,x68,x69,x50,x51,x52,x53))
def F_97(N:Nat)(x1:Bool)(x2:Bool)(x3:Int)(x4:Int)(x5:Int)(x6:Int)(x7:Int)(x8:Int)(x9:Int)(x10:Int)(x11:Int)(x12:Int)(x13:Int)(x14:Int)(x15:Int)(x16:Int)(x17:Int)(x18:Bool)(x19:Bool)(x20:Int)(x21:Int)(x22:Int)(x23:Int)(x24:Int)(x25:Int)(x26:Int)(x27:Int)(x28:Int)(x29:Int)(x30:Int)(x31:Int)(x32:Int)(x33:Int)(x34:Int):Option (Bool×Bool×Int×Int×Int×Int×Int×Int×Int×Int×Int×Int×Int×Int×Int×Int×Int):=
if x1=true then(
some (x18,x19,x20,x21,x22,x23,x24,x25,x26,x27,x28,x29,x30,x31,x32,x33,x34))
else(
if x18=true then(
some (x1,x2,x3,x4,x5,x6,x7,x8,x9,x10,x11,x12,x13,x14,x15,x16,x17))
else(
((if x2=true then(
F_13 N x6 x7 x8 x9 x23 x24 x25 x26 >>= fun(x35,x36,x37,x38)=>
F_13 N x10 x11 x12 x13 x27 x28 x29 x30 >>= fun(x39,x40,x41,x42)=>
F_13 N x14 x15 x16 x17 x31 x32 x33 x34 >>= fun(x43,x44,x45,x46)=>
some (true,x35,x36,x37,x38,x39,x40,x41,x42,x43,x44,x45,x46))
else(
F_13 N x6 x7 x8 x9 x23 x24 x25 x26 >>= fun(x47,x48,x49,x50)=>
F_13 N x10 x11 x12 x13 x27 x28 x29 x30 >>= fun(x51,x52,x53,x54)=>
F_13 N x14 x15 x16 x17 x31 x32 x33 x34 >>= fun(x55,x56,x57,x58)=>
some (x19,x47,x48,x49,x50,x51,x52,x53,x54,x55,x56,x57,x58))):Option (Bool×Int×Int×Int×Int×Int×Int×Int×Int×Int×Int×Int×Int)) >>= fun(x59,x60,x61,x62,x63,x64,x65,x66,x67,x68,x69,x70,x71)=>
some (false,x59,imin x3 x20,imax x4 x21,0,x60,x61,x62,x63,x64,x65,x66,x67,x68,x69,x70,x71)))
def F_61(_N:Nat)(x1:Int)(x2:Int):Option Int:=
((if(decide (x1>0))=true then(
nz x1 >>= fun _x12=>
some (decide (x2>(w64 ((1048576:Int).tdiv x1)))))
else(
some false)):Option Bool) >>= fun x3=>
if x3=true then(
some 1048576)
else(
some (imin (w64 (x1*x2)) 1048576))
def F_95(N:Nat)(x1:Bool)(x2:Bool)(x3:Int)(x4:Int)(x5:Int)(x6:Int)(x7:Int)(x8:Int)(x9:Int)(x10:Int)(x11:Int)(x12:Int)(x13:Int)(x14:Int)(x15:Int)(x16:Int)(x17:Int)(x18:Int)(x19:Int):Option (Bool×Bool×Int×Int×Int×Int×Int×Int×Int×Int×Int×Int×Int×Int×Int×Int×Int):=
if x1=true then(
if(x18==0)=true then(
F_84 N >>= fun _=>
some (false,true,0,0,0,0,0,0,0,0,0,0,0,0,0,0,0))
else(
F_50 N 0 >>= fun _=>
some (true,false,(-1),(-1),0,0,0,0,0,0,0,0,0,0,0,0,0)))
else(
((if x2=true then(
some (true,true))
else(
some (false,x18==0))):Option (Bool×Bool)) >>= fun(_x103,x20)=>
F_61 N x3 x18 >>= fun x21=>
F_61 N x4 x19 >>= fun x22=>
((if(x19==(-1))=true then(
((if(decide (x4>0))=true then(
some 1048576)
else(
some 0)):Option Int) >>= fun x23=>
some x23)
else(
some x22)):Option Int) >>= fun x24=>
some (x1,x20,x21,x24,x5,x6,x7,x8,x9,x10,x11,x12,x13,x14,x15,x16,x17))
def F_60(N:Nat)(self_:Int→Int→Int→Int→Int→(List Nd)→Int→Int→ByteArray→Option (Bool×Bool×Int×Int×Int×Int×Int×Int×Int×Int×Int×Int×Int×Int×Int×Int×Int))(x1:(List Nd))(x2:Int)(x3:(List (Bool×Bool×Int×Int×Int×Zd×Zd×Zd)))(x4:Int):Option ((Int×(List (Bool×Bool×Int×Int×Int×Zd×Zd×Zd))×Int) ⊕ ((List (Bool×Bool×Int×Int×Int×Zd×Zd×Zd))×Int)):=
if(decide (x2<(x1.length:Int)))=true then(
idx x1 x2 >>= fun x5=>
self_ x5.un.1 x5.un.2.1.1 x5.un.2.1.2.1 x5.un.2.1.2.2.1 x5.un.2.1.2.2.2 x5.un.2.2.1 x5.un.2.2.2.1 x5.un.2.2.2.2.1 x5.un.2.2.2.2.2 >>= fun(x6,x7,x8,x9,x10,x11,x12,x13,x14,x15,x16,x17,x18,x19,x20,x21,x22)=>
app x3 ([(x6,x7,x8,x9,x10,(x11,x12,x13,x14),(x15,x16,x17,x18),(x19,x20,x21,x22))]) >>= fun x23=>
F_38 N x4 x10 >>= fun x24=>
some (.inl (w64 (x2+1),x23,x24)))
else(
some (.inr (x3,x4)))
def F_65(N:Nat)(x1:(List (Bool×Bool×Int×Int×Int×Zd×Zd×Zd)))(x2:Int)(x3:Bool)(x4:Bool)(x5:Int)(x6:Int)(x7:Int)(x8:Int)(x9:Int)(x10:Int)(x11:Int)(x12:Int)(x13:Int)(x14:Int)(x15:Int)(x16:Int)(x17:Int)(x18:Int):Option ((Int×Bool×Bool×Int×Int×Int×Int×Int×Int×Int×Int×Int×Int×Int×Int×Int×Int) ⊕ (Bool×Bool×Int×Int×Int×Int×Int×Int×Int×Int×Int×Int×Int×Int×Int×Int)):=
if(decide (x2<(x1.length:Int)))=true then(
idx x1 x2 >>= fun x19=>
F_96 N x3 x4 x5 x6 0 x7 x8 x9 x10 x11 x12 x13 x14 x15 x16 x17 x18 x19.1 x19.2.1 x19.2.2.1 x19.2.2.2.1 x19.2.2.2.2.1 x19.2.2.2.2.2.1.1 x19.2.2.2.2.2.1.2.1 x19.2.2.2.2.2.1.2.2.1 x19.2.2.2.2.2.1.2.2.2 x19.2.2.2.2.2.2.1.1 x19.2.2.2.2.2.2.1.2.1 x19.2.2.2.2.2.2.1.2.2.1 x19.2.2.2.2.2.2.1.2.2.2 x19.2.2.2.2.2.2.2.1 x19.2.2.2.2.2.2.2.2.1 x19.2.2.2.2.2.2.2.2.2.1 x19.2.2.2.2.2.2.2.2.2.2 >>= fun(x20,x21,x22,x23,x24,x25,x26,x27,x28,x29,x30,x31,x32,x33,x34,x35)=>
some (.inl (w64 (x2+1),x20,x21,x22,x23,x24,x25,x26,x27,x28,x29,x30,x31,x32,x33,x34,x35)))
else(
some (.inr (x3,x4,x5,x6,x7,x8,x9,x10,x11,x12,x13,x14,x15,x16,x17,x18)))
def F_66(N:Nat)(x1:(List (Bool×Bool×Int×Int×Int×Zd×Zd×Zd)))(x2:Int)(x3:Bool)(x4:Bool)(x5:Int)(x6:Int)(x7:Int)(x8:Int)(x9:Int)(x10:Int)(x11:Int)(x12:Int)(x13:Int)(x14:Int)(x15:Int)(x16:Int)(x17:Int)(x18:Int)(x19:Int):Option ((Int×Bool×Bool×Int×Int×Int×Int×Int×Int×Int×Int×Int×Int×Int×Int×Int×Int×Int) ⊕ (Bool×Bool×Int×Int×Int×Int×Int×Int×Int×Int×Int×Int×Int×Int×Int×Int×Int)):=
if(decide (x2<(x1.length:Int)))=true then(
idx x1 x2 >>= fun x20=>
F_97 N x3 x4 x5 x6 x7 x8 x9 x10 x11 x12 x13 x14 x15 x16 x17 x18 x19 x20.1 x20.2.1 x20.2.2.1 x20.2.2.2.1 x20.2.2.2.2.1 x20.2.2.2.2.2.1.1 x20.2.2.2.2.2.1.2.1 x20.2.2.2.2.2.1.2.2.1 x20.2.2.2.2.2.1.2.2.2 x20.2.2.2.2.2.2.1.1 x20.2.2.2.2.2.2.1.2.1 x20.2.2.2.2.2.2.1.2.2.1 x20.2.2.2.2.2.2.1.2.2.2 x20.2.2.2.2.2.2.2.1 x20.2.2.2.2.2.2.2.2.1 x20.2.2.2.2.2.2.2.2.2.1 x20.2.2.2.2.2.2.2.2.2.2 >>= fun(x21,x22,x23,x24,x25,x26,x27,x28,x29,x30,x31,x32,x33,x34,x35,x36,x37)=>
some (.inl (w64 (x2+1),x21,x22,x23,x24,x25,x26,x27,x28,x29,x30,x31,x32,x33,x34,x35,x36,x37)))
else(
some (.inr (x3,x4,x5,x6,x7,x8,x9,x10,x11,x12,x13,x14,x15,x16,x17,x18,x19)))
def F_4:(N:Nat)→(x1:Int)→(x2:Int)→(x3:Int)→(x4:Int)→(x5:Int)→(x6:(List Nd))→(x7:Int)→(x8:Int)→(x9:ByteArray)→Option (Bool×Bool×Int×Int×Int×Int×Int×Int×Int×Int×Int×Int×Int×Int×Int×Int×Int)
|0,_,_,_,_,_,_,_,_,_=>none
|N+1,x1,x2,x3,x4,x5,x6,x7,x8,_=>
((iterO N (fun s=>F_60 N (F_4 N) x6 s.1 s.2.1 s.2.2) (0,[],1)):Option ((List (Bool×Bool×Int×Int×Int×Zd×Zd×Zd))×Int)) >>= fun(x10,x11)=>
((((if(x1==1)=true then(
F_83 N x2 x3 x4 x5 >>= fun _=>
((if(([x2,x3,x4,x5]:List Int)==([0,0,0,0]:List Int))=true then(
F_50 N 0 >>= fun _=>
some (true,(-1),(-1),0,0,0,0,0,0,0,0,0,0,0,0))
else(
some (false,1,1,x2,x3,x4,x5,x2,x3,x4,x5,x2,x3,x4,x5))):Option (Bool×Int×Int×Int×Int×Int×Int×Int×Int×Int×Int×Int×Int×Int×Int)) >>= fun(x12,x13,x14,x15,x16,x17,x18,x19,x20,x21,x22,x23,x24,x25,x26)=>
some (x11,x12,false,x13,x14,0,x15,x16,x17,x18,x19,x20,x21,x22,x23,x24,x25,x26))
else(
((if(x1==2)=true then(
F_84 N >>= fun _=>
((iterO N (fun s=>F_65 N x10 s.1 s.2.1 s.2.2.1 s.2.2.2.1 s.2.2.2.2.1 s.2.2.2.2.2.1 s.2.2.2.2.2.2.1 s.2.2.2.2.2.2.2.1 s.2.2.2.2.2.2.2.2.1 s.2.2.2.2.2.2.2.2.2.1 s.2.2.2.2.2.2.2.2.2.2.1 s.2.2.2.2.2.2.2.2.2.2.2.1 s.2.2.2.2.2.2.2.2.2.2.2.2.1 s.2.2.2.2.2.2.2.2.2.2.2.2.2.1 s.2.2.2.2.2.2.2.2.2.2.2.2.2.2.1 s.2.2.2.2.2.2.2.2.2.2.2.2.2.2.2.1 s.2.2.2.2.2.2.2.2.2.2.2.2.2.2.2.2) (0,false,true,0,0,0,0,0,0,0,0,0,0,0,0,0,0)):Option (Bool×Bool×Int×Int×Int×Int×Int×Int×Int×Int×Int×Int×Int×Int×Int×Int)) >>= fun(x27,x28,x29,x30,x31,x32,x33,x34,x35,x36,x37,x38,x39,x40,x41,x42)=>
some (x11,x27,x28,x29,x30,0,x31,x32,x33,x34,x35,x36,x37,x38,x39,x40,x41,x42))
else(
((if(x1==3)=true then(
idx x10 0 >>= fun x43=>
slc x10 1 (x10.length:Int) >>= fun x44=>
((iterO N (fun s=>F_66 N x44 s.1 s.2.1 s.2.2.1 s.2.2.2.1 s.2.2.2.2.1 s.2.2.2.2.2.1 s.2.2.2.2.2.2.1 s.2.2.2.2.2.2.2.1 s.2.2.2.2.2.2.2.2.1 s.2.2.2.2.2.2.2.2.2.1 s.2.2.2.2.2.2.2.2.2.2.1 s.2.2.2.2.2.2.2.2.2.2.2.1 s.2.2.2.2.2.2.2.2.2.2.2.2.1 s.2.2.2.2.2.2.2.2.2.2.2.2.2.1 s.2.2.2.2.2.2.2.2.2.2.2.2.2.2.1 s.2.2.2.2.2.2.2.2.2.2.2.2.2.2.2.1 s.2.2.2.2.2.2.2.2.2.2.2.2.2.2.2.2.1 s.2.2.2.2.2.2.2.2.2.2.2.2.2.2.2.2.2) (0,x43.1,x43.2.1,x43.2.2.1,x43.2.2.2.1,x43.2.2.2.2.1,x43.2.2.2.2.2.1.1,x43.2.2.2.2.2.1.2.1,x43.2.2.2.2.2.1.2.2.1,x43.2.2.2.2.2.1.2.2.2,x43.2.2.2.2.2.2.1.1,x43.2.2.2.2.2.2.1.2.1,x43.2.2.2.2.2.2.1.2.2.1,x43.2.2.2.2.2.2.1.2.2.2,x43.2.2.2.2.2.2.2.1,x43.2.2.2.2.2.2.2.2.1,x43.2.2.2.2.2.2.2.2.2.1,x43.2.2.2.2.2.2.2.2.2.2)):Option (Bool×Bool×Int×Int×Int×Int×Int×Int×Int×Int×Int×Int×Int×Int×Int×Int×Int)) >>= fun(x45,x46,x47,x48,x49,x50,x51,x52,x53,x54,x55,x56,x57,x58,x59,x60,x61)=>
some (x11,x45,x46,x47,x48,x49,x50,x51,x52,x53,x54,x55,x56,x57,x58,x59,x60,x61))
else(
((if(x1==4)=true then(
((idx x10 0 >>= fun x62=>
F_95 N x62.1 x62.2.1 x62.2.2.1 x62.2.2.2.1 x62.2.2.2.2.1 x62.2.2.2.2.2.1.1 x62.2.2.2.2.2.1.2.1 x62.2.2.2.2.2.1.2.2.1 x62.2.2.2.2.2.1.2.2.2 x62.2.2.2.2.2.2.1.1 x62.2.2.2.2.2.2.1.2.1 x62.2.2.2.2.2.2.1.2.2.1 x62.2.2.2.2.2.2.1.2.2.2 x62.2.2.2.2.2.2.2.1 x62.2.2.2.2.2.2.2.2.1 x62.2.2.2.2.2.2.2.2.2.1 x62.2.2.2.2.2.2.2.2.2.2 x7 x8 >>= fun(x63,x64,x65,x66,x67,x68,x69,x70,x71,x72,x73,x74,x75,x76,x77,x78,x79)=>
some (x63,x64,x65,x66,x67,x68,x69,x70,x71,x72,x73,x74,x75,x76,x77,x78,x79)):Option (Bool×Bool×Int×Int×Int×Int×Int×Int×Int×Int×Int×Int×Int×Int×Int×Int×Int)) >>= fun(x80,x81,x82,x83,x84,x85,x86,x87,x88,x89,x90,x91,x92,x93,x94,x95,x96)=>
((if(x8==(-1))=true then(
some (w64 (x7+1)))
else(
some x8)):Option Int) >>= fun x97=>
idx x10 0 >>= fun x98=>
F_61 N x98.2.2.2.2.1 x97 >>= fun x99=>
F_38 N 1 x99 >>= fun x100=>
some (x100,x80,x81,x82,x83,x84,x85,x86,x87,x88,x89,x90,x91,x92,x93,x94,x95,x96))
else(
F_50 N 0 >>= fun _=>
some (x11,true,false,(-1),(-1),0,0,0,0,0,0,0,0,0,0,0,0,0))):Option (Int×Bool×Bool×Int×Int×Int×Int×Int×Int×Int×Int×Int×Int×Int×Int×Int×Int×Int)) >>= fun(x101,x102,x103,x104,x105,x106,x107,x108,x109,x110,x111,x112,x113,x114,x115,x116,x117,x118)=>
some (x101,x102,x103,x104,x105,x106,x107,x108,x109,x110,x111,x112,x113,x114,x115,x116,x117,x118))):Option (Int×Bool×Bool×Int×Int×Int×Int×Int×Int×Int×Int×Int×Int×Int×Int×Int×Int×Int)) >>= fun(x119,x120,x121,x122,x123,x124,x125,x126,x127,x128,x129,x130,x131,x132,x133,x134,x135,x136)=>
some (x119,x120,x121,x122,x123,x124,x125,x126,x127,x128,x129,x130,x131,x132,x133,x134,x135,x136))):Option (Int×Bool×Bool×Int×Int×Int×Int×Int×Int×Int×Int×Int×Int×Int×Int×Int×Int×Int)) >>= fun(x137,x138,x139,x140,x141,x142,x143,x144,x145,x146,x147,x148,x149,x150,x151,x152,x153,x154)=>
some (x137,x138,x139,x140,x141,x142,x143,x144,x145,x146,x147,x148,x149,x150,x151,x152,x153,x154))):Option (Int×Bool×Bool×Int×Int×Int×Int×Int×Int×Int×Int×Int×Int×Int×Int×Int×Int×Int)) >>= fun(x155,x156,x157,x158,x159,x160,x161,x162,x163,x164,x165,x166,x167,x168,x169,x170,x171,x172)=>
some (x155,x156,x157,x158,x159,x160,x161,x162,x163,x164,x165,x166,x167,x168,x169,x170,x171,x172)):Option (Int×Bool×Bool×Int×Int×Int×Int×Int×Int×Int×Int×Int×Int×Int×Int×Int×Int×Int)) >>= fun(x173,x174,x175,x176,x177,_x77802,x178,x179,x180,x181,x182,x183,x184,x185,x186,x187,x188,x189)=>
some (x174,x175,x176,x177,x173,x178,x179,x180,x181,x182,x183,x184,x185,x186,x187,x188,x189)
def F_103(N:Nat)(x1:Int)(x2:Int)(x3:Int)(x4:Int)(x5:Int)(x6:(List Nd))(x7:Int)(x8:Int)(x9:ByteArray):Option (Bool×Bool×Int×Int×Int×Int×Int×Int×Int×Int×Int×Int×Int×Int×Int×Int×Int):=
F_20 N x1 x2 x3 x4 x5 x6 x7 x8 x9 >>= fun x10=>
if(!x10)=true then(
F_50 N 0 >>= fun _=>
some (true,false,(-1),(-1),0,0,0,0,0,0,0,0,0,0,0,0,0))
else(
F_4 N x1 x2 x3 x4 x5 x6 x7 x8 x9 >>= fun(x11,x12,x13,x14,x15,x16,x17,x18,x19,x20,x21,x22,x23,x24,x25,x26,x27)=>
some (x11,x12,x13,x14,x15,x16,x17,x18,x19,x20,x21,x22,x23,x24,x25,x26,x27))
def F_94(N:Nat)(x1:Int)(x2:Int)(x3:Int)(x4:Int)(x5:Int)(x6:(List Nd))(x7:Int)(x8:Int)(x9:ByteArray):Option Int:=
F_103 N x1 x2 x3 x4 x5 x6 x7 x8 x9 >>= fun(_x40,_x41,_x42,_x43,x10,_x45,_x46,_x47,_x48,_x49,_x50,_x51,_x52,_x53,_x54,_x55,_x56)=>
some x10
def F_102(N:Nat)(_x2:Zc)(x1:Int)(x2:Int)(x3:Int)(x4:Int)(x5:Int)(x6:(List Nd))(x7:Int)(x8:Int)(x9:ByteArray)(_x15:Int)(_x16:Int):Option Bool:=
F_94 N x1 x2 x3 x4 x5 x6 x7 x8 x9 >>= fun x10=>
some (decide (x10>4000))
def F_88(N:Nat)(x1:(List (Zc×Nd×Int×Int)))(x2:Int):Option (Int ⊕ (Unit ⊕ Int)):=
if(decide (x2<(x1.length:Int)))=true then(
idx x1 x2 >>= fun x3=>
F_102 N x3.1 x3.2.1.un.1 x3.2.1.un.2.1.1 x3.2.1.un.2.1.2.1 x3.2.1.un.2.1.2.2.1 x3.2.1.un.2.1.2.2.2 x3.2.1.un.2.2.1 x3.2.1.un.2.2.2.1 x3.2.1.un.2.2.2.2.1 x3.2.1.un.2.2.2.2.2 x3.2.2.1 x3.2.2.2 >>= fun x4=>
if x4=true then(
some (.inr (.inr x2)))
else(
some (.inl (w64 (x2+1)))))
else(
some (.inr (.inl ())))
def F_41(N:Nat)(x1:(List (Zc×Nd×Int×Int))):Option Int:=
((iterO N (fun s=>F_88 N x1 s) 0):Option (Unit ⊕ Int)) >>= fun z=>match z with
| .inr z=>some z
| .inl _=>
some (-1)
def F_98(N:Nat)(x1:(List (Zc×Nd×Int×Int))):Option Bool:=
F_41 N x1 >>= fun x2=>
some (decide (x2≥0))
def F_19(_N:Nat)(x1:Za)(_x6:Zc)(x2:Int):Option (Za×Int×Int):=
if(decide ((x1.length:Int)≥4000))=true then(
some (x1,2,0))
else(
app x1 [([],(((0:Int),(0:Int),(0:Int),(0:Int)),((-1):Int),((-1):Int)))] >>= fun x3=>
some (x3,x2,w64 ((x3.length:Int)-1)))
def F_48(_N:Nat)(x1:Za)(_x6:Zc)(x2:Int)(x3:Int)(x4:Zc):Option Za:=
((if(!(eOk errIds x2))=true then(
((idx x1 x3 >>= fun x5=>
app x5.1 x4 >>= fun x6=>
setI x1 x3 (x6,x5.2) >>= fun x7=>
some x7):Option Za) >>= fun x8=>
some x8)
else(
some x1)):Option Za) >>= fun x9=>
some x9
def F_82(N:Nat)(x1:Za)(x2:Zc)(x3:Int)(_x10:Int)(x4:Int)(x5:Int)(x6:Int)(x7:Int)(_x16:(List Nd))(_x18:Int)(_x19:Int)(_x20:ByteArray)(x8:Int):Option (Za×Int×Int):=
F_19 N x1 x2 x3 >>= fun(x9,x10,x11)=>
((if(!(eOk errIds x10))=true then(
((idx x9 x8 >>= fun x12=>
setI x9 x8 (x12.1,(x4,x5,x6,x7),x12.2.2.1,x12.2.2.2) >>= fun x13=>
idx x13 x8 >>= fun x14=>
setI x13 x8 (x14.1,(x14.2.1.1,x14.2.1.2.1,x14.2.1.2.2.1,x14.2.1.2.2.2),x11,x14.2.2.2) >>= fun x15=>
some x15):Option Za) >>= fun x16=>
some x16)
else(
some x9)):Option Za) >>= fun x17=>
some (x17,x10,x11)
def F_57(N:Nat)(x1:Za)(x2:Zc)(x3:Int)(x4:Int):Option (Za×Int×Int):=
F_19 N x1 x2 x3 >>= fun(x5,x6,x7)=>
F_48 N x5 x2 x6 x4 ([x7]) >>= fun x8=>
some (x8,x6,x7)
def F_56(N:Nat)(self_:Za→Zc→Int→Int→Int→Int→Int→Int→(List Nd)→Int→Int→ByteArray→Int→Option (Za×Int×Int))(x1:Zc)(x2:(List Nd))(x3:Int)(x4:Za)(x5:Int)(x6:Int)(x7:Zc):Option ((Za×Int×Int×Zc) ⊕ (Za×Int×Zc)):=
if(decide (x6<(x2.length:Int)))=true then(
idx x2 x6 >>= fun x8=>
((F_57 N x4 x1 x5 x3 >>= fun(x9,x10,x11)=>
self_ x9 x1 x10 x8.un.1 x8.un.2.1.1 x8.un.2.1.2.1 x8.un.2.1.2.2.1 x8.un.2.1.2.2.2 x8.un.2.2.1 x8.un.2.2.2.1 x8.un.2.2.2.2.1 x8.un.2.2.2.2.2 x11 >>= fun(x12,x13,x14)=>
app x7 ([x14]) >>= fun x15=>
some (x12,x13,x15)):Option (Za×Int×Zc)) >>= fun(x16,x17,x18)=>
some (.inl (x16,x17,w64 (x6+1),x18)))
else(
some (.inr (x4,x5,x7)))
def F_47(N:Nat)(x1:Zc)(x2:Zc)(x3:Int)(x4:Int)(x5:Za)(x6:Int):Option ((Za×Int) ⊕ Za):=
if(decide (x6<(x2.length:Int)))=true then(
idx x2 x6 >>= fun x7=>
F_48 N x5 x1 x3 x7 ([x4]) >>= fun x8=>
some (.inl (x8,w64 (x6+1))))
else(
some (.inr x5))
def F_8(N:Nat)(self_:Za→Zc→Int→Int→Int→Int→Int→Int→(List Nd)→Int→Int→ByteArray→Int→Option (Za×Int×Int))(x1:Za)(x2:Zc)(x3:Int)(_x10:Int)(_x11:Int)(_x12:Int)(_x13:Int)(_x14:Int)(x4:(List Nd))(_x18:Int)(_x19:Int)(_x20:ByteArray)(x5:Int):Option (Za×Int×Int):=
((iterO N (fun s=>F_56 N self_ x2 x4 x5 s.1 s.2.1 s.2.2.1 s.2.2.2) (x1,x3,0,[])):Option (Za×Int×Zc)) >>= fun(x6,x7,x8)=>
F_19 N x6 x2 x7 >>= fun(x9,x10,x11)=>
((iterO N (fun s=>F_47 N x2 x8 x10 x11 s.1 s.2) (x9,0)):Option Za) >>= fun x12=>
some (x12,x10,x11)
def F_93(N:Nat)(self_:Za→Zc→Int→Int→Int→Int→Int→Int→(List Nd)→Int→Int→ByteArray→Int→Option (Za×Int×Int))(x1:Za)(x2:Zc)(x3:Int)(x4:Int)(x5:Int)(x6:Int)(x7:Int)(x8:Int)(x9:(List Nd))(x10:Int)(x11:Int)(x12:ByteArray)(x13:Int):Option (Za×Int×Int):=
F_19 N x1 x2 x3 >>= fun(x14,x15,x16)=>
F_19 N x14 x2 x15 >>= fun(x17,x18,x19)=>
F_48 N x17 x2 x18 x13 ([x16,x19]) >>= fun x20=>
self_ x20 x2 x18 x4 x5 x6 x7 x8 x9 x10 x11 x12 x16 >>= fun(x21,x22,x23)=>
F_48 N x21 x2 x22 x23 ([x16,x19]) >>= fun x24=>
some (x24,x22,x19)
def F_58(_N:Nat)(self_:Za→Zc→Int→Int→Int→Int→Int→Int→(List Nd)→Int→Int→ByteArray→Int→Option (Za×Int×Int))(x1:Zc)(x2:Int)(x3:Nd)(x4:Za)(x5:Int)(x6:Int)(x7:Int):Option ((Za×Int×Int×Int) ⊕ (Za×Int×Int)):=
if(decide (x6<x2))=true then(
self_ x4 x1 x5 x3.un.1 x3.un.2.1.1 x3.un.2.1.2.1 x3.un.2.1.2.2.1 x3.un.2.1.2.2.2 x3.un.2.2.1 x3.un.2.2.2.1 x3.un.2.2.2.2.1 x3.un.2.2.2.2.2 x7 >>= fun(x8,x9,x10)=>
some (.inl (x8,x9,w64 (x6+1),x10)))
else(
some (.inr (x4,x5,x7)))
def F_49(N:Nat)(self_:Za→Zc→Int→Int→Int→Int→Int→Int→(List Nd)→Int→Int→ByteArray→Int→Option (Za×Int×Int))(x1:Zc)(x2:Int)(x3:Int)(x4:Nd)(x5:Za)(x6:Int)(x7:Int)(x8:Int)(x9:Zc):Option ((Za×Int×Int×Int×Zc) ⊕ (Za×Int×Int×Zc)):=
if(decide (x8<(w64 (x3-x2))))=true then(
app x9 ([x7]) >>= fun x10=>
F_57 N x5 x1 x6 x7 >>= fun(x11,x12,x13)=>
self_ x11 x1 x12 x4.un.1 x4.un.2.1.1 x4.un.2.1.2.1 x4.un.2.1.2.2.1 x4.un.2.1.2.2.2 x4.un.2.2.1 x4.un.2.2.2.1 x4.un.2.2.2.2.1 x4.un.2.2.2.2.2 x13 >>= fun(x14,x15,x16)=>
some (.inl (x14,x15,x16,w64 (x8+1),x10)))
else(
some (.inr (x5,x6,x7,x9)))
def F_37(N:Nat)(x1:Zc)(x2:Zc)(x3:Int)(x4:Int)(x5:Za)(x6:Int):Option ((Za×Int) ⊕ Za):=
if(decide (x6<(x2.length:Int)))=true then(
idx x2 x6 >>= fun x7=>
F_48 N x5 x1 x3 x7 ([x4]) >>= fun x8=>
some (.inl (x8,w64 (x6+1))))
else(
some (.inr x5))
def F_5(N:Nat)(self_:Za→Zc→Int→Int→Int→Int→Int→Int→(List Nd)→Int→Int→ByteArray→Int→Option (Za×Int×Int))(x1:Za)(x2:Zc)(x3:Int)(_x10:Int)(_x11:Int)(_x12:Int)(_x13:Int)(_x14:Int)(x4:(List Nd))(x5:Int)(x6:Int)(_x20:ByteArray)(x7:Int):Option (Za×Int×Int):=
idx x4 0 >>= fun x8=>
((iterO N (fun s=>F_58 N self_ x2 x5 x8 s.1 s.2.1 s.2.2.1 s.2.2.2) (x1,x3,0,x7)):Option (Za×Int×Int)) >>= fun(x9,x10,x11)=>
if(x6==(-1))=true then(
F_93 N self_ x9 x2 x10 x8.un.1 x8.un.2.1.1 x8.un.2.1.2.1 x8.un.2.1.2.2.1 x8.un.2.1.2.2.2 x8.un.2.2.1 x8.un.2.2.2.1 x8.un.2.2.2.2.1 x8.un.2.2.2.2.2 x11 >>= fun(x12,x13,x14)=>
some (x12,x13,x14))
else(
if(x6==x5)=true then(
some (x9,x10,x11))
else(
((iterO N (fun s=>F_49 N self_ x2 x5 x6 x8 s.1 s.2.1 s.2.2.1 s.2.2.2.1 s.2.2.2.2) (x9,x10,x11,0,[])):Option (Za×Int×Int×Zc)) >>= fun(x15,x16,x17,x18)=>
F_57 N x15 x2 x16 x17 >>= fun(x19,x20,x21)=>
((iterO N (fun s=>F_37 N x2 x18 x20 x21 s.1 s.2) (x19,0)):Option Za) >>= fun x22=>
some (x22,x20,x21)))
def F_59(_N:Nat)(self_:Za→Zc→Int→Int→Int→Int→Int→Int→(List Nd)→Int→Int→ByteArray→Int→Option (Za×Int×Int))(x1:Zc)(x2:(List Nd))(x3:Za)(x4:Int)(x5:Int)(x6:Int):Option ((Za×Int×Int×Int) ⊕ (Za×Int×Int)):=
if(decide (x6<(x2.length:Int)))=true then(
idx x2 x6 >>= fun x7=>
self_ x3 x1 x4 x7.un.1 x7.un.2.1.1 x7.un.2.1.2.1 x7.un.2.1.2.2.1 x7.un.2.1.2.2.2 x7.un.2.2.1 x7.un.2.2.2.1 x7.un.2.2.2.2.1 x7.un.2.2.2.2.2 x5 >>= fun(x8,x9,x10)=>
some (.inl (x8,x9,x10,w64 (x6+1))))
else(
some (.inr (x3,x4,x5)))
def F_6:(N:Nat)→(x1:Za)→(x2:Zc)→(x3:Int)→(x4:Int)→(x5:Int)→(x6:Int)→(x7:Int)→(x8:Int)→(x9:(List Nd))→(x10:Int)→(x11:Int)→(x12:ByteArray)→(x13:Int)→Option (Za×Int×Int)
|0,_,_,_,_,_,_,_,_,_,_,_,_,_=>none
|N+1,x1,x2,x3,x4,x5,x6,x7,x8,x9,x10,x11,x12,x13=>
if(eOk errIds x3)=true then(
some (x1,x3,0))
else(
if(x4==1)=true then(
F_82 N x1 x2 x3 x4 x5 x6 x7 x8 x9 x10 x11 x12 x13 >>= fun(x14,x15,x16)=>
some (x14,x15,x16))
else(
if(x4==2)=true then(
((iterO N (fun s=>F_59 N (F_6 N) x2 x9 s.1 s.2.1 s.2.2.1 s.2.2.2) (x1,x3,x13,0)):Option (Za×Int×Int)) >>= fun(x17,x18,x19)=>
some (x17,x18,x19))
else(
if(x4==3)=true then(
F_8 N (F_6 N) x1 x2 x3 x4 x5 x6 x7 x8 x9 x10 x11 x12 x13 >>= fun(x20,x21,x22)=>
some (x20,x21,x22))
else(
if(x4==4)=true then(
F_5 N (F_6 N) x1 x2 x3 x4 x5 x6 x7 x8 x9 x10 x11 x12 x13 >>= fun(x23,x24,x25)=>
some (x23,x24,x25))
else(
F_19 N x1 x2 x3 >>= fun(x26,x27,x28)=>
some (x26,x27,x28))))))
def F_55(N:Nat)(x1:(List ByteArray))(x2:Int)(x3:Za)(x4:Zc)(x5:Int):Option ((Int×Za×Zc×Int) ⊕ (Za×Zc×Int)):=
if(decide (x2<(x1.length:Int)))=true then(
((F_19 N x3 x4 x5 >>= fun(x6,x7,x8)=>
app x4 ([x8]) >>= fun x9=>
some (x6,x9,x7)):Option (Za×Zc×Int)) >>= fun(x10,x11,x12)=>
some (.inl (w64 (x2+1),x10,x11,x12)))
else(
some (.inr (x3,x4,x5)))
def F_46(N:Nat)(x1:Zc)(x2:(Zc×Nd×Int×Int))(x3:Int)(x4:Int)(x5:Za)(x6:Int):Option ((Za×Int) ⊕ Za):=
if(decide (x6<(x2.1.length:Int)))=true then(
idx x2.1 x6 >>= fun x7=>
idx x1 x7 >>= fun x8=>
F_48 N x5 x1 x3 x8 ([x4]) >>= fun x9=>
some (.inl (x9,w64 (x6+1))))
else(
some (.inr x5))
def F_24(N:Nat)(x1:(List (Zc×Nd×Int×Int)))(x2:Zc)(x3:Int)(x4:Za)(x5:Int):Option ((Int×Za×Int) ⊕ ((Za×Int) ⊕ (Za×Zc×Int))):=
if(decide (x3<(x1.length:Int)))=true then(
idx x1 x3 >>= fun x6=>
F_19 N x4 x2 x5 >>= fun(x7,x8,x9)=>
((iterO N (fun s=>F_46 N x2 x6 x8 x9 s.1 s.2) (x7,0)):Option Za) >>= fun x10=>
F_6 N x10 x2 x8 x6.2.1.un.1 x6.2.1.un.2.1.1 x6.2.1.un.2.1.2.1 x6.2.1.un.2.1.2.2.1 x6.2.1.un.2.1.2.2.2 x6.2.1.un.2.2.1 x6.2.1.un.2.2.2.1 x6.2.1.un.2.2.2.2.1 x6.2.1.un.2.2.2.2.2 x9 >>= fun(x11,x12,x13)=>
if(eOk errIds x12)=true then(
((some ()):Option Unit) >>= fun _=>
some (.inr (.inr ([],[],x12))))
else(
idx x11 x13 >>= fun x14=>
setI x11 x13 (x14.1,(x14.2.1.1,x14.2.1.2.1,x14.2.1.2.2.1,x14.2.1.2.2.2),x14.2.2.1,x3) >>= fun x15=>
some (.inl (w64 (x3+1),x15,x12))))
else(
some (.inr (.inl (x4,x5))))
def F_3(N:Nat)(x1:(List ByteArray))(x2:(List ByteArray))(x3:(List (Zc×Nd×Int×Int))):Option (Za×Zc×Int):=
F_18 N x1 x2 x3 >>= fun x4=>
if(!x4)=true then(
((some ()):Option Unit) >>= fun _=>
some ([],[],1))
else(
F_98 N x3 >>= fun x5=>
if x5=true then(
((some ()):Option Unit) >>= fun _=>
some ([],[],2))
else(
((iterO N (fun s=>F_55 N x1 s.1 s.2.1 s.2.2.1 s.2.2.2) (0,[],[],0)):Option (Za×Zc×Int)) >>= fun(x6,x7,x8)=>
((iterO N (fun s=>F_24 N x3 x7 s.1 s.2.1 s.2.2) (0,x6,x8)):Option ((Za×Int) ⊕ (Za×Zc×Int))) >>= fun z=>match z with
| .inr z=>some z
| .inl (x9,_x3742)=>
some (x9,x7,0)))
def F_63(N:Nat)(x1:(List (Zc×Nd×Int×Int)))(x2:Int)(x3:(List (Zc×Nd×Int×Int))):Option ((Int×(List (Zc×Nd×Int×Int))) ⊕ (List (Zc×Nd×Int×Int))):=
if(decide (x2<(x1.length:Int)))=true then(
idx x1 x2 >>= fun x4=>
F_7 N x4.2.1.un.1 x4.2.1.un.2.1.1 x4.2.1.un.2.1.2.1 x4.2.1.un.2.1.2.2.1 x4.2.1.un.2.1.2.2.2 x4.2.1.un.2.2.1 x4.2.1.un.2.2.2.1 x4.2.1.un.2.2.2.2.1 x4.2.1.un.2.2.2.2.2 700 >>= fun(x5,_x1231)=>
app x3 ([(x4.1,(Nd.of (x4.2.1.un.1,(x4.2.1.un.2.1.1,x4.2.1.un.2.1.2.1,x4.2.1.un.2.1.2.2.1,x4.2.1.un.2.1.2.2.2),x5,x4.2.1.un.2.2.2.1,x4.2.1.un.2.2.2.2.1,x4.2.1.un.2.2.2.2.2)),x4.2.2.1,x4.2.2.2)]) >>= fun x6=>
some (.inl (w64 (x2+1),x6)))
else(
some (.inr x3))
def F_21(N:Nat)(_x2:(List ByteArray))(_x5:(List ByteArray))(x1:(List (Zc×Nd×Int×Int))):Option (List (Zc×Nd×Int×Int)):=
((iterO N (fun s=>F_63 N x1 s.1 s.2) (0,[])):Option (List (Zc×Nd×Int×Int))) >>= fun x2=>
some x2
def F_42(_N:Nat)(self_:Int→Int→Int→Int→Int→(List Nd)→Int→Int→ByteArray→Int→(List (Nd×Int×Int))→Option (List (Nd×Int×Int)))(x1:(List Nd))(x2:Int)(x3:(List (Nd×Int×Int)))(x4:Int):Option (((List (Nd×Int×Int))×Int) ⊕ ((List (Nd×Int×Int)) ⊕ (List (Nd×Int×Int)))):=
if(decide (x4<(x1.length:Int)))=true then(
idx x1 x4 >>= fun x5=>
if(decide ((x3.length:Int)≥601))=true then(
some (.inr (.inr x3)))
else(
self_ x5.un.1 x5.un.2.1.1 x5.un.2.1.2.1 x5.un.2.1.2.2.1 x5.un.2.1.2.2.2 x5.un.2.2.1 x5.un.2.2.2.1 x5.un.2.2.2.2.1 x5.un.2.2.2.2.2 (w64 (x2+1)) x3 >>= fun x6=>
some (.inl (x6,w64 (x4+1)))))
else(
some (.inr (.inl x3)))
def F_9:(N:Nat)→(x1:Int)→(x2:Int)→(x3:Int)→(x4:Int)→(x5:Int)→(x6:(List Nd))→(x7:Int)→(x8:Int)→(x9:ByteArray)→(x10:Int)→(x11:(List (Nd×Int×Int)))→Option (List (Nd×Int×Int))
|0,_,_,_,_,_,_,_,_,_,_,_=>none
|N+1,x1,x2,x3,x4,x5,x6,x7,x8,x9,x10,x11=>
if(decide ((x11.length:Int)≥601))=true then(
some x11)
else(
app x11 ([((Nd.of (x1,(x2,x3,x4,x5),[],x7,x8,x9)),x10,(x6.length:Int))]) >>= fun x12=>
if(decide (x10>24))=true then(
some x12)
else(
((iterO N (fun s=>F_42 N (F_9 N) x6 x10 s.1 s.2) (x12,0)):Option ((List (Nd×Int×Int)) ⊕ (List (Nd×Int×Int)))) >>= fun z=>match z with
| .inr z=>some z
| .inl x13=>
some x13))
def F_77(_N:Nat)(x1:ByteArray)(x2:Int):Option (Int ⊕ (Unit ⊕ Bool)):=
if(decide (x2<(x1.size:Int)))=true then(
((sidx x1 x2 >>= fun x3=>
if(decide (x3<97))=true then(
sidx x1 x2 >>= fun x4=>
if(decide (x4<48))=true then(
some true)
else(
sidx x1 x2 >>= fun x5=>
some (decide (x5>57))))
else(
sidx x1 x2 >>= fun x6=>
if(decide (x6>122))=true then(
sidx x1 x2 >>= fun x7=>
if(decide (x7<48))=true then(
some true)
else(
sidx x1 x2 >>= fun x8=>
some (decide (x8>57))))
else(
some false))):Option Bool) >>= fun x9=>
if x9=true then(
some (.inr (.inr false)))
else(
some (.inl (w64 (x2+1)))))
else(
some (.inr (.inl ())))
def F_28(N:Nat)(x1:ByteArray):Option Bool:=
((if(decide ((x1.size:Int)<1))=true then(
some true)
else(
if(decide ((x1.size:Int)>12))=true then(
some true)
else(
sidx x1 0 >>= fun x2=>
if(decide (x2<97))=true then(
some true)
else(
sidx x1 0 >>= fun x3=>
some (decide (x3>122)))))):Option Bool) >>= fun x4=>
if x4=true then(
some false)
else(
((iterO N (fun s=>F_77 N x1 s) 0):Option (Unit ⊕ Bool)) >>= fun z=>match z with
| .inr z=>some z
| .inl _=>
some true)
def F_91(N:Nat)(x1:Int)(x2:Int)(x3:Int)(x4:Int)(x5:Int)(_x7:(List Nd))(x6:Int)(x7:Int)(x8:ByteArray)(_x12:Int)(x9:Int):Option Bool:=
((if(x1 != 1)=true then(
if(([x2,x3,x4,x5]:List Int) != ([0,0,0,0]:List Int))=true then(
some true)
else(
if(x1 != 4)=true then(
if(x6 != 0)=true then(
some true)
else(
if(x7 != 0)=true then(
some true)
else(
if(x1 != 5)=true then(
some (x8.toList != ByteArray.empty.toList))
else(
some false))))
else(
if(x1 != 5)=true then(
some (x8.toList != ByteArray.empty.toList))
else(
some false))))
else(
if(x1 != 4)=true then(
if(x6 != 0)=true then(
some true)
else(
if(x7 != 0)=true then(
some true)
else(
if(x1 != 5)=true then(
some (x8.toList != ByteArray.empty.toList))
else(
some false))))
else(
if(x1 != 5)=true then(
some (x8.toList != ByteArray.empty.toList))
else(
some false)))):Option Bool) >>= fun x10=>
if x10=true then(
some false)
else(
if(x1==1)=true then(
some (x9==0))
else(
if(x1==2)=true then(
some true)
else(
if(x1==3)=true then(
some (decide (x9>1)))
else(
if(x1==4)=true then(
((if(x9 != 1)=true then(
some true)
else(
if(decide (x6<0))=true then(
some true)
else(
some (decide (x6>40))))):Option Bool) >>= fun x11=>
if x11=true then(
some false)
else(
((if(x7==(-1))=true then(
some true)
else(
if(decide (x7≥x6))=true then(
if(decide (x7≥1))=true then(
some (decide (x7≤40)))
else(
some false))
else(
some false))):Option Bool) >>= fun x12=>
some x12))
else(
((if(x1==5)=true then(
if(x9==0)=true then(
F_28 N x8 >>= fun x13=>
some x13)
else(
some false))
else(
some false)):Option Bool) >>= fun x14=>
some x14)))))
def F_78(N:Nat)(x1:(List (Nd×Int×Int)))(x2:Int):Option (Int ⊕ (Unit ⊕ Bool)):=
if(decide (x2<(x1.length:Int)))=true then(
idx x1 x2 >>= fun x3=>
((if(decide (x3.2.1>24))=true then(
some true)
else(
F_91 N x3.1.un.1 x3.1.un.2.1.1 x3.1.un.2.1.2.1 x3.1.un.2.1.2.2.1 x3.1.un.2.1.2.2.2 x3.1.un.2.2.1 x3.1.un.2.2.2.1 x3.1.un.2.2.2.2.1 x3.1.un.2.2.2.2.2 x3.2.1 x3.2.2 >>= fun x4=>
some (!x4))):Option Bool) >>= fun x5=>
if x5=true then(
some (.inr (.inr false)))
else(
some (.inl (w64 (x2+1)))))
else(
some (.inr (.inl ())))
def F_29(N:Nat)(x1:Int)(x2:Int)(x3:Int)(x4:Int)(x5:Int)(x6:(List Nd))(x7:Int)(x8:Int)(x9:ByteArray):Option Bool:=
F_9 N x1 x2 x3 x4 x5 x6 x7 x8 x9 1 ([]) >>= fun x10=>
((iterO N (fun s=>F_78 N x10 s) 0):Option (Unit ⊕ Bool)) >>= fun z=>match z with
| .inr z=>some z
| .inl _=>
some (decide ((x10.length:Int)≤600))
def F_69(_N:Nat)(x1:Int):Option Int:=
if(decide (x1>1048576))=true then(
some 1048576)
else(
some x1)
def F_51(N:Nat)(self_:Int→Int→Int→Int→Int→(List Nd)→Int→Int→ByteArray→Option Int)(x1:Int)(x2:(List Nd))(x3:Int)(x4:Int)(x5:Int)(x6:Int):Option ((Int×Int) ⊕ Int):=
if(decide (x5<(x2.length:Int)))=true then(
((idx x2 x5 >>= fun x7=>
self_ x7.un.1 x7.un.2.1.1 x7.un.2.1.2.1 x7.un.2.1.2.2.1 x7.un.2.1.2.2.2 x7.un.2.2.1 x7.un.2.2.2.1 x7.un.2.2.2.2.1 x7.un.2.2.2.2.2 >>= fun x8=>
((if(x1==4)=true then(
some (x4==(-1)))
else(
some false)):Option Bool) >>= fun x9=>
((if x9=true then(
F_69 N (w64 (x8*(w64 (x3+1)))) >>= fun x10=>
some x10)
else(
((if(x1==4)=true then(
F_69 N (w64 (x8*x4)) >>= fun x11=>
some x11)
else(
some x8)):Option Int) >>= fun x12=>
some x12)):Option Int) >>= fun x13=>
F_69 N (w64 (x6+x13)) >>= fun x14=>
some x14):Option Int) >>= fun x15=>
some (.inl (w64 (x5+1),x15)))
else(
some (.inr x6))
def F_12:(N:Nat)→(x1:Int)→(x2:Int)→(x3:Int)→(x4:Int)→(x5:Int)→(x6:(List Nd))→(x7:Int)→(x8:Int)→(x9:ByteArray)→Option Int
|0,_,_,_,_,_,_,_,_,_=>none
|N+1,x1,_,_,_,_,x6,x7,x8,_=>
((iterO N (fun s=>F_51 N (F_12 N) x1 x6 x7 x8 s.1 s.2) (0,1)):Option Int) >>= fun x10=>
some x10
def F_14(_N:Nat)(x1:Za)(_x6:Zc)(x2:Bool):Option (Za×Bool×Int):=
if(decide ((x1.length:Int)≥4000))=true then(
some (x1,true,0))
else(
app x1 [([],(((0:Int),(0:Int),(0:Int),(0:Int)),((-1):Int),((-1):Int)))] >>= fun x3=>
some (x3,x2,w64 ((x3.length:Int)-1)))
def F_17(_N:Nat)(x1:Za)(_x6:Zc)(x2:Bool)(x3:Int)(x4:Int):Option Za:=
((if(!x2)=true then(
((idx x1 x3 >>= fun x5=>
app x5.1 ([x4]) >>= fun x6=>
setI x1 x3 (x6,x5.2) >>= fun x7=>
some x7):Option Za) >>= fun x8=>
some x8)
else(
some x1)):Option Za) >>= fun x9=>
some x9
def F_53(_N:Nat)(self_:Za→Zc→Bool→Int→Int→Int→Int→Int→(List Nd)→Int→Int→ByteArray→Int→Option (Za×Bool×Int))(x1:Zc)(x2:(List Nd))(x3:Za)(x4:Bool)(x5:Int)(x6:Int):Option ((Za×Bool×Int×Int) ⊕ (Za×Bool×Int)):=
if(decide (x6<(x2.length:Int)))=true then(
idx x2 x6 >>= fun x7=>
self_ x3 x1 x4 x7.un.1 x7.un.2.1.1 x7.un.2.1.2.1 x7.un.2.1.2.2.1 x7.un.2.1.2.2.2 x7.un.2.2.1 x7.un.2.2.2.1 x7.un.2.2.2.2.1 x7.un.2.2.2.2.2 x5 >>= fun(x8,x9,x10)=>
some (.inl (x8,x9,x10,w64 (x6+1))))
else(
some (.inr (x3,x4,x5)))
def F_44(N:Nat)(self_:Za→Zc→Bool→Int→Int→Int→Int→Int→(List Nd)→Int→Int→ByteArray→Int→Option (Za×Bool×Int))(x1:Zc)(x2:(List Nd))(x3:Int)(x4:Za)(x5:Bool)(x6:Zc)(x7:Int):Option ((Za×Bool×Zc×Int) ⊕ (Za×Bool×Zc)):=
if(decide (x7<(x2.length:Int)))=true then(
idx x2 x7 >>= fun x8=>
F_14 N x4 x1 x5 >>= fun(x9,x10,x11)=>
F_17 N x9 x1 x10 x3 x11 >>= fun x12=>
self_ x12 x1 x10 x8.un.1 x8.un.2.1.1 x8.un.2.1.2.1 x8.un.2.1.2.2.1 x8.un.2.1.2.2.2 x8.un.2.2.1 x8.un.2.2.2.1 x8.un.2.2.2.2.1 x8.un.2.2.2.2.2 x11 >>= fun(x13,x14,x15)=>
app x6 ([x15]) >>= fun x16=>
some (.inl (x13,x14,x16,w64 (x7+1))))
else(
some (.inr (x4,x5,x6)))
def F_34(N:Nat)(x1:Zc)(x2:Zc)(x3:Bool)(x4:Int)(x5:Za)(x6:Int):Option ((Za×Int) ⊕ Za):=
if(decide (x6<(x2.length:Int)))=true then(
idx x2 x6 >>= fun x7=>
F_17 N x5 x1 x3 x7 x4 >>= fun x8=>
some (.inl (x8,w64 (x6+1))))
else(
some (.inr x5))
def F_54(_N:Nat)(self_:Za→Zc→Bool→Int→Int→Int→Int→Int→(List Nd)→Int→Int→ByteArray→Int→Option (Za×Bool×Int))(x1:Zc)(x2:(List Nd))(x3:Int)(x4:Za)(x5:Bool)(x6:Int)(x7:Int):Option ((Za×Bool×Int×Int) ⊕ (Za×Bool×Int)):=
if(decide (x6<x3))=true then(
idx x2 0 >>= fun x8=>
self_ x4 x1 x5 x8.un.1 x8.un.2.1.1 x8.un.2.1.2.1 x8.un.2.1.2.2.1 x8.un.2.1.2.2.2 x8.un.2.2.1 x8.un.2.2.2.1 x8.un.2.2.2.2.1 x8.un.2.2.2.2.2 x7 >>= fun(x9,x10,x11)=>
some (.inl (x9,x10,w64 (x6+1),x11)))
else(
some (.inr (x4,x5,x7)))
def F_45(N:Nat)(self_:Za→Zc→Bool→Int→Int→Int→Int→Int→(List Nd)→Int→Int→ByteArray→Int→Option (Za×Bool×Int))(x1:Zc)(x2:(List Nd))(x3:Int)(x4:Za)(x5:Bool)(x6:Int)(x7:Zc)(x8:Int):Option ((Za×Bool×Int×Zc×Int) ⊕ (Za×Bool×Int×Zc)):=
if(decide (x8<x3))=true then(
app x7 ([x6]) >>= fun x9=>
F_14 N x4 x1 x5 >>= fun(x10,x11,x12)=>
F_17 N x10 x1 x11 x6 x12 >>= fun x13=>
idx x2 0 >>= fun x14=>
self_ x13 x1 x11 x14.un.1 x14.un.2.1.1 x14.un.2.1.2.1 x14.un.2.1.2.2.1 x14.un.2.1.2.2.2 x14.un.2.2.1 x14.un.2.2.2.1 x14.un.2.2.2.2.1 x14.un.2.2.2.2.2 x12 >>= fun(x15,x16,x17)=>
some (.inl (x15,x16,x17,x9,w64 (x8+1))))
else(
some (.inr (x4,x5,x6,x7)))
def F_35(N:Nat)(x1:Zc)(x2:Zc)(x3:Bool)(x4:Int)(x5:Za)(x6:Int):Option ((Za×Int) ⊕ Za):=
if(decide (x6<(x2.length:Int)))=true then(
idx x2 x6 >>= fun x7=>
F_17 N x5 x1 x3 x7 x4 >>= fun x8=>
some (.inl (x8,w64 (x6+1))))
else(
some (.inr x5))
def F_1:(N:Nat)→(x1:Za)→(x2:Zc)→(x3:Bool)→(x4:Int)→(x5:Int)→(x6:Int)→(x7:Int)→(x8:Int)→(x9:(List Nd))→(x10:Int)→(x11:Int)→(x12:ByteArray)→(x13:Int)→Option (Za×Bool×Int)
|0,_,_,_,_,_,_,_,_,_,_,_,_,_=>none
|N+1,x1,x2,x3,x4,x5,x6,x7,x8,x9,x10,x11,_,x13=>
if x3=true then(
some (x1,x3,0))
else(
if(x4==1)=true then(
F_14 N x1 x2 x3 >>= fun(x14,x15,x16)=>
((if(!x15)=true then(
((idx x14 x13 >>= fun x17=>
setI x14 x13 (x17.1,(x5,x6,x7,x8),x17.2.2.1,x17.2.2.2) >>= fun x18=>
some x18):Option Za) >>= fun x19=>
idx x19 x13 >>= fun x20=>
setI x19 x13 (x20.1,(x20.2.1.1,x20.2.1.2.1,x20.2.1.2.2.1,x20.2.1.2.2.2),x16,x20.2.2.2) >>= fun x21=>
some x21)
else(
some x14)):Option Za) >>= fun x22=>
some (x22,x15,x16))
else(
if(x4==2)=true then(
((iterO N (fun s=>F_53 N (F_1 N) x2 x9 s.1 s.2.1 s.2.2.1 s.2.2.2) (x1,x3,x13,0)):Option (Za×Bool×Int)) >>= fun(x23,x24,x25)=>
some (x23,x24,x25))
else(
if(x4==5)=true then(
F_14 N x1 x2 x3 >>= fun(x26,x27,x28)=>
some (x26,x27,x28))
else(
if(x4==3)=true then(
((iterO N (fun s=>F_44 N (F_1 N) x2 x9 x13 s.1 s.2.1 s.2.2.1 s.2.2.2) (x1,x3,[],0)):Option (Za×Bool×Zc)) >>= fun(x29,x30,x31)=>
F_14 N x29 x2 x30 >>= fun(x32,x33,x34)=>
((iterO N (fun s=>F_34 N x2 x31 x33 x34 s.1 s.2) (x32,0)):Option Za) >>= fun x35=>
some (x35,x33,x34))
else(
((iterO N (fun s=>F_54 N (F_1 N) x2 x9 x10 s.1 s.2.1 s.2.2.1 s.2.2.2) (x1,x3,0,x13)):Option (Za×Bool×Int)) >>= fun(x36,x37,x38)=>
if(x11==x10)=true then(
some (x36,x37,x38))
else(
if(decide (x11<0))=true then(
F_14 N x36 x2 x37 >>= fun(x39,x40,x41)=>
F_14 N x39 x2 x40 >>= fun(x42,x43,x44)=>
F_17 N x42 x2 x43 x38 x41 >>= fun x45=>
F_17 N x45 x2 x43 x38 x44 >>= fun x46=>
idx x9 0 >>= fun x47=>
F_1 N x46 x2 x43 x47.un.1 x47.un.2.1.1 x47.un.2.1.2.1 x47.un.2.1.2.2.1 x47.un.2.1.2.2.2 x47.un.2.2.1 x47.un.2.2.2.1 x47.un.2.2.2.2.1 x47.un.2.2.2.2.2 x41 >>= fun(x48,x49,x50)=>
F_17 N x48 x2 x49 x50 x41 >>= fun x51=>
F_17 N x51 x2 x49 x50 x44 >>= fun x52=>
some (x52,x49,x44))
else(
((iterO N (fun s=>F_45 N (F_1 N) x2 x9 x11 s.1 s.2.1 s.2.2.1 s.2.2.2.1 s.2.2.2.2) (x36,x37,x38,[],x10)):Option (Za×Bool×Int×Zc)) >>= fun(x53,x54,x55,x56)=>
F_14 N x53 x2 x54 >>= fun(x57,x58,x59)=>
F_17 N x57 x2 x58 x55 x59 >>= fun x60=>
((iterO N (fun s=>F_35 N x2 x56 x58 x59 s.1 s.2) (x60,0)):Option Za) >>= fun x61=>
some (x61,x58,x59))))))))
def F_79(_N:Nat)(x1:(List ByteArray))(x2:(Zc×Nd×Int×Int))(x3:Int):Option (Int ⊕ (Unit ⊕ (Int ⊕ (Unit ⊕ (Za×Zc×Int))))):=
if(decide (x3<(x2.1.length:Int)))=true then(
idx x2.1 x3 >>= fun x4=>
((if(decide (x4<0))=true then(
some true)
else(
some (decide (x4≥(x1.length:Int))))):Option Bool) >>= fun x5=>
if x5=true then(
some (.inr (.inr (.inr (.inr ([],[],4))))))
else(
some (.inl (w64 (x3+1)))))
else(
some (.inr (.inl ())))
def F_70(N:Nat)(x1:(List ByteArray))(x2:(List (Zc×Nd×Int×Int)))(x3:Int):Option (Int ⊕ (Unit ⊕ (Za×Zc×Int))):=
if(decide (x3<(x2.length:Int)))=true then(
idx x2 x3 >>= fun x4=>
F_29 N x4.2.1.un.1 x4.2.1.un.2.1.1 x4.2.1.un.2.1.2.1 x4.2.1.un.2.1.2.2.1 x4.2.1.un.2.1.2.2.2 x4.2.1.un.2.2.1 x4.2.1.un.2.2.2.1 x4.2.1.un.2.2.2.2.1 x4.2.1.un.2.2.2.2.2 >>= fun x5=>
if(!x5)=true then(
some (.inr (.inr ([],[],4))))
else(
((iterO N (fun s=>F_79 N x1 x4 s) 0):Option (Unit ⊕ (Int ⊕ (Unit ⊕ (Za×Zc×Int))))) >>= fun z=>match z with
| .inr z=>some z
| .inl _=>
some (.inl (w64 (x3+1)))))
else(
some (.inr (.inl ())))
def F_71(N:Nat)(x1:(List (Zc×Nd×Int×Int)))(x2:Int):Option (Int ⊕ (Unit ⊕ (Za×Zc×Int))):=
if(decide (x2<(x1.length:Int)))=true then(
idx x1 x2 >>= fun x3=>
F_12 N x3.2.1.un.1 x3.2.1.un.2.1.1 x3.2.1.un.2.1.2.1 x3.2.1.un.2.1.2.2.1 x3.2.1.un.2.1.2.2.2 x3.2.1.un.2.2.1 x3.2.1.un.2.2.2.1 x3.2.1.un.2.2.2.2.1 x3.2.1.un.2.2.2.2.2 >>= fun x4=>
if(decide (x4>4000))=true then(
some (.inr (.inr ([],[],9))))
else(
some (.inl (w64 (x2+1)))))
else(
some (.inr (.inl ())))
def F_52(N:Nat)(x1:(List ByteArray))(x2:Za)(x3:Zc)(x4:Bool)(x5:Int):Option ((Za×Zc×Bool×Int) ⊕ (Za×Zc×Bool)):=
if(decide (x5<(x1.length:Int)))=true then(
((F_14 N x2 x3 x4 >>= fun(x6,x7,x8)=>
app x3 ([x8]) >>= fun x9=>
some (x6,x9,x7)):Option (Za×Zc×Bool)) >>= fun(x10,x11,x12)=>
some (.inl (x10,x11,x12,w64 (x5+1))))
else(
some (.inr (x2,x3,x4)))
def F_43(N:Nat)(x1:Zc)(x2:(Zc×Nd×Int×Int))(x3:Bool)(x4:Int)(x5:Za)(x6:Int):Option ((Za×Int) ⊕ Za):=
if(decide (x6<(x2.1.length:Int)))=true then(
idx x2.1 x6 >>= fun x7=>
idx x1 x7 >>= fun x8=>
F_17 N x5 x1 x3 x8 x4 >>= fun x9=>
some (.inl (x9,w64 (x6+1))))
else(
some (.inr x5))
def F_23(N:Nat)(x1:(List (Zc×Nd×Int×Int)))(x2:Zc)(x3:Za)(x4:Bool)(x5:Int):Option ((Za×Bool×Int) ⊕ ((Za×Bool) ⊕ (Za×Zc×Int))):=
if(decide (x5<(x1.length:Int)))=true then(
idx x1 x5 >>= fun x6=>
F_14 N x3 x2 x4 >>= fun(x7,x8,x9)=>
((iterO N (fun s=>F_43 N x2 x6 x8 x9 s.1 s.2) (x7,0)):Option Za) >>= fun x10=>
F_1 N x10 x2 x8 x6.2.1.un.1 x6.2.1.un.2.1.1 x6.2.1.un.2.1.2.1 x6.2.1.un.2.1.2.2.1 x6.2.1.un.2.1.2.2.2 x6.2.1.un.2.2.1 x6.2.1.un.2.2.2.1 x6.2.1.un.2.2.2.2.1 x6.2.1.un.2.2.2.2.2 x9 >>= fun(x11,x12,x13)=>
if x12=true then(
some (.inr (.inr ([],[],9))))
else(
idx x11 x13 >>= fun x14=>
setI x11 x13 (x14.1,(x14.2.1.1,x14.2.1.2.1,x14.2.1.2.2.1,x14.2.1.2.2.2),x14.2.2.1,x5) >>= fun x15=>
some (.inl (x15,x12,w64 (x5+1)))))
else(
some (.inr (.inl (x3,x4))))
def F_2(N:Nat)(x1:(List ByteArray))(_x5:(List ByteArray))(x2:(List (Zc×Nd×Int×Int))):Option (Za×Zc×Int):=
((if(decide ((x1.length:Int)<1))=true then(
some true)
else(
if(decide ((x1.length:Int)>8))=true then(
some true)
else(
if(decide ((x2.length:Int)<1))=true then(
some true)
else(
some (decide ((x2.length:Int)>48)))))):Option Bool) >>= fun x3=>
if x3=true then(
some ([],[],4))
else(
((iterO N (fun s=>F_70 N x1 x2 s) 0):Option (Unit ⊕ (Za×Zc×Int))) >>= fun z=>match z with
| .inr z=>some z
| .inl _=>
((iterO N (fun s=>F_71 N x2 s) 0):Option (Unit ⊕ (Za×Zc×Int))) >>= fun z=>match z with
| .inr z=>some z
| .inl _=>
((iterO N (fun s=>F_52 N x1 s.1 s.2.1 s.2.2.1 s.2.2.2) ([],[],false,0)):Option (Za×Zc×Bool)) >>= fun(x4,x5,x6)=>
((iterO N (fun s=>F_23 N x2 x5 s.1 s.2.1 s.2.2) (x4,x6,0)):Option ((Za×Bool) ⊕ (Za×Zc×Int))) >>= fun z=>match z with
| .inr z=>some z
| .inl (x7,_x6451)=>
some (x7,x5,0))
def F_101(_N:Nat)(x1:Int)(x2:Int):Option (Int ⊕ (Unit ⊕ Int)):=
if(decide (x2<(([3,4,5,1,6,7,8,9,2,10,11,12,13,14,15,16,17,18]).length:Int)))=true then(
idx ([3,4,5,1,6,7,8,9,2,10,11,12,13,14,15,16,17,18]) x2 >>= fun x3=>
isO errIds x1 x3 >>= fun x4=>
if x4=true then(
some (.inr (.inr (w64 (x2+1)))))
else(
some (.inl (w64 (x2+1)))))
else(
some (.inr (.inl ())))
def F_33(N:Nat)(x1:Int):Option Int:=
if(!(eOk errIds x1))=true then(
some 0)
else(
((iterO N (fun s=>F_101 N x1 s) 0):Option (Unit ⊕ Int)) >>= fun z=>match z with
| .inr z=>some z
| .inl _=>
some (-1))
def F_74(_N:Nat)(x1:Za)(x2:Int)(x3:Za):Option ((Int×Za) ⊕ (Za ⊕ (Za×Bool))):=
if(decide (x2<(x1.length:Int)))=true then(
idx x1 x2 >>= fun x4=>
if(decide ((x4.1.length:Int)>100))=true then(
some (.inr (.inr (x3,false))))
else(
app x3 ([(x4.1,(x4.2.1.1,x4.2.1.2.1,x4.2.1.2.2.1,x4.2.1.2.2.2),x4.2.2.1,x4.2.2.2)]) >>= fun x5=>
some (.inl (w64 (x2+1),x5))))
else(
some (.inr (.inl x3)))
def F_26(N:Nat)(x1:Za)(x2:Zc)(x3:Int):Option (Za×Bool):=
((if(decide ((x2.length:Int)>20))=true then(
some true)
else(
some (decide ((x1.length:Int)>x3)))):Option Bool) >>= fun x4=>
if x4=true then(
some ([],false))
else(
((iterO N (fun s=>F_74 N x1 s.1 s.2) (0,[])):Option (Za ⊕ (Za×Bool))) >>= fun z=>match z with
| .inr z=>some z
| .inl x5=>
some (x5,true))
def F_76(_N:Nat)(x1:Zc)(x2:Zc)(x3:Int):Option (Int ⊕ (Unit ⊕ Bool)):=
if(decide (x3<(x1.length:Int)))=true then(
idx x1 x3 >>= fun x4=>
idx x2 x3 >>= fun x5=>
if(x4 != x5)=true then(
some (.inr (.inr false)))
else(
some (.inl (w64 (x3+1)))))
else(
some (.inr (.inl ())))
def F_22(N:Nat)(x1:Zc)(x2:Zc):Option Bool:=
if((x1.length:Int) != (x2.length:Int))=true then(
some false)
else(
((iterO N (fun s=>F_76 N x1 x2 s) 0):Option (Unit ⊕ Bool)) >>= fun z=>match z with
| .inr z=>some z
| .inl _=>
some true)
def F_80(N:Nat)(x1:Za)(x2:Za)(x3:Int):Option (Int ⊕ (Unit ⊕ Bool)):=
if(decide (x3<(x1.length:Int)))=true then(
idx x1 x3 >>= fun x4=>
idx x2 x3 >>= fun x5=>
((F_22 N x4.1 x5.1 >>= fun x6=>
if(!x6)=true then(
some true)
else(
if(([x4.2.1.1,x4.2.1.2.1,x4.2.1.2.2.1,x4.2.1.2.2.2]:List Int) != ([x5.2.1.1,x5.2.1.2.1,x5.2.1.2.2.1,x5.2.1.2.2.2]:List Int))=true then(
some true)
else(
if(x4.2.2.1 != x5.2.2.1)=true then(
some true)
else(
some (x4.2.2.2 != x5.2.2.2))))):Option Bool) >>= fun x7=>
if x7=true then(
some (.inr (.inr false)))
else(
some (.inl (w64 (x3+1)))))
else(
some (.inr (.inl ())))
def F_30(N:Nat)(x1:Za)(x2:Zc)(x3:Za)(x4:Zc):Option Bool:=
((F_22 N x2 x4 >>= fun x5=>
if(!x5)=true then(
some true)
else(
some ((x1.length:Int) != (x3.length:Int)))):Option Bool) >>= fun x6=>
if x6=true then(
some false)
else(
((iterO N (fun s=>F_80 N x1 x3 s) 0):Option (Unit ⊕ Bool)) >>= fun z=>match z with
| .inr z=>some z
| .inl _=>
some true)
def F_72(_N:Nat)(x1:Int)(x2:Int):Option Bool:=
((if(decide (x1<0))=true then(
some true)
else(
some (decide (x1≥x2)))):Option Bool) >>= fun x3=>
some x3
def F_86(N:Nat)(x1:Zc)(x2:Int)(x3:Int):Option (Int ⊕ (Unit ⊕ Int)):=
if(decide (x3<(x1.length:Int)))=true then(
idx x1 x3 >>= fun x4=>
F_72 N x4 x2 >>= fun x5=>
if x5=true then(
some (.inr (.inr x3)))
else(
some (.inl (w64 (x3+1)))))
else(
some (.inr (.inl ())))
def F_40(N:Nat)(x1:Zc)(x2:Int):Option Int:=
((iterO N (fun s=>F_86 N x1 x2 s) 0):Option (Unit ⊕ Int)) >>= fun z=>match z with
| .inr z=>some z
| .inl _=>
some (-1)
def F_85(N:Nat)(x1:Zc)(x2:Int):Option Bool:=
F_40 N x1 x2 >>= fun x3=>
some (decide (x3≥0))
def F_81(N:Nat)(x1:Za)(x2:Int):Option (Int ⊕ (Unit ⊕ Bool)):=
if(decide (x2<(x1.length:Int)))=true then(
idx x1 x2 >>= fun x3=>
((if(x3.2.2.1==(-1))=true then(
F_83 N x3.2.1.1 x3.2.1.2.1 x3.2.1.2.2.1 x3.2.1.2.2.2 >>= fun _=>
if(([x3.2.1.1,x3.2.1.2.1,x3.2.1.2.2.1,x3.2.1.2.2.2]:List Int)==([0,0,0,0]:List Int))=true then(
some true)
else(
F_72 N x3.2.2.1 (x1.length:Int) >>= fun x4=>
some (!x4)))
else(
F_72 N x3.2.2.1 (x1.length:Int) >>= fun x5=>
some (!x5))):Option Bool) >>= fun x6=>
((if(!x6)=true then(
some true)
else(
F_85 N x3.1 (x1.length:Int) >>= fun x7=>
if x7=true then(
some true)
else(
if(decide (x3.2.2.2<(-1)))=true then(
some true)
else(
some (decide (x3.2.2.2≥48)))))):Option Bool) >>= fun x8=>
if x8=true then(
some (.inr (.inr false)))
else(
some (.inl (w64 (x2+1)))))
else(
some (.inr (.inl ())))
def F_15(N:Nat)(x1:Za)(x2:Zc):Option Bool:=
((iterO N (fun s=>F_81 N x1 s) 0):Option (Unit ⊕ Bool)) >>= fun z=>match z with
| .inr z=>some z
| .inl _=>
((if(decide ((x2.length:Int)≥1))=true then(
some (decide ((x2.length:Int)≤8)))
else(
some false)):Option Bool) >>= fun x3=>
((if x3=true then(
if(decide ((x1.length:Int)≥1))=true then(
if(decide ((x1.length:Int)≤4000))=true then(
F_85 N x2 (x1.length:Int) >>= fun x4=>
some (!x4))
else(
some false))
else(
some false))
else(
some false)):Option Bool) >>= fun x5=>
some x5
def F_64(N:Nat)(x1:(List ByteArray))(x2:(List ByteArray))(x3:(List (Zc×Nd×Int×Int))):Option Bool:=
F_27 N x1 x2 x3 >>= fun x4=>
if x4=true then(
some true)
else(
F_3 N x1 x2 x3 >>= fun(x5,x6,x7)=>
F_21 N x1 x2 x3 >>= fun x8=>
F_2 N x1 x2 x8 >>= fun(x9,x10,x11)=>
F_33 N x7 >>= fun x12=>
if(x12 != x11)=true then(
some false)
else(
if(x11 != 0)=true then(
((if((x5.length:Int)==0)=true then(
some ((x6.length:Int)==0))
else(
some false)):Option Bool) >>= fun x13=>
some x13)
else(
F_26 N x5 x6 4000 >>= fun(x14,x15)=>
((if(!x15)=true then(
some true)
else(
F_30 N x14 x6 x9 x10 >>= fun x16=>
if x16=true then(
F_15 N x5 x6 >>= fun x17=>
some x17)
else(
some false))):Option Bool) >>= fun x18=>
some x18)))
end Go.Proofs.YtmolobogpjddjaaGreatDoor
