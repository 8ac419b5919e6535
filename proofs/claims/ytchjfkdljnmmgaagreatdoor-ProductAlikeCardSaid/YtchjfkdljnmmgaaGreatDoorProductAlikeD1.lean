import Derived.Test.YtchjfkdljnmmgaaGreatDoorProductAlikeE3
namespace Go.Proofs.YtchjfkdljnmmgaaGreatDoor
open Go Go.Eng
set_option maxRecDepth 100000
abbrev Zb:=List (List Int)
abbrev Zc:=List Int
def md1r:List Zc:=[List.replicate 256 0,(List.replicate 256 0).set 98 (2:Int),List.replicate 256 0]
def md1l:List Int:=[-1,-1,0]
def md1m:List Int:=[1]
def md0r:List Zc:=[List.replicate 256 0,(List.replicate 256 0).set 97 (2:Int),List.replicate 256 0]
def md0l:List Int:=[-1,-1,0]
def md0m:List Int:=[1]
def tab_math_bits_deBruijn64tab:List Int:=[0,1,56,2,57,49,28,3,61,58,42,50,38,29,17,4,62,47,59,36,45,43,51,22,53,39,33,30,24,18,12,5,63,55,48,27,60,41,37,16,46,35,44,21,52,32,23,11,54,26,40,15,34,20,31,10,25,14,19,9,13,8,7,6]
def errIds:List Nat:=[0,1,2,3,4,5,6,7,8,12,14]
def F_43(_N:Nat)(x1:Int)(x2:Int):Option Bool:=
((if(decide (x1<0))=true then(
some true)
else(
some (decide (x1≥x2)))):Option Bool) >>= fun x3=>
some x3
def F_33(N:Nat)(x1:Zc)(x2:Int)(x3:Int):Option (Int ⊕ (Unit ⊕ Int)):=
if(decide (x3<(x1.length:Int)))=true then(
idx x1 x3 >>= fun x4=>
F_43 N x4 x2 >>= fun x5=>
if x5=true then(
some (.inr (.inr x3)))
else(
some (.inl (w64 (x3+1)))))
else(
some (.inr (.inl ())))
def F_2(N:Nat)(x1:Zc)(x2:Int):Option Int:=
((iterO N (fun s=>F_33 N x1 x2 s) 0):Option (Unit ⊕ Int)) >>= fun z=>match z with
| .inr z=>some z
| .inl _=>
some (-1)
def F_14(N:Nat)(x1:Zc)(x2:Int):Option Bool:=
F_2 N x1 x2 >>= fun x3=>
some (decide (x3≥0))
def F_99(_N:Nat)(x1:Int):Option Bool:=
((if(decide (x1<(-1)))=true then(
some true)
else(
some (decide (x1≥48)))):Option Bool) >>= fun x2=>
some x2
def F_87(N:Nat)(x1:Zc)(x2:Int):Option (Int ⊕ (Unit ⊕ Int)):=
if(decide (x2<(x1.length:Int)))=true then(
idx x1 x2 >>= fun x3=>
F_99 N x3 >>= fun x4=>
if x4=true then(
some (.inr (.inr x2)))
else(
some (.inl (w64 (x2+1)))))
else(
some (.inr (.inl ())))
def F_31(N:Nat)(x1:Zc):Option Int:=
((iterO N (fun s=>F_87 N x1 s) 0):Option (Unit ⊕ Int)) >>= fun z=>match z with
| .inr z=>some z
| .inl _=>
some (-1)
def F_96(N:Nat)(x1:Zc):Option Bool:=
F_31 N x1 >>= fun x2=>
some (decide (x2≥0))
def F_90(N:Nat)(x1:Zb)(x2:Int):Option (Int ⊕ (Unit ⊕ Bool)):=
if(decide (x2<(x1.length:Int)))=true then(
idx x1 x2 >>= fun x3=>
F_14 N x3 (x1.length:Int) >>= fun x4=>
if x4=true then(
some (.inr (.inr false)))
else(
some (.inl (w64 (x2+1)))))
else(
some (.inr (.inl ())))
def F_6(N:Nat)(x1:Zb)(x2:Zc)(x3:Zc):Option Bool:=
((if(decide ((x1.length:Int)<1))=true then(
some true)
else(
if(decide ((x1.length:Int)>200))=true then(
some true)
else(
if((x2.length:Int) != (x1.length:Int))=true then(
some true)
else(
if(decide ((x3.length:Int)<1))=true then(
some true)
else(
some (decide ((x3.length:Int)>8))))))):Option Bool) >>= fun x4=>
if x4=true then(
some false)
else(
((iterO N (fun s=>F_90 N x1 s) 0):Option (Unit ⊕ Bool)) >>= fun z=>match z with
| .inr z=>some z
| .inl _=>
((F_96 N x2 >>= fun x5=>
if x5=true then(
some true)
else(
F_14 N x3 (x1.length:Int) >>= fun x6=>
some x6)):Option Bool) >>= fun x7=>
if x7=true then(
some false)
else(
((idx x1 0 >>= fun x8=>
if(x8==(List.replicate 256 0))=true then(
idx x2 0 >>= fun x9=>
some (x9==(-1)))
else(
some false)):Option Bool) >>= fun x10=>
some x10))
def F_77(N:Nat)(x1:Zb)(x2:Zc)(x3:Zc)(x4:Zb)(x5:Zc)(x6:Zc):Option Bool:=
((F_6 N x1 x2 x3 >>= fun x7=>
if x7=true then(
F_6 N x4 x5 x6 >>= fun x8=>
some x8)
else(
some false)):Option Bool) >>= fun x9=>
some x9
def F_81(_N:Nat)(_x2:Zb)(_x5:Zc)(x1:Zc)(x2:Int):Option Int:=
((if(decide (x2<0))=true then(
some true)
else(
some (decide (x2≥(x1.length:Int))))):Option Bool) >>= fun x3=>
if x3=true then(
some 0)
else(
idx x1 x2 >>= fun x4=>
some x4)
def F_94(N:Nat)(x1:Zb)(x2:Zc)(x3:Zc)(x4:Zb)(x5:Zc)(x6:Zc)(x7:Int):Option (Int×Int):=
((F_81 N x1 x2 x3 x7 >>= fun x8=>
F_81 N x4 x5 x6 x7 >>= fun x9=>
some (x8,x9)):Option (Int×Int)) >>= fun(x10,x11)=>
some (x10,x11)
def F_82(_N:Nat)(_x2:Zb)(x1:Zc)(_x8:Zc)(_x11:Zb)(x2:Zc)(_x17:Zc)(x3:Int)(x4:Int):Option (Int×Int):=
idx x1 x3 >>= fun x5=>
idx x2 x4 >>= fun x6=>
some (x5,x6)
def F_109(_N:Nat)(_x1:Int)(_x2:Int):Option Unit:=
some ()
def F_95(_N:Nat)(x1:Zb)(_x5:Zc)(_x8:Zc)(x2:Zb)(_x14:Zc)(_x17:Zc)(x3:Int)(x4:Int)(x5:Int):Option (Int×Int):=
((idx x1 x3 >>= fun x6=>
idx x6 x5 >>= fun x7=>
idx x2 x4 >>= fun x8=>
idx x8 x5 >>= fun x9=>
some (x7,x9)):Option (Int×Int)) >>= fun(x10,x11)=>
some (x10,x11)
def F_102(_N:Nat)(x:Zc):Option Zc:=app [] x
def F_42(N:Nat)(x1:Zb)(x2:Zc)(x3:Zc)(x4:Zb)(x5:Zc)(x6:Zc)(x7:((Int×Int)×Zc))(x8:(List ((Int×Int)×Zc)))(x9:Int)(x10:(List ((Int×Int)×Int))):Option (((List ((Int×Int)×Zc))×Int×(List ((Int×Int)×Int))) ⊕ ((List ((Int×Int)×Zc))×(List ((Int×Int)×Int)))):=
if(decide (x9<256))=true then(
((F_95 N x1 x2 x3 x4 x5 x6 x7.1.1 x7.1.2 x9 >>= fun(x11,x12)=>
((if(((mget x10 (x11,x12)).getD 0)==0)=true then(
((some ()):Option Unit) >>= fun _=>
((F_102 N x7.2 >>= fun x13=>
app x13 ([IntKind.wrap .u8 x9]) >>= fun x14=>
app x8 ([((x11,x12),x14)]) >>= fun x15=>
some x15):Option (List ((Int×Int)×Zc))) >>= fun x16=>
some (x16,(mset (mset x10 (x11,x12) ((mget x10 (x11,x12)).getD 0)) (x11,x12) (w64 (((mget x10 (x11,x12)).getD 0)+1)))))
else(
some (x8,x10))):Option ((List ((Int×Int)×Zc))×(List ((Int×Int)×Int)))) >>= fun(x17,x18)=>
some (x17,x18)):Option ((List ((Int×Int)×Zc))×(List ((Int×Int)×Int)))) >>= fun(x19,x20)=>
some (.inl (x19,w64 (x9+1),x20)))
else(
some (.inr (x8,x10)))
def F_76(N:Nat)(x1:Zb)(x2:Zc)(x3:Zc)(x4:Zb)(x5:Zc)(x6:Zc)(x7:(List ((Int×Int)×Zc)))(x8:(List ((Int×Int)×Int))):Option (((List ((Int×Int)×Zc))×(List ((Int×Int)×Int))) ⊕ (Unit ⊕ ((Int×Int×Zc) ⊕ Unit))):=
if(decide ((x7.length:Int)>0))=true then(
idx x7 0 >>= fun x9=>
F_82 N x1 x2 x3 x4 x5 x6 x9.1.1 x9.1.2 >>= fun(x10,x11)=>
F_109 N x10 x11 >>= fun _=>
if(x10 != x11)=true then(
some (.inr (.inr (.inl (x9.1.1,x9.1.2,x9.2)))))
else(
((iterO N (fun s=>F_42 N x1 x2 x3 x4 x5 x6 x9 s.1 s.2.1 s.2.2) (x7,0,x8)):Option ((List ((Int×Int)×Zc))×(List ((Int×Int)×Int)))) >>= fun(x12,x13)=>
slc x12 1 (x12.length:Int) >>= fun x14=>
some (.inl (x14,x13))))
else(
some (.inr (.inl ())))
def F_13(N:Nat)(x1:Zb)(x2:Zc)(x3:Zc)(x4:Zb)(x5:Zc)(x6:Zc)(x7:Int):Option ((Int×Int×Zc) ⊕ Unit):=
F_94 N x1 x2 x3 x4 x5 x6 x7 >>= fun(x8,x9)=>
((iterO N (fun s=>F_76 N x1 x2 x3 x4 x5 x6 s.1 s.2) ([((x8,x9),[])],(mset ([]:List ((Int×Int)×Int)) (x8,x9) 1))):Option (Unit ⊕ ((Int×Int×Zc) ⊕ Unit))) >>= fun z=>match z with
| .inr z=>some z
| .inl _=>
some (.inr ())
def F_80(N:Nat)(x1:Zb)(x2:Zc)(x3:Zc)(x4:Zb)(x5:Zc)(x6:Zc)(x7:Int):Option (Int ⊕ (Unit ⊕ (Unit ⊕ (Int×Zc×Int×Int)))):=
if(decide (x7<(imax (x3.length:Int) (x6.length:Int))))=true then(
F_13 N x1 x2 x3 x4 x5 x6 x7 >>= fun z=>match z with
| .inl (x8,x9,x10)=>(
F_82 N x1 x2 x3 x4 x5 x6 x8 x9 >>= fun(x11,x12)=>
some (.inr (.inr (.inr (x7,x10,x11,x12)))))
| .inr _=>(
some (.inl (w64 (x7+1)))))
else(
some (.inr (.inl ())))
def F_16(N:Nat)(x1:Zb)(x2:Zc)(x3:Zc)(x4:Zb)(x5:Zc)(x6:Zc):Option (Unit ⊕ (Int×Zc×Int×Int)):=
F_77 N x1 x2 x3 x4 x5 x6 >>= fun x7=>
if(!x7)=true then(
some (.inl ()))
else(
((iterO N (fun s=>F_80 N x1 x2 x3 x4 x5 x6 s) 0):Option (Unit ⊕ (Unit ⊕ (Int×Zc×Int×Int)))) >>= fun z=>match z with
| .inr z=>some z
| .inl _=>
some (.inl ()))
def F_92(N:Nat):Option Bool:=
F_16 N md0r md0l md0m md1r md1l md1m >>= fun z=>match z with
| .inl _=>(
((some ()):Option Unit) >>= fun _=>
some false)
| .inr (x1,x2,x3,x4)=>(
((if(x1==0)=true then(
if((bstr x2).toList==(⟨#[97]⟩:ByteArray).toList)=true then(
if(x3==0)=true then(
some (x4==(-1)))
else(
some false))
else(
some false))
else(
some false)):Option Bool) >>= fun x5=>
some x5)
def F_75(_N:Nat)(x1:Int):Option (Unit ⊕ Zc):=
((if(decide (x1<0))=true then(
some true)
else(
some (decide (x1>65536)))):Option Bool) >>= fun x2=>
if x2=true then(
some (.inl ()))
else(
mk 0 (w64 ((w64 ((w64 (x1+64))-1)).tdiv 64)) >>= fun x3=>
some (.inr x3))
def F_29(_N:Nat)(_x3:Zc)(_x6:Int):Option Unit:=
some ()
def F_30(N:Nat)(x1:Zc)(x2:Int)(x3:Int):Option (Int×Int×Bool):=
((nn ((IntKind.wrap .u64 x3).tmod 64) >>= fun _x32=>
if(decide (x3≥0))=true then(
F_29 N x1 x2 >>= fun _=>
some (w64 (x3.tdiv 64),shlI .u64 1 ((IntKind.wrap .u64 x3).tmod 64),decide (x3<x2)))
else(
some (w64 (x3.tdiv 64),shlI .u64 1 ((IntKind.wrap .u64 x3).tmod 64),false))):Option (Int×Int×Bool)) >>= fun(x4,x5,x6)=>
some (x4,x5,x6)
def F_18(N:Nat)(x1:Zc)(x2:Int)(x3:Int):Option (Zc×Bool):=
F_30 N x1 x2 x3 >>= fun(x4,x5,x6)=>
((if(!x6)=true then(
some true)
else(
idx x1 x4 >>= fun x7=>
some ((iand .u64 x7 x5) != 0))):Option Bool) >>= fun x8=>
if x8=true then(
some (x1,false))
else(
idx x1 x4 >>= fun x9=>
idx x1 x4 >>= fun _x83=>
setI x1 x4 (ior .u64 x9 x5) >>= fun x10=>
some (x10,true))
def F_72(N:Nat)(x1:Zb)(x2:Zc)(x3:Int)(x4:Zc):Option ((Int×Zc) ⊕ Zc):=
if(decide (x3<(x2.length:Int)))=true then(
idx x2 x3 >>= fun x5=>
F_18 N x4 (x1.length:Int) x5 >>= fun(x6,_x276)=>
some (.inl (w64 (x3+1),x6)))
else(
some (.inr x4))
def F_25(N:Nat)(x1:Zb)(_x5:Zc)(_x8:Zc)(x2:Zc):Option (Unit ⊕ Zc):=
F_75 N (x1.length:Int) >>= fun z=>match z with
| .inl _=>(
some (.inl ()))
| .inr x3=>(
((iterO N (fun s=>F_72 N x1 x2 s.1 s.2) (0,x3)):Option Zc) >>= fun x4=>
some (.inr x4))
def F_91(_N:Nat)(x:Zc):Option Zc:=app [] x
def F_106(_N:Nat):Option Unit:=
some ()
def F_107(N:Nat)(x1:Int):Option (Int×Int×Bool):=
((nn ((IntKind.wrap .u64 x1).tmod 64) >>= fun _x26=>
if(decide (x1≥0))=true then(
F_106 N >>= fun _=>
some (w64 (x1.tdiv 64),shlI .u64 1 ((IntKind.wrap .u64 x1).tmod 64),decide (x1<0)))
else(
some (w64 (x1.tdiv 64),shlI .u64 1 ((IntKind.wrap .u64 x1).tmod 64),false))):Option (Int×Int×Bool)) >>= fun(x2,x3,x4)=>
some (x2,x3,x4)
def F_105(N:Nat)(x1:Int):Option Unit:=
F_107 N x1 >>= fun(_x12,_x13,x2)=>
((if(!x2)=true then(
some ())
else(
none)):Option Unit) >>= fun _=>
some ()
def F_118(N:Nat)(x1:Zc):Option (Zc ⊕ Unit):=
if(decide ((x1.length:Int)>0))=true then(
((idx x1 0 >>= fun x2=>
slc x1 1 (x1.length:Int) >>= fun x3=>
F_105 N x2 >>= fun _=>
((some ()):Option Unit) >>= fun _=>
some x3):Option Zc) >>= fun x4=>
some (.inl x4))
else(
some (.inr ()))
def F_47(N:Nat)(x1:Zb)(x2:Zc)(x3:Zc):Option ((Zc×Zc) ⊕ Zc):=
if(decide ((x3.length:Int)>0))=true then(
((idx x3 0 >>= fun x4=>
slc x3 1 (x3.length:Int) >>= fun x5=>
F_18 N x2 (x1.length:Int) x4 >>= fun(x6,x7)=>
((if x7=true then(
idx x1 x4 >>= fun x8=>
app x5 x8 >>= fun x9=>
some x9)
else(
some x5)):Option Zc) >>= fun x10=>
some (x6,x10)):Option (Zc×Zc)) >>= fun(x11,x12)=>
some (.inl (x11,x12)))
else(
some (.inr x2))
def F_17(N:Nat)(x1:Zb)(x2:Zc)(x3:Zc):Option (Unit ⊕ Zc):=
F_25 N x1 x2 x3 ([0]) >>= fun z=>match z with
| .inl _=>(
F_91 N x3 >>= fun x4=>
((iterO N (fun s=>F_118 N s) x4):Option Unit) >>= fun _=>
some (.inl ()))
| .inr x5=>(
F_91 N x3 >>= fun x6=>
((iterO N (fun s=>F_47 N x1 s.1 s.2) (x5,x6)):Option Zc) >>= fun x7=>
some (.inr x7))
def F_20(N:Nat)(x1:Int):Option Unit:=
F_107 N x1 >>= fun(_x12,_x13,x2)=>
((if x2=true then(
none)
else(
some ())):Option Unit) >>= fun _=>
some ()
def F_70(N:Nat)(x1:Int):Option Unit:=
F_20 N x1 >>= fun _=>
some ()
def F_110(N:Nat)(x1:Zc)(x2:Int):Option (Int ⊕ Unit):=
if(decide (x2<(x1.length:Int)))=true then(
idx x1 x2 >>= fun x3=>
F_70 N x3 >>= fun _=>
some (.inl (w64 (x2+1))))
else(
some (.inr ()))
def F_64(N:Nat)(x1:Zc):Option Unit:=
((iterO N (fun s=>F_110 N x1 s) 0):Option Unit) >>= fun _=>
some ()
def F_119(N:Nat)(x1:Zc):Option Unit:=
F_64 N x1 >>= fun _=>
some ()
def F_41(N:Nat)(x1:Zc)(x2:Int)(x3:Int):Option Bool:=
F_30 N x1 x2 x3 >>= fun(x4,x5,x6)=>
((if x6=true then(
idx x1 x4 >>= fun x7=>
some ((iand .u64 x7 x5) != 0))
else(
some false)):Option Bool) >>= fun x8=>
some x8
def F_114(N:Nat)(x1:Int)(x2:Zc)(x3:Int):Option Bool:=
F_41 N x2 x3 x1 >>= fun x4=>
some x4
def F_88(N:Nat)(x1:Zc)(x2:Zc)(x3:Int)(x4:Int):Option (Int ⊕ (Unit ⊕ Int)):=
if(decide (x4<(x1.length:Int)))=true then(
idx x1 x4 >>= fun x5=>
F_114 N x5 x2 x3 >>= fun x6=>
if x6=true then(
some (.inr (.inr x4)))
else(
some (.inl (w64 (x4+1)))))
else(
some (.inr (.inl ())))
def F_32(N:Nat)(x1:Zc)(x2:Zc)(x3:Int):Option Int:=
((iterO N (fun s=>F_88 N x1 x2 x3 s) 0):Option (Unit ⊕ Int)) >>= fun z=>match z with
| .inr z=>some z
| .inl _=>
some (-1)
def F_83(N:Nat)(x1:Zc)(x2:Zc)(x3:Int):Option Bool:=
F_32 N x1 x2 x3 >>= fun x4=>
some (decide (x4≥0))
def F_115(N:Nat)(x1:Zc)(x2:Int):Option (Int ⊕ Unit):=
if(decide (x2<(x1.length:Int)))=true then(
((idx x1 x2 >>= fun x3=>
((if(x3 != (-1))=true then(
F_105 N x2 >>= fun _=>
some ())
else(
some ())):Option Unit) >>= fun _=>
some ()):Option Unit) >>= fun _=>
some (.inl (w64 (x2+1))))
else(
some (.inr ()))
def F_117(N:Nat)(x1:Zb)(x2:Int):Option (Int ⊕ Unit):=
if(decide (x2<(x1.length:Int)))=true then(
((idx x1 x2 >>= fun x3=>
((F_20 N x2 >>= fun _=>
F_119 N x3 >>= fun _=>
some ()):Option Unit) >>= fun _=>
((some ()):Option Unit) >>= fun _=>
some x3):Option Zc) >>= fun _x9323=>
some (.inl (w64 (x2+1))))
else(
some (.inr ()))
def F_116(N:Nat)(x1:Zb)(x2:Bool):Option (Bool ⊕ Unit):=
if x2=true then(
((iterO N (fun s=>F_117 N x1 s) 0):Option Unit) >>= fun _=>
some (.inl false))
else(
some (.inr ()))
def F_45(N:Nat)(x1:Zb)(x2:Zc)(x3:Int)(x4:Zc):Option ((Int×Zc) ⊕ Zc):=
if(decide (x3<(x2.length:Int)))=true then(
((idx x2 x3 >>= fun x5=>
((if(x5 != (-1))=true then(
F_18 N x4 (x1.length:Int) x3 >>= fun(x6,_x9732)=>
some x6)
else(
some x4)):Option Zc) >>= fun x7=>
some x7):Option Zc) >>= fun x8=>
some (.inl (w64 (x3+1),x8)))
else(
some (.inr x4))
def F_46(N:Nat)(x1:Zb)(x2:Zc)(x3:Int)(x4:Bool):Option ((Zc×Int×Bool) ⊕ (Zc×Bool)):=
if(decide (x3<(x1.length:Int)))=true then(
((idx x1 x3 >>= fun x5=>
((F_41 N x2 (x1.length:Int) x3 >>= fun x6=>
if(!x6)=true then(
F_83 N x5 x2 (x1.length:Int) >>= fun x7=>
some x7)
else(
some false)):Option Bool) >>= fun x8=>
((if x8=true then(
F_18 N x2 (x1.length:Int) x3 >>= fun(x9,x10)=>
some (x9,x10))
else(
some (x2,x4))):Option (Zc×Bool)) >>= fun(x11,x12)=>
some (x11,x12)):Option (Zc×Bool)) >>= fun(x13,x14)=>
some (.inl (x13,w64 (x3+1),x14)))
else(
some (.inr (x2,x4)))
def F_71(N:Nat)(x1:Zb)(x2:Zc)(x3:Bool):Option ((Zc×Bool) ⊕ Zc):=
if x3=true then(
((iterO N (fun s=>F_46 N x1 s.1 s.2.1 s.2.2) (x2,0,false)):Option (Zc×Bool)) >>= fun(x4,x5)=>
some (.inl (x4,x5)))
else(
some (.inr x2))
def F_1(N:Nat)(x1:Zb)(x2:Zc)(x3:Zc):Option (Unit ⊕ Zc):=
F_25 N x1 x2 x3 [] >>= fun z=>match z with
| .inl _=>(
((iterO N (fun s=>F_115 N x2 s) 0):Option Unit) >>= fun _=>
((iterO N (fun s=>F_116 N x1 s) true):Option Unit) >>= fun _=>
some (.inl ()))
| .inr x4=>(
((iterO N (fun s=>F_45 N x1 x2 s.1 s.2) (0,x4)):Option Zc) >>= fun x5=>
((iterO N (fun s=>F_71 N x1 s.1 s.2) (x5,true)):Option Zc) >>= fun x6=>
some (.inr x6))
def F_63(_N:Nat):Option Unit:=
some ()
def F_103(N:Nat)(_x53:Int)(x1:Int):Option ((Int×Int) ⊕ Unit):=
F_63 N >>= fun _=>
if(decide (x1<(([]:List Int).length:Int)))=true then(
none)
else(
some (.inr ()))
def F_15(N:Nat)(x1:Int):Option Unit:=
F_106 N >>= fun _=>
if(decide (x1≥0))=true then(
some ())
else(
((iterO N (fun s=>F_103 N s.1 s.2) (w64 ((imax x1 (-1))+1),w64 ((w64 ((imax x1 (-1))+1)).tdiv 64))):Option Unit) >>= fun _=>
some ())
def F_104(_N:Nat):Option (Unit ⊕ Unit):=
some (.inr ())
def F_12(N:Nat):Option Unit:=
F_15 N (-1) >>= fun _=>
((iterO N (fun s=>F_104 N) ()):Option Unit) >>= fun _=>
some ()
def F_108(_N:Nat)(_x3:Zc)(_x6:Int):Option Unit:=
some ()
def F_93(_N:Nat)(x1:Int):Option Int:=
if(x1==0)=true then(
some 64)
else(
idx tab_math_bits_deBruijn64tab (shrI .u64 (IntKind.wrap .u64 ((iand .u64 x1 (IntKind.wrap .u64 (0-x1)))*285870213051353865)) 58) >>= fun x2=>
some (IntKind.wrap .i64 x2))
def F_78(N:Nat)(x1:Zc)(x2:Int)(x3:Int)(x4:Int):Option (Int ⊕ (Unit ⊕ Int)):=
F_108 N x1 x2 >>= fun _=>
if(decide (x4<(x1.length:Int)))=true then(
((idx x1 x4 >>= fun x5=>
((if(x4==(w64 ((w64 ((imax x3 (-1))+1)).tdiv 64)))=true then(
nn ((w64 ((imax x3 (-1))+1)).tmod 64) >>= fun _x490=>
nn ((w64 ((imax x3 (-1))+1)).tmod 64) >>= fun _x491=>
some (shlI .u64 (shrI .u64 x5 ((w64 ((imax x3 (-1))+1)).tmod 64)) ((w64 ((imax x3 (-1))+1)).tmod 64)))
else(
some x5)):Option Int) >>= fun x6=>
if(x6 != 0)=true then(
F_93 N x6 >>= fun x7=>
some (.inr (.inr (.inr (w64 ((w64 (64*x4))+x7))))))
else(
some (.inl ()))):Option (Unit ⊕ (Int ⊕ (Unit ⊕ Int)))) >>= fun z=>match z with
| .inr z=>some z
| .inl _=>
some (.inl (w64 (x4+1))))
else(
some (.inr (.inl ())))
def F_27(N:Nat)(x1:Zc)(x2:Int)(x3:Int):Option Int:=
F_29 N x1 x2 >>= fun _=>
if(decide (x3≥x2))=true then(
some (-1))
else(
((iterO N (fun s=>F_78 N x1 x2 x3 s) (w64 ((w64 ((imax x3 (-1))+1)).tdiv 64))):Option (Unit ⊕ Int)) >>= fun z=>match z with
| .inr z=>some z
| .inl _=>
some (-1))
def F_74(N:Nat)(x1:Zc)(x2:Int)(x3:Zc)(x4:Int):Option ((Zc×Int) ⊕ Zc):=
if(decide (x4≥0))=true then(
app x3 ([x4]) >>= fun x5=>
F_27 N x1 x2 x4 >>= fun x6=>
some (.inl (x5,x6)))
else(
some (.inr x3))
def F_23(N:Nat)(x1:Zc)(x2:Int):Option Zc:=
F_27 N x1 x2 (-1) >>= fun x3=>
((iterO N (fun s=>F_74 N x1 x2 s.1 s.2) ([],x3)):Option Zc) >>= fun x4=>
some x4
def F_111(N:Nat)(x1:Int):Option (Int ⊕ Unit):=
if(decide (x1<(([]:List Int).length:Int)))=true then(
((idx ([]) x1 >>= fun x2=>
((F_20 N x2 >>= fun _=>
some ()):Option Unit) >>= fun _=>
((some ()):Option Unit) >>= fun _=>
some ()):Option Unit) >>= fun _=>
some (.inl (w64 (x1+1))))
else(
some (.inr ()))
def F_112(N:Nat)(x1:Zc)(x2:Int):Option (Int ⊕ Unit):=
if(decide (x2<(x1.length:Int)))=true then(
((idx x1 x2 >>= fun x3=>
((F_20 N x3 >>= fun _=>
some ()):Option Unit) >>= fun _=>
((some ()):Option Unit) >>= fun _=>
some ()):Option Unit) >>= fun _=>
some (.inl (w64 (x2+1))))
else(
some (.inr ()))
def F_113(N:Nat)(x1:Zb)(x2:Zc)(x3:Int)(x4:Zc):Option ((Int×Zc) ⊕ Zc):=
if(decide (x3<(([]:List Int).length:Int)))=true then(
((idx ([]) x3 >>= fun x5=>
((F_41 N x2 (x1.length:Int) x5 >>= fun x6=>
if x6=true then(
some (decide (x5>0)))
else(
some false)):Option Bool) >>= fun x7=>
((if x7=true then(
app x4 ([x5]) >>= fun x8=>
some x8)
else(
some x4)):Option Zc) >>= fun x9=>
some x9):Option Zc) >>= fun x10=>
some (.inl (w64 (x3+1),x10)))
else(
some (.inr x4))
def F_69(N:Nat)(x1:Zb)(x2:Zc)(x3:Zc)(x4:Int)(x5:Zc):Option ((Int×Zc) ⊕ Zc):=
if(decide (x4<(x3.length:Int)))=true then(
((idx x3 x4 >>= fun x6=>
((F_41 N x2 (x1.length:Int) x6 >>= fun x7=>
if x7=true then(
some (decide (x6>0)))
else(
some false)):Option Bool) >>= fun x8=>
((if x8=true then(
app x5 ([x6]) >>= fun x9=>
some x9)
else(
some x5)):Option Zc) >>= fun x10=>
some x10):Option Zc) >>= fun x11=>
some (.inl (w64 (x4+1),x11)))
else(
some (.inr x5))
def F_10(N:Nat)(x1:Zb)(x2:Zc)(x3:Zc):Option Zc:=
F_17 N x1 x2 x3 >>= fun z=>match z with
| .inl _=>(
F_1 N x1 x2 x3 >>= fun z=>match z with
| .inl _=>(
F_12 N >>= fun _=>
((iterO N (fun s=>F_111 N s) 0):Option Unit) >>= fun _=>
some ([0]))
| .inr x4=>(
F_23 N x4 (x1.length:Int) >>= fun x5=>
((iterO N (fun s=>F_112 N x5 s) 0):Option Unit) >>= fun _=>
some ([0])))
| .inr x6=>(
F_1 N x1 x2 x3 >>= fun z=>match z with
| .inl _=>(
F_12 N >>= fun _=>
((iterO N (fun s=>F_113 N x1 x6 s.1 s.2) (0,[0])):Option Zc) >>= fun x7=>
some x7)
| .inr x8=>(
F_23 N x8 (x1.length:Int) >>= fun x9=>
((iterO N (fun s=>F_69 N x1 x6 x9 s.1 s.2) (0,[0])):Option Zc) >>= fun x10=>
some x10))
def F_66(_N:Nat)(x1:Zc)(x2:Int)(x3:Zc):Option ((Int×Zc) ⊕ Zc):=
if(decide (x2<(x1.length:Int)))=true then(
idx x1 x2 >>= fun x4=>
idx x3 x4 >>= fun _x1919=>
setI x3 x4 x2 >>= fun x5=>
some (.inl (w64 (x2+1),x5)))
else(
some (.inr x3))
def F_44(_N:Nat)(x1:Zc)(x2:Zc)(x3:Zc)(x4:Int):Option ((Zc×Int) ⊕ Zc):=
if(decide (x4<256))=true then(
idx x2 x4 >>= fun x5=>
idx x1 x5 >>= fun x6=>
idx x3 x4 >>= fun _x3137=>
setI x3 x4 x6 >>= fun x7=>
some (.inl (x7,w64 (x4+1))))
else(
some (.inr x3))
def F_67(N:Nat)(x1:Zb)(x2:Zc)(x3:Zc)(x4:Zc)(x5:Int)(x6:Zb)(x7:Zc):Option ((Int×Zb×Zc) ⊕ (Zb×Zc)):=
if(decide (x5<(x3.length:Int)))=true then(
idx x3 x5 >>= fun x8=>
idx x1 x8 >>= fun x9=>
((iterO N (fun s=>F_44 N x4 x9 s.1 s.2) (x9,0)):Option Zc) >>= fun x10=>
app x6 ([x10]) >>= fun x11=>
((idx x2 x8 >>= fun x12=>
app x7 ([x12]) >>= fun x13=>
some x13):Option Zc) >>= fun x14=>
some (.inl (w64 (x5+1),x11,x14)))
else(
some (.inr (x6,x7)))
def F_68(_N:Nat)(x1:Zc)(x2:Zc)(x3:Zc)(x4:Int):Option ((Zc×Int) ⊕ Zc):=
if(decide (x4<(x1.length:Int)))=true then(
idx x1 x4 >>= fun x5=>
((idx x2 x5 >>= fun x6=>
app x3 ([x6]) >>= fun x7=>
some x7):Option Zc) >>= fun x8=>
some (.inl (x8,w64 (x4+1))))
else(
some (.inr x3))
def F_4(N:Nat)(x1:Zb)(x2:Zc)(x3:Zc):Option (Zb×Zc×Zc):=
F_6 N x1 x2 x3 >>= fun x4=>
if(!x4)=true then(
some ([],[],[]))
else(
F_10 N x1 x2 x3 >>= fun x5=>
mk 0 (x1.length:Int) >>= fun x6=>
((iterO N (fun s=>F_66 N x5 s.1 s.2) (0,x6)):Option Zc) >>= fun x7=>
((iterO N (fun s=>F_67 N x1 x2 x5 x7 s.1 s.2.1 s.2.2) (0,[],[])):Option (Zb×Zc)) >>= fun(x8,x9)=>
((iterO N (fun s=>F_68 N x3 x7 s.1 s.2) ([],0)):Option Zc) >>= fun x10=>
some (x8,x9,x10))
def F_58(_N:Nat)(x1:Int)(x2:(List (Int×Int)))(x3:Int):Option (((List (Int×Int))×Int) ⊕ (List (Int×Int))):=
if(decide (x3<256))=true then(
app x2 ([(x1,IntKind.wrap .u8 x3)]) >>= fun x4=>
some (.inl (x4,w64 (x3+1))))
else(
some (.inr x2))
def F_19(N:Nat)(_x3:Zb)(_x6:Zc)(_x9:Zc)(_x13:(List Zb))(_x16:Zc)(_x21:Zb)(x1:(List (Int×Int)))(x2:Int):Option (List (Int×Int)):=
((iterO N (fun s=>F_58 N x2 s.1 s.2) (x1,0)):Option (List (Int×Int))) >>= fun x3=>
some x3
def F_56(_N:Nat)(x1:Int)(x2:Zc)(x3:(List Zb))(x4:Int):Option (((List Zb)×Int) ⊕ (List Zb)):=
if(decide (x4<256))=true then(
idx x2 x4 >>= fun x5=>
((idx x3 x5 >>= fun x6=>
idx x6 x4 >>= fun x7=>
idx x3 x5 >>= fun x8=>
app x7 ([x1]) >>= fun x9=>
setI x8 x4 x9 >>= fun x10=>
setI x3 x5 x10 >>= fun x11=>
some x11):Option (List Zb)) >>= fun x12=>
some (.inl (x12,w64 (x4+1))))
else(
some (.inr x3))
def F_39(N:Nat)(x1:Zb)(x2:Zc)(x3:(List Zb))(x4:Zc)(x5:Zb)(x6:(List (Int×Int)))(x7:Int):Option (((List Zb)×Zc×Zb×(List (Int×Int))×Int) ⊕ ((List Zb)×Zc×Zb)):=
if(decide (x7<(x1.length:Int)))=true then(
((idx x1 x7 >>= fun x8=>
((iterO N (fun s=>F_56 N x7 x8 s.1 s.2) (x3,0)):Option (List Zb)) >>= fun x9=>
idx x2 x7 >>= fun x10=>
((if(!((mget x6 x10).isSome))=true then(
idx x2 x7 >>= fun x11=>
app x5 ([[]]) >>= fun x12=>
some (x12,(mset x6 x11 (x5.length:Int)),(x5.length:Int)))
else(
some (x5,x6,(mget x6 x10).getD 0))):Option (Zb×(List (Int×Int))×Int)) >>= fun(x13,x14,x15)=>
idx x4 x7 >>= fun _x19294=>
setI x4 x7 x15 >>= fun x16=>
((idx x13 x15 >>= fun x17=>
app x17 ([x7]) >>= fun x18=>
setI x13 x15 x18 >>= fun x19=>
some x19):Option Zb) >>= fun x20=>
some (x9,x16,x20,x14)):Option ((List Zb)×Zc×Zb×(List (Int×Int)))) >>= fun(x21,x22,x23,x24)=>
some (.inl (x21,x22,x23,x24,w64 (x7+1))))
else(
some (.inr (x3,x4,x5)))
def F_57(N:Nat)(x1:Zb)(x2:Zc)(x3:Zc)(x4:(List Zb))(x5:Zc)(x6:Zb)(x7:(List (Int×Int)))(x8:Int):Option (((List (Int×Int))×Int) ⊕ (List (Int×Int))):=
if(decide (x8<(x6.length:Int)))=true then(
F_19 N x1 x2 x3 x4 x5 x6 x7 x8 >>= fun x9=>
some (.inl (x9,w64 (x8+1))))
else(
some (.inr x7))
def F_8(N:Nat)(x1:Zb)(x2:Zc)(x3:Zc)(_x13:(List Zb))(_x16:Zc)(x4:Zb)(x5:(List (Int×Int))):Option ((List Zb)×Zc×Zb×(List (Int×Int))):=
mk (List.replicate 256 []) (x1.length:Int) >>= fun x6=>
mk 0 (x1.length:Int) >>= fun x7=>
((iterO N (fun s=>F_39 N x1 x2 s.1 s.2.1 s.2.2.1 s.2.2.2.1 s.2.2.2.2) (x6,x7,x4,([]:List (Int×Int)),0)):Option ((List Zb)×Zc×Zb)) >>= fun(x8,x9,x10)=>
((iterO N (fun s=>F_57 N x1 x2 x3 x8 x9 x10 s.1 s.2) (x5,0)):Option (List (Int×Int))) >>= fun x11=>
some (x8,x9,x10,x11)
def F_89(_N:Nat)(x1:Zc)(x2:Int)(x3:Int):Option (Int ⊕ (Unit ⊕ Int)):=
if(decide (x3<(x1.length:Int)))=true then(
idx x1 x3 >>= fun x4=>
if(x2==x4)=true then(
some (.inr (.inr x3)))
else(
some (.inl (w64 (x3+1)))))
else(
some (.inr (.inl ())))
def F_34(N:Nat)(x1:Zc)(x2:Int):Option Int:=
((iterO N (fun s=>F_89 N x1 x2 s) 0):Option (Unit ⊕ Int)) >>= fun z=>match z with
| .inr z=>some z
| .inl _=>
some (-1)
def F_84(N:Nat)(x1:Zc)(x2:Int):Option Bool:=
F_34 N x1 x2 >>= fun x3=>
some (decide (x3≥0))
def F_35(N:Nat)(x1:Zc)(x2:Zc)(x3:Int)(x4:Zc)(x5:Zc):Option ((Int×Zc×Zc) ⊕ (Zc×Zc)):=
if(decide (x3<(x2.length:Int)))=true then(
((idx x2 x3 >>= fun x6=>
F_84 N x1 x6 >>= fun x7=>
((if x7=true then(
app x4 ([x6]) >>= fun x8=>
some (x8,x5))
else(
app x5 ([x6]) >>= fun x9=>
some (x4,x9))):Option (Zc×Zc)) >>= fun(x10,x11)=>
some (x10,x11)):Option (Zc×Zc)) >>= fun(x12,x13)=>
some (.inl (w64 (x3+1),x12,x13)))
else(
some (.inr (x4,x5)))
def F_40(_N:Nat)(x1:Zb)(x2:Zc)(x3:Zc)(x4:Int):Option ((Zc×Int) ⊕ Zc):=
if(decide (x4<(x2.length:Int)))=true then(
idx x2 x4 >>= fun x5=>
idx x3 x5 >>= fun _x1875=>
setI x3 x5 (x1.length:Int) >>= fun x6=>
some (.inl (x6,w64 (x4+1))))
else(
some (.inr x3))
def F_11(N:Nat)(x1:Zb)(x2:Zc)(x3:Zc)(x4:(List Zb))(x5:Zc)(x6:Zb)(x7:(List (Int×Int)))(x8:Int)(x9:Zc):Option (Zc×Zb×(List (Int×Int))):=
idx x6 x8 >>= fun x10=>
((iterO N (fun s=>F_35 N x9 x10 s.1 s.2.1 s.2.2) (0,[],[])):Option (Zc×Zc)) >>= fun(x11,x12)=>
((if((x11.length:Int)==0)=true then(
some true)
else(
some ((x12.length:Int)==0))):Option Bool) >>= fun x13=>
if x13=true then(
some (x5,x6,x7))
else(
((if(decide ((x11.length:Int)<(x12.length:Int)))=true then(
some (x12,x11))
else(
some (x11,x12))):Option (Zc×Zc)) >>= fun(x14,x15)=>
idx x6 x8 >>= fun _x1733=>
setI x6 x8 x14 >>= fun x16=>
app x16 ([x15]) >>= fun x17=>
((iterO N (fun s=>F_40 N x6 x15 s.1 s.2) (x5,0)):Option Zc) >>= fun x18=>
F_19 N x1 x2 x3 x4 x18 x17 x7 (x6.length:Int) >>= fun x19=>
some (x18,x17,x19))
def F_60(_N:Nat)(x1:(List Zb))(x2:Int)(x3:Zc)(x4:Zc)(x5:Int):Option ((Zc×Int) ⊕ Zc):=
if(decide (x5<(x3.length:Int)))=true then(
idx x3 x5 >>= fun x6=>
((idx x1 x6 >>= fun x7=>
idx x7 x2 >>= fun x8=>
app x4 x8 >>= fun x9=>
some x9):Option Zc) >>= fun x10=>
some (.inl (x10,w64 (x5+1))))
else(
some (.inr x4))
def F_61(N:Nat)(x1:Zc)(x2:Zc)(x3:Zc)(x4:Int):Option ((Zc×Int) ⊕ Zc):=
if(decide (x4<(x2.length:Int)))=true then(
((idx x2 x4 >>= fun x5=>
idx x1 x5 >>= fun x6=>
F_84 N x3 x6 >>= fun x7=>
((if(!x7)=true then(
app x3 ([x6]) >>= fun x8=>
some x8)
else(
some x3)):Option Zc) >>= fun x9=>
some x9):Option Zc) >>= fun x10=>
some (.inl (x10,w64 (x4+1))))
else(
some (.inr x3))
def F_62(N:Nat)(x1:Zb)(x2:Zc)(x3:Zc)(x4:(List Zb))(x5:Zc)(x6:Zc)(x7:Zc)(x8:Zb)(x9:(List (Int×Int)))(x10:Int):Option ((Zc×Zb×(List (Int×Int))×Int) ⊕ (Zc×Zb×(List (Int×Int)))):=
if(decide (x10<(x6.length:Int)))=true then(
idx x6 x10 >>= fun x11=>
F_11 N x1 x2 x3 x4 x7 x8 x9 x11 x5 >>= fun(x12,x13,x14)=>
some (.inl (x12,x13,x14,w64 (x10+1))))
else(
some (.inr (x7,x8,x9)))
def F_59(N:Nat)(x1:Zb)(x2:Zc)(x3:Zc)(x4:(List Zb))(x5:Zc)(x6:Zb)(x7:(List (Int×Int))):Option ((Zc×Zb×(List (Int×Int))) ⊕ (Zc×Zb×(List (Int×Int)))):=
if(decide ((x7.length:Int)>0))=true then(
((idx x7 (w64 ((x7.length:Int)-1)) >>= fun x8=>
some (x8.1,x8.2)):Option (Int×Int)) >>= fun(x9,x10)=>
((slc x7 0 (w64 ((x7.length:Int)-1)) >>= fun x11=>
some x11):Option (List (Int×Int))) >>= fun x12=>
idx x6 x9 >>= fun x13=>
((iterO N (fun s=>F_60 N x4 x10 x13 s.1 s.2) ([],0)):Option Zc) >>= fun x14=>
((iterO N (fun s=>F_61 N x5 x14 s.1 s.2) ([],0)):Option Zc) >>= fun x15=>
((iterO N (fun s=>F_62 N x1 x2 x3 x4 x14 x15 s.1 s.2.1 s.2.2.1 s.2.2.2) (x5,x6,x12,0)):Option (Zc×Zb×(List (Int×Int)))) >>= fun(x16,x17,x18)=>
some (.inl (x16,x17,x18)))
else(
some (.inr (x5,x6,x7)))
def F_5(N:Nat)(x1:Zb)(x2:Zc)(x3:Zc)(x4:(List Zb))(x5:Zc)(x6:Zb)(x7:(List (Int×Int))):Option (Zc×Zb×(List (Int×Int))):=
((iterO N (fun s=>F_59 N x1 x2 x3 x4 s.1 s.2.1 s.2.2) (x5,x6,x7)):Option (Zc×Zb×(List (Int×Int)))) >>= fun(x8,x9,x10)=>
some (x8,x9,x10)
def F_38(_N:Nat)(x1:Zc)(x2:Int)(x3:(List (Int×Int)))(x4:Zc):Option ((Int×(List (Int×Int))×Zc) ⊕ ((List (Int×Int))×Zc)):=
if(decide (x2<(x1.length:Int)))=true then(
((idx x1 x2 >>= fun x5=>
((if(!((mget x3 x5).isSome))=true then(
some (mset x3 x5 (x3.length:Int)))
else(
some x3)):Option (List (Int×Int))) >>= fun x6=>
app x4 ([(mget x6 x5).getD 0]) >>= fun x7=>
some (x6,x7)):Option ((List (Int×Int))×Zc)) >>= fun(x8,x9)=>
some (.inl (w64 (x2+1),x8,x9)))
else(
some (.inr (x3,x4)))
def F_22(N:Nat)(x1:Zb)(x2:Zc)(x3:Zc):Option (Zc×Int):=
F_8 N x1 x2 x3 ([]) ([]) ([]) ([]) >>= fun(x4,x5,x6,x7)=>
F_5 N x1 x2 x3 x4 x5 x6 x7 >>= fun(x8,_x415,_x416)=>
((iterO N (fun s=>F_38 N x8 s.1 s.2.1 s.2.2) (0,([]:List (Int×Int)),[])):Option ((List (Int×Int))×Zc)) >>= fun(x9,x10)=>
some (x10,(x9.length:Int))
def F_37(_N:Nat)(x1:Zc)(x2:Int)(x3:Zc)(x4:Int)(x5:Zb):Option ((Int×Zb) ⊕ Zb):=
if(decide (x4<256))=true then(
idx x3 x4 >>= fun x6=>
((idx x1 x6 >>= fun x7=>
idx x5 x2 >>= fun x8=>
idx x8 x4 >>= fun _x5098=>
setI x8 x4 x7 >>= fun x9=>
setI x5 x2 x9 >>= fun x10=>
some x10):Option Zb) >>= fun x11=>
some (.inl (w64 (x4+1),x11)))
else(
some (.inr x5))
def F_54(N:Nat)(x1:Zb)(x2:Zc)(x3:Zc)(x4:Int)(x5:Zb)(x6:Zc):Option ((Int×Zb×Zc) ⊕ (Zb×Zc)):=
if(decide (x4<(x3.length:Int)))=true then(
idx x3 x4 >>= fun x7=>
idx x1 x4 >>= fun x8=>
((iterO N (fun s=>F_37 N x3 x7 x8 s.1 s.2) (0,x5)):Option Zb) >>= fun x9=>
((idx x2 x4 >>= fun x10=>
idx x6 x7 >>= fun _x5135=>
setI x6 x7 x10 >>= fun x11=>
some x11):Option Zc) >>= fun x12=>
some (.inl (w64 (x4+1),x9,x12)))
else(
some (.inr (x5,x6)))
def F_55(_N:Nat)(x1:Zc)(x2:Zc)(x3:Zc)(x4:Int):Option ((Zc×Int) ⊕ Zc):=
if(decide (x4<(x1.length:Int)))=true then(
idx x1 x4 >>= fun x5=>
((idx x2 x5 >>= fun x6=>
app x3 ([x6]) >>= fun x7=>
some x7):Option Zc) >>= fun x8=>
some (.inl (x8,w64 (x4+1))))
else(
some (.inr x3))
def F_7(N:Nat)(x1:Zb)(x2:Zc)(x3:Zc):Option (Zb×Zc×Zc):=
F_6 N x1 x2 x3 >>= fun x4=>
if(!x4)=true then(
some ([],[],[]))
else(
F_22 N x1 x2 x3 >>= fun(x5,x6)=>
((mk (List.replicate 256 0) x6 >>= fun x7=>
mk 0 x6 >>= fun x8=>
some (x7,x8)):Option (Zb×Zc)) >>= fun(x9,x10)=>
((iterO N (fun s=>F_54 N x1 x2 x5 s.1 s.2.1 s.2.2) (0,x9,x10)):Option (Zb×Zc)) >>= fun(x11,x12)=>
((iterO N (fun s=>F_55 N x3 x5 s.1 s.2) ([],0)):Option Zc) >>= fun x13=>
some (x11,x12,x13))
def F_73(N:Nat)(x1:Zb)(x2:Zc)(x3:Zc):Option (Zb×Zc×Zc):=
F_4 N x1 x2 x3 >>= fun(x4,x5,x6)=>
F_7 N x4 x5 x6 >>= fun(x7,x8,x9)=>
some (x7,x8,x9)
def F_51(N:Nat)(x1:Zc)(x2:Int)(x3:Zc)(x4:Zc)(x5:Int):Option ((Zc×Zc×Int) ⊕ (Zc×Zc)):=
if(decide (x5<(x1.length:Int)))=true then(
((idx x1 x5 >>= fun x6=>
F_18 N x3 x2 x6 >>= fun(x7,x8)=>
((if x8=true then(
app x4 ([x6]) >>= fun x9=>
some x9)
else(
some x4)):Option Zc) >>= fun x10=>
some (x7,x10)):Option (Zc×Zc)) >>= fun(x11,x12)=>
some (.inl (x11,x12,w64 (x5+1))))
else(
some (.inr (x3,x4)))
def F_21(N:Nat)(x1:Zc)(x2:Zc)(x3:Int)(x4:Zc):Option (Zc×Zc):=
((iterO N (fun s=>F_51 N x1 x3 s.1 s.2.1 s.2.2) (x2,x4,0)):Option (Zc×Zc)) >>= fun(x5,x6)=>
some (x5,x6)
def F_52(N:Nat)(x1:Zb)(x2:Zc)(x3:Zc)(x4:Int):Option ((Zc×Zc×Int) ⊕ Zc):=
if(decide (x4<(x2.length:Int)))=true then(
idx x2 x4 >>= fun x5=>
idx x1 x5 >>= fun x6=>
F_21 N x6 x3 (x1.length:Int) x2 >>= fun(x7,x8)=>
some (.inl (x8,x7,w64 (x4+1))))
else(
some (.inr x2))
def F_9(N:Nat)(x1:Zb)(_x5:Zc)(x2:Zc):Option Zc:=
F_75 N (x1.length:Int) >>= fun z=>match z with
| .inl _=>(
some ([]))
| .inr x3=>(
F_18 N x3 (x1.length:Int) 0 >>= fun(x4,_x278)=>
F_21 N x2 x4 (x1.length:Int) ([0]) >>= fun(x5,x6)=>
((iterO N (fun s=>F_52 N x1 s.1 s.2.1 s.2.2) (x6,x5,1)):Option Zc) >>= fun x7=>
some x7)
def F_101(N:Nat)(x1:Zb)(x2:Zc)(x3:Zc):Option Zc:=
F_6 N x1 x2 x3 >>= fun x4=>
if(!x4)=true then(
some ([]))
else(
F_9 N x1 x2 x3 >>= fun x5=>
some x5)
def F_48(_N:Nat)(x1:Zc)(x2:Int)(x3:Zc):Option ((Int×Zc) ⊕ Zc):=
if(decide (x2<(x1.length:Int)))=true then(
idx x1 x2 >>= fun x4=>
idx x3 x4 >>= fun _x1912=>
setI x3 x4 x2 >>= fun x5=>
some (.inl (w64 (x2+1),x5)))
else(
some (.inr x3))
def F_36(_N:Nat)(x1:Zc)(x2:Zc)(x3:Zc)(x4:Int):Option ((Zc×Int) ⊕ Zc):=
if(decide (x4<256))=true then(
idx x2 x4 >>= fun x5=>
idx x1 x5 >>= fun x6=>
idx x3 x4 >>= fun _x3128=>
setI x3 x4 x6 >>= fun x7=>
some (.inl (x7,w64 (x4+1))))
else(
some (.inr x3))
def F_49(N:Nat)(x1:Zb)(x2:Zc)(x3:Zc)(x4:Zc)(x5:Zb)(x6:Zc)(x7:Int):Option ((Zb×Zc×Int) ⊕ (Zb×Zc)):=
if(decide (x7<(x3.length:Int)))=true then(
idx x3 x7 >>= fun x8=>
idx x1 x8 >>= fun x9=>
((iterO N (fun s=>F_36 N x4 x9 s.1 s.2) (x9,0)):Option Zc) >>= fun x10=>
app x5 ([x10]) >>= fun x11=>
((idx x2 x8 >>= fun x12=>
app x6 ([x12]) >>= fun x13=>
some x13):Option Zc) >>= fun x14=>
some (.inl (x11,x14,w64 (x7+1))))
else(
some (.inr (x5,x6)))
def F_50(_N:Nat)(x1:Zc)(x2:Zc)(x3:Zc)(x4:Int):Option ((Zc×Int) ⊕ Zc):=
if(decide (x4<(x1.length:Int)))=true then(
idx x1 x4 >>= fun x5=>
((idx x2 x5 >>= fun x6=>
app x3 ([x6]) >>= fun x7=>
some x7):Option Zc) >>= fun x8=>
some (.inl (x8,w64 (x4+1))))
else(
some (.inr x3))
def F_3(N:Nat)(x1:Zb)(x2:Zc)(x3:Zc):Option (Zb×Zc×Zc):=
F_101 N x1 x2 x3 >>= fun x4=>
mk 0 (x1.length:Int) >>= fun x5=>
((iterO N (fun s=>F_48 N x4 s.1 s.2) (0,x5)):Option Zc) >>= fun x6=>
((iterO N (fun s=>F_49 N x1 x2 x4 x6 s.1 s.2.1 s.2.2) ([],[],0)):Option (Zb×Zc)) >>= fun(x7,x8)=>
if((x4.length:Int)==0)=true then(
some (x7,x8,[]))
else(
((iterO N (fun s=>F_50 N x3 x6 s.1 s.2) ([],0)):Option Zc) >>= fun x9=>
some (x7,x8,x9))
def F_86(_N:Nat)(x1:Zb)(x2:Zb)(x3:Int):Option (Int ⊕ (Unit ⊕ Bool)):=
if(decide (x3<(x1.length:Int)))=true then(
idx x1 x3 >>= fun x4=>
idx x2 x3 >>= fun x5=>
if(x4 != x5)=true then(
some (.inr (.inr false)))
else(
some (.inl (w64 (x3+1)))))
else(
some (.inr (.inl ())))
def F_28(N:Nat)(x1:Zb)(x2:Zb):Option Bool:=
if((x1.length:Int) != (x2.length:Int))=true then(
some false)
else(
((iterO N (fun s=>F_86 N x1 x2 s) 0):Option (Unit ⊕ Bool)) >>= fun z=>match z with
| .inr z=>some z
| .inl _=>
some true)
def F_85(_N:Nat)(x1:Zc)(x2:Zc)(x3:Int):Option (Int ⊕ (Unit ⊕ Bool)):=
if(decide (x3<(x1.length:Int)))=true then(
idx x1 x3 >>= fun x4=>
idx x2 x3 >>= fun x5=>
if(x4 != x5)=true then(
some (.inr (.inr false)))
else(
some (.inl (w64 (x3+1)))))
else(
some (.inr (.inl ())))
def F_26(N:Nat)(x1:Zc)(x2:Zc):Option Bool:=
if((x1.length:Int) != (x2.length:Int))=true then(
some false)
else(
((iterO N (fun s=>F_85 N x1 x2 s) 0):Option (Unit ⊕ Bool)) >>= fun z=>match z with
| .inr z=>some z
| .inl _=>
some true)
def F_100(N:Nat)(x1:Zb)(x2:Zc)(x3:Zc)(x4:Zb)(x5:Zc)(x6:Zc):Option Bool:=
((F_28 N x1 x4 >>= fun x7=>
if x7=true then(
F_26 N x2 x5 >>= fun x8=>
if x8=true then(
F_26 N x3 x6 >>= fun x9=>
some x9)
else(
some false))
else(
some false)):Option Bool) >>= fun x10=>
some x10
def F_79(N:Nat)(x1:Zb)(x2:Zc)(x3:Zc)(x4:Zb)(x5:Zc)(x6:Zc):Option Bool:=
F_16 N x1 x2 x3 x4 x5 x6 >>= fun z=>match z with
| .inl _=>(
((F_77 N x1 x2 x3 x4 x5 x6 >>= fun x7=>
some x7):Option Bool) >>= fun x8=>
some x8)
| .inr (_x62,_x63,_x64,_x65)=>(
((some ()):Option Unit) >>= fun _=>
some false)
def F_97(_N:Nat)(_x2:Zb)(_x5:Zc)(x1:Zc)(x2:Int):Option Int:=
((if(decide (x2<0))=true then(
some true)
else(
some (decide (x2≥(x1.length:Int))))):Option Bool) >>= fun x3=>
if x3=true then(
some 0)
else(
idx x1 x2 >>= fun x4=>
some x4)
def F_98(_N:Nat)(x1:Zb)(_x5:Zc)(_x8:Zc)(x2:Int)(x3:Int):Option Int:=
((if(decide (x2<0))=true then(
some true)
else(
some (decide (x2≥(x1.length:Int))))):Option Bool) >>= fun x4=>
if x4=true then(
some 0)
else(
idx x1 x2 >>= fun x5=>
idx x5 x3 >>= fun x6=>
some x6)
def F_65(N:Nat)(x1:Zb)(x2:Zc)(x3:Zc)(x4:Zc)(x5:Int)(x6:Int):Option ((Int×Int) ⊕ Int):=
if(decide (x5<(x4.length:Int)))=true then(
idx x4 x5 >>= fun x7=>
F_98 N x1 x2 x3 x6 x7 >>= fun x8=>
some (.inl (w64 (x5+1),x8)))
else(
some (.inr x6))
def F_24(N:Nat)(x1:Zb)(x2:Zc)(x3:Zc)(x4:Int)(x5:Zc):Option Int:=
F_6 N x1 x2 x3 >>= fun x6=>
if(!x6)=true then(
some (-1))
else(
F_97 N x1 x2 x3 x4 >>= fun x7=>
((iterO N (fun s=>F_65 N x1 x2 x3 x5 s.1 s.2) (0,x7)):Option Int) >>= fun x8=>
idx x2 x8 >>= fun x9=>
some x9)
def F_53(N:Nat)(x1:Zb)(x2:Zc)(x3:Zc)(x4:Zb)(x5:Zc)(x6:Zc):Option Bool:=
F_92 N >>= fun x7=>
if(!x7)=true then(
some false)
else(
((if(decide ((x1.length:Int)>12))=true then(
some true)
else(
if(decide ((x4.length:Int)>12))=true then(
some true)
else(
F_6 N x1 x2 x3 >>= fun x8=>
if(!x8)=true then(
some true)
else(
F_6 N x4 x5 x6 >>= fun x9=>
if(!x9)=true then(
some true)
else(
some ((x3.length:Int) != (x6.length:Int))))))):Option Bool) >>= fun x10=>
if x10=true then(
some true)
else(
F_73 N x1 x2 x3 >>= fun(x11,x12,x13)=>
F_3 N x11 x12 x13 >>= fun(x14,x15,x16)=>
F_73 N x4 x5 x6 >>= fun(x17,x18,x19)=>
F_3 N x17 x18 x19 >>= fun(x20,x21,x22)=>
F_100 N x14 x15 x16 x20 x21 x22 >>= fun x23=>
F_16 N x1 x2 x3 x4 x5 x6 >>= fun z=>match z with
| .inl _=>(
((some ()):Option Unit) >>= fun _=>
((F_79 N x1 x2 x3 x4 x5 x6 >>= fun x24=>
if(x24==x23)=true then(
some (false==(!x23)))
else(
some false)):Option Bool) >>= fun x25=>
some x25)
| .inr (x26,x27,x28,x29)=>(
((F_24 N x1 x2 x3 x26 x27 >>= fun x30=>
if(x30 != x28)=true then(
some true)
else(
F_24 N x4 x5 x6 x26 x27 >>= fun x31=>
if(x31 != x29)=true then(
some true)
else(
some (x28==x29)))):Option Bool) >>= fun x32=>
if x32=true then(
some false)
else(
((F_79 N x1 x2 x3 x4 x5 x6 >>= fun x33=>
if(x33==x23)=true then(
some (true==(!x23)))
else(
some false)):Option Bool) >>= fun x34=>
some x34))))
end Go.Proofs.YtchjfkdljnmmgaaGreatDoor
