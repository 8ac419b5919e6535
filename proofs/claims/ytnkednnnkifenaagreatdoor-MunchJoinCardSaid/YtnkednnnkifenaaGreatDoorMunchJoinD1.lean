import Derived.Test.YtnkednnnkifenaaGreatDoorMunchJoinE2
namespace Go.Proofs.YtnkednnnkifenaaGreatDoor
open Go Go.Eng
set_option maxRecDepth 100000
abbrev Zc:=List Int
abbrev Zd:=Int×Int×Int×Int
def tab_math_bits_deBruijn64tab:List Int:=[0,1,56,2,57,49,28,3,61,58,42,50,38,29,17,4,62,47,59,36,45,43,51,22,53,39,33,30,24,18,12,5,63,55,48,27,60,41,37,16,46,35,44,21,52,32,23,11,54,26,40,15,34,20,31,10,25,14,19,9,13,8,7,6]
def errIds:List Nat:=[0,1,2,3,4,5,6,7,8,12,14]
def F_12(_N:Nat)(_x1:BA)(_x2:Int):Option Unit:=
some ()
def F_109(N:Nat)(x1:BA):Option Unit:=
F_12 N x1 0 >>= fun _=>
some ()
def F_65(_N:Nat)(x1:BA):Option Bool:=
((if(decide ((x1.size:Int)≥1))=true then(
sslc x1 0 1 >>= fun x2=>
some (x2.toList==(⟨#[35]⟩:BA).toList))
else(
some false)):Option Bool) >>= fun x3=>
some x3
def F_49(N:Nat)(x1:BA):Option Bool:=
F_65 N x1 >>= fun x2=>
some x2
def F_22(_N:Nat)(x1:BA)(_x3:Int)(x2:Int):Option BA:=
sslc x1 x2 (x1.size:Int) >>= fun x3=>
some x3
def F_4(_N:Nat)(x1:BA)(x2:Int):Option Int:=
some (sfind x1 x2)
def F_1(N:Nat)(x1:BA):Option Int:=
((some ((⟨#[32]⟩:BA).toList==x1.toList)):Option Bool) >>= fun x2=>
if x2=true then(
some 0)
else(
F_4 N x1 32 >>= fun x3=>
some x3)
def F_141(N:Nat)(x1:BA):Option (BA×BA×Bool):=
F_1 N x1 >>= fun x2=>
if(decide (x2≥0))=true then(
sslc x1 0 x2 >>= fun x3=>
sslc x1 (w64 (x2+1)) (x1.size:Int) >>= fun x4=>
some (x3,x4,true))
else(
some (x1,ByteArray.empty,false))
def F_107(N:Nat)(x1:BA):Option (BA×BA×Bool):=
F_141 N x1 >>= fun(x2,x3,x4)=>
some (x2,x3,x4)
def F_48(N:Nat)(x1:BA)(x2:Int)(x3:Int):Option (Int×BA):=
F_22 N x1 x2 x3 >>= fun x4=>
F_107 N x4 >>= fun(x5,_x25,_x26)=>
some (w64 (x3+(x5.size:Int)),x5)
def F_5(_N:Nat)(_x2:BA)(_x3:Int)(_x4:Int)(_x5:Int):Option Unit:=
((some ()):Option Unit) >>= fun _=>
some ()
def F_142(_N:Nat)(x1:BA):Option Bool:=
((if(decide ((x1.size:Int)≥1))=true then(
sslc x1 0 1 >>= fun x2=>
some (x2.toList==(⟨#[32]⟩:BA).toList))
else(
some false)):Option Bool) >>= fun x3=>
some x3
def F_108(N:Nat)(x1:BA):Option Bool:=
F_142 N x1 >>= fun x2=>
some x2
def F_100(_N:Nat)(_x2:BA)(_x3:Int)(_x4:Int)(_x5:Int):Option Unit:=
((some ()):Option Unit) >>= fun _=>
some ()
def F_43(N:Nat)(x1:BA)(x2:Int)(x3:Int):Option (Int×Int×Bool):=
if(x3==(x1.size:Int))=true then(
F_5 N x1 x2 x3 x3 >>= fun _=>
some (x3,4,false))
else(
F_22 N x1 x2 x3 >>= fun x4=>
F_108 N x4 >>= fun x5=>
if(!x5)=true then(
F_100 N x1 x2 x3 x3 >>= fun _=>
some (x3,1,false))
else(
some (w64 (x3+1),0,true)))
def F_47(_N:Nat)(x1:BA)(_x3:Int)(x2:Int)(_x5:Int):Option BA:=
sslc x1 x2 (x1.size:Int) >>= fun x3=>
some x3
def F_102(N:Nat)(x1:BA)(x2:Int)(x3:Int)(x4:Int):Option (Int×BA):=
F_47 N x1 x2 x3 x4 >>= fun x5=>
F_107 N x5 >>= fun(x6,_x26,_x27)=>
some (w64 (x3+(x6.size:Int)),x6)
def F_111(_N:Nat)(x1:BA)(x2:Int):Option (Int ⊕ (Unit ⊕ Bool)):=
if(decide (x2<(x1.size:Int)))=true then(
((sidx x1 x2 >>= fun x3=>
if(decide (x3≥97))=true then(
sidx x1 x2 >>= fun x4=>
some (decide (x4≤122)))
else(
some false)):Option Bool) >>= fun x5=>
((if(!x5)=true then(
if(x2==0)=true then(
some true)
else(
sidx x1 x2 >>= fun x6=>
if(decide (x6<48))=true then(
some true)
else(
sidx x1 x2 >>= fun x7=>
some (decide (x7>57)))))
else(
some false)):Option Bool) >>= fun x8=>
if x8=true then(
some (.inr (.inr false)))
else(
some (.inl (w64 (x2+1)))))
else(
some (.inr (.inl ())))
def F_18(N:Nat)(x1:BA):Option Bool:=
((iterO N (fun s=>F_111 N x1 s) 0):Option (Unit ⊕ Bool)) >>= fun z=>match z with
| .inr z=>some z
| .inl _=>
((if(x1.toList != ByteArray.empty.toList)=true then(
some (decide ((x1.size:Int)≤12)))
else(
some false)):Option Bool) >>= fun x2=>
some x2
def F_101(_N:Nat)(_x2:BA)(_x3:Int)(x1:Int)(x2:Int)(x3:Int):Option (Int×Int):=
((if(!(eOk errIds x2))=true then(
some (x3,6))
else(
some (x1,x2))):Option (Int×Int)) >>= fun(x4,x5)=>
some (x4,x5)
def F_161(N:Nat)(x1:BA)(x2:Int)(x3:Int):Option (Int×Int×BA×Int):=
F_43 N x1 x2 x3 >>= fun(x4,x5,x6)=>
if(!x6)=true then(
some (x4,x5,ByteArray.empty,0))
else(
F_102 N x1 x2 x4 x5 >>= fun(x7,x8)=>
F_18 N x8 >>= fun x9=>
((if(!x9)=true then(
F_101 N x1 x2 x7 x5 x4 >>= fun(x10,x11)=>
some (x10,x11))
else(
some (x7,x5))):Option (Int×Int)) >>= fun(x12,x13)=>
some (x12,x13,x8,x4))
def F_217(_N:Nat)(_x2:BA)(_x3:Int)(x1:Int)(x2:Int)(x3:Int):Option (Int×Int):=
((if(!(eOk errIds x2))=true then(
some (x3,5))
else(
some (x1,x2))):Option (Int×Int)) >>= fun(x4,x5)=>
some (x4,x5)
def F_162(N:Nat)(x1:BA)(x2:Int)(x3:Int)(x4:Int):Option (Int×Int):=
((if(!(eOk errIds x4))=true then(
some (decide (x3<(x1.size:Int))))
else(
some false)):Option Bool) >>= fun x5=>
((if x5=true then(
F_217 N x1 x2 x3 x4 x3 >>= fun(x6,x7)=>
some (x6,x7))
else(
some (x3,x4))):Option (Int×Int)) >>= fun(x8,x9)=>
some (x8,x9)
def F_77(_N:Nat)(x1:(List BA))(x2:BA)(x3:Int):Option (Int ⊕ (Unit ⊕ Int)):=
if(decide (x3<(x1.length:Int)))=true then(
idx x1 x3 >>= fun x4=>
if(x2.toList==x4.toList)=true then(
some (.inr (.inr x3)))
else(
some (.inl (w64 (x3+1)))))
else(
some (.inr (.inl ())))
def F_23(N:Nat)(x1:(List BA))(x2:BA):Option Int:=
((iterO N (fun s=>F_77 N x1 x2 s) 0):Option (Unit ⊕ Int)) >>= fun z=>match z with
| .inr z=>some z
| .inl _=>
some (-1)
def F_45(N:Nat)(x1:(List BA))(x2:BA):Option Bool:=
F_23 N x1 x2 >>= fun x3=>
some (decide (x3≥0))
def F_84(_N:Nat)(_x2:BA)(_x3:Int)(x1:Int)(x2:Int)(x3:Int):Option (Int×Int):=
((if(!(eOk errIds x2))=true then(
some (x3,7))
else(
some (x1,x2))):Option (Int×Int)) >>= fun(x4,x5)=>
some (x4,x5)
def F_158(_N:Nat)(_x2:BA)(_x3:Int)(x1:Int)(x2:Int)(x3:Int):Option (Int×Int):=
((if(!(eOk errIds x2))=true then(
some (x3,13))
else(
some (x1,x2))):Option (Int×Int)) >>= fun(x4,x5)=>
some (x4,x5)
def F_85(N:Nat)(x1:BA)(x2:Int)(x3:Int)(x4:Int)(x5:Int)(x6:Bool)(x7:Int)(x8:Int):Option (Int×Int×Bool):=
((((if(eOk errIds x4)=true then(
some (x3,x4))
else(
((if x6=true then(
F_84 N x1 x2 x3 x4 x5 >>= fun(x9,x10)=>
some (x9,x10))
else(
((if(decide (x7≥x8))=true then(
F_158 N x1 x2 x3 x4 x5 >>= fun(x11,x12)=>
some (x11,x12))
else(
some (x3,x4))):Option (Int×Int)) >>= fun(x13,x14)=>
some (x13,x14))):Option (Int×Int)) >>= fun(x15,x16)=>
some (x15,x16))):Option (Int×Int)) >>= fun(x17,x18)=>
some (x17,x18)):Option (Int×Int)) >>= fun(x19,x20)=>
some (x19,x20, !(eOk errIds x20))
def F_213(N:Nat)(x1:(List BA))(x2:(List (BA×Nd×Int)))(x3:(List ((List BA)×Nd×(BA×BA)×Int)))(x4:BA)(x5:Int)(x6:Int):Option ((List BA)×(List (BA×Nd×Int))×(List ((List BA)×Nd×(BA×BA)×Int))×Int×Int):=
F_161 N x4 x5 x6 >>= fun(x7,x8,x9,x10)=>
F_162 N x4 x5 x7 x8 >>= fun(x11,x12)=>
F_45 N x1 x9 >>= fun x13=>
F_85 N x4 x5 x11 x12 x10 x13 (x1.length:Int) 8 >>= fun(x14,x15,x16)=>
((if x16=true then(
app x1 ([x9]) >>= fun x17=>
some x17)
else(
some x1)):Option (List BA)) >>= fun x18=>
some (x18,x2,x3,x14,x15)
def F_159(_N:Nat)(_x2:BA)(_x3:Int)(x1:Int)(x2:Int)(x3:Int):Option (Int×Int):=
((if(!(eOk errIds x2))=true then(
some (x3,4))
else(
some (x1,x2))):Option (Int×Int)) >>= fun(x4,x5)=>
some (x4,x5)
def F_160(_N:Nat)(_x2:BA)(_x3:Int)(x1:Int)(x2:Int)(x3:Int):Option (Int×Int):=
((if(!(eOk errIds x2))=true then(
some (x3,1))
else(
some (x1,x2))):Option (Int×Int)) >>= fun(x4,x5)=>
some (x4,x5)
def F_156(N:Nat)(x1:BA)(x2:Int)(x3:Int)(x4:Int):Option (Int×Int×Bool):=
if(eOk errIds x4)=true then(
some (x3,x4,false))
else(
if(x3==(x1.size:Int))=true then(
F_159 N x1 x2 x3 x4 x3 >>= fun(x5,x6)=>
some (x5,x6,false))
else(
F_47 N x1 x2 x3 x4 >>= fun x7=>
F_108 N x7 >>= fun x8=>
if(!x8)=true then(
F_160 N x1 x2 x3 x4 x3 >>= fun(x9,x10)=>
some (x9,x10,false))
else(
some (w64 (x3+1),x4,true))))
def F_267(_N:Nat)(x1:BA)(x2:Int):Option (Int ⊕ (Unit ⊕ Int)):=
if(decide (x2<(x1.size:Int)))=true then(
((sidx x1 x2 >>= fun x3=>
((((if(x3==92)=true then(
some (.inl (w64 (x2+1))))
else(
if(x3==47)=true then(
some (.inr (.inr (.inr (.inr (.inr x2))))))
else(
some (.inl x2)))):Option (Int ⊕ (Int ⊕ (Int ⊕ (Int ⊕ (Unit ⊕ Int)))))) >>= fun z=>match z with
| .inr z=>some z
| .inl x4=>
some (.inl x4)):Option (Int ⊕ (Int ⊕ (Int ⊕ (Unit ⊕ Int))))) >>= fun z=>match z with
| .inr z=>some z
| .inl x5=>
some (.inl x5)):Option (Int ⊕ (Int ⊕ (Unit ⊕ Int)))) >>= fun z=>match z with
| .inr z=>some z
| .inl x6=>
some (.inl (w64 (x6+1))))
else(
some (.inr (.inl ())))
def F_99(N:Nat)(x1:BA):Option Int:=
((iterO N (fun s=>F_267 N x1 s) 0):Option (Unit ⊕ Int)) >>= fun z=>match z with
| .inr z=>some z
| .inl _=>
some (-1)
def F_21(_N:Nat)(x1:BA)(x2:Int)(x3:Int):Option Bool:=
((if(!(eOk errIds x3))=true then(
some (decide (x2<(x1.size:Int))))
else(
some false)):Option Bool) >>= fun x4=>
some x4
def F_16(_N:Nat)(x1:Int):Option Int:=
some (sfind (⟨#[124,41]⟩:BA) x1)
def F_6(N:Nat)(x1:Int):Option Int:=
F_16 N x1 >>= fun x2=>
some x2
def F_3(N:Nat)(x1:BA)(x2:Int)(x3:Int):Option Bool:=
((F_21 N x1 x2 x3 >>= fun x4=>
if x4=true then(
sidx x1 x2 >>= fun x5=>
F_6 N x5 >>= fun x6=>
some (decide (x6≥0)))
else(
some false)):Option Bool) >>= fun x7=>
some x7
def F_258(_N:Nat)(x1:Int):Option Int:=
some (sfind (⟨#[40]⟩:BA) x1)
def F_15(N:Nat)(x1:Int):Option Int:=
F_258 N x1 >>= fun x2=>
some x2
def F_17(N:Nat)(x1:BA)(x2:Int)(x3:Int):Option Bool:=
((F_21 N x1 x2 x3 >>= fun x4=>
if x4=true then(
sidx x1 x2 >>= fun x5=>
F_15 N x5 >>= fun x6=>
some (decide (x6≥0)))
else(
some false)):Option Bool) >>= fun x7=>
some x7
def F_9(N:Nat)(x1:BA)(x2:Int)(x3:Int):Option (Int×Bool):=
F_17 N x1 x2 x3 >>= fun x4=>
if(!x4)=true then(
some (x2,false))
else(
some (w64 (x2+1),true))
def F_259(_N:Nat)(x1:Int):Option Int:=
some (sfind (⟨#[91]⟩:BA) x1)
def F_280(N:Nat)(x1:Int):Option Int:=
F_259 N x1 >>= fun x2=>
some x2
def F_199(N:Nat)(x1:BA)(x2:Int)(x3:Int):Option Bool:=
((F_21 N x1 x2 x3 >>= fun x4=>
if x4=true then(
sidx x1 x2 >>= fun x5=>
F_280 N x5 >>= fun x6=>
some (decide (x6≥0)))
else(
some false)):Option Bool) >>= fun x7=>
some x7
def F_115(_N:Nat)(x1:BA)(x2:Int):Option Bool:=
((if(decide (x2<0))=true then(
some true)
else(
some (decide (x2≥(x1.size:Int))))):Option Bool) >>= fun x3=>
some x3
def F_137(_N:Nat)(x1:BA)(x2:Int):Option Int:=
((if(decide (x2<0))=true then(
some true)
else(
some (decide (x2≥(x1.size:Int))))):Option Bool) >>= fun x3=>
if x3=true then(
some 0)
else(
sidx x1 x2 >>= fun x4=>
some x4)
def F_92(N:Nat)(x1:BA)(x2:Int)(x3:Int):Option (Int×Bool):=
((F_115 N x1 x2 >>= fun x4=>
if x4=true then(
some true)
else(
F_137 N x1 x2 >>= fun x5=>
some (x5 != x3))):Option Bool) >>= fun x6=>
if x6=true then(
some (x2,false))
else(
some (w64 (x2+1),true))
def F_231(_N:Nat)(x1:Int):Option Int:=
some (sfind (⟨#[91,93,45,47]⟩:BA) x1)
def F_242(N:Nat)(x1:Int):Option Int:=
F_231 N x1 >>= fun x2=>
some x2
def F_232(_N:Nat)(x1:Int):Option Int:=
some (sfind (⟨#[110,116,114,115]⟩:BA) x1)
def F_243(N:Nat)(x1:Int):Option Int:=
F_232 N x1 >>= fun x2=>
some x2
def F_233(_N:Nat)(x1:Int):Option Int:=
some (sfind (⟨#[48,49,50,51,52,53,54,55,56,57,97,98,99,100,101,102]⟩:BA) x1)
def F_244(N:Nat)(x1:Int):Option Int:=
F_233 N x1 >>= fun x2=>
some x2
def F_223(N:Nat)(x1:Int):Option (Int×Bool):=
((if(decide (x1≥65))=true then(
some (decide (x1≤70)))
else(
some false)):Option Bool) >>= fun x2=>
((if x2=true then(
some (IntKind.wrap .u8 (x1+32)))
else(
some x1)):Option Int) >>= fun x3=>
F_244 N x3 >>= fun x4=>
some (x4,decide (x4≥0))
def F_271(N:Nat)(x1:BA)(x2:Int)(x3:Int)(x4:Int):Option ((Int×Int×Int) ⊕ ((Int×Int) ⊕ (Int×Int×Int))):=
if(decide (x3<2))=true then(
if(decide (x2≥(x1.size:Int)))=true then(
some (.inr (.inr (0,x2,4))))
else(
sidx x1 x2 >>= fun x5=>
F_223 N x5 >>= fun(x6,x7)=>
if(!x7)=true then(
some (.inr (.inr (0,x2,1))))
else(
some (.inl (w64 (x2+1),w64 (x3+1),w64 ((w64 (16*x4))+x6))))))
else(
some (.inr (.inl (x2,x4))))
def F_106(N:Nat)(x1:BA)(x2:Int):Option (Int×Int×Int):=
((iterO N (fun s=>F_271 N x1 s.1 s.2.1 s.2.2) (x2,0,0)):Option ((Int×Int) ⊕ (Int×Int×Int))) >>= fun z=>match z with
| .inr z=>some z
| .inl (x3,x4)=>
some (IntKind.wrap .u8 x4,x3,0)
def F_224(_N:Nat)(x1:Int):Option Bool:=
((if(decide (x1≥97))=true then(
if(decide (x1≤122))=true then(
some true)
else(
if(decide (x1≥65))=true then(
if(decide (x1≤90))=true then(
some true)
else(
if(decide (x1≥48))=true then(
some (decide (x1≤57)))
else(
some false)))
else(
if(decide (x1≥48))=true then(
some (decide (x1≤57)))
else(
some false))))
else(
if(decide (x1≥65))=true then(
if(decide (x1≤90))=true then(
some true)
else(
if(decide (x1≥48))=true then(
some (decide (x1≤57)))
else(
some false)))
else(
if(decide (x1≥48))=true then(
some (decide (x1≤57)))
else(
some false)))):Option Bool) >>= fun x2=>
((if(decide (x1≥33))=true then(
if(decide (x1≤126))=true then(
some (!x2))
else(
some false))
else(
some false)):Option Bool) >>= fun x3=>
some x3
def F_170(N:Nat)(x1:BA)(x2:Int):Option (Int×Int×Int):=
((if(decide (x2<0))=true then(
some true)
else(
some (decide (x2≥(x1.size:Int))))):Option Bool) >>= fun x3=>
if x3=true then(
some (0,(x1.size:Int),4))
else(
sidx x1 x2 >>= fun x4=>
if(x4 != 92)=true then(
sidx x1 x2 >>= fun x5=>
some (x5,w64 (x2+1),0))
else(
if(decide ((w64 (x2+1))≥(x1.size:Int)))=true then(
some (0,(x1.size:Int),4))
else(
sidx x1 (w64 (x2+1)) >>= fun x6=>
F_243 N x6 >>= fun x7=>
if(decide (x7≥0))=true then(
sidx (⟨#[10,9,13,32]⟩:BA) x7 >>= fun x8=>
some (x8,w64 (x2+2),0))
else(
if(x6==120)=true then(
F_106 N x1 (w64 (x2+2)) >>= fun(x9,x10,x11)=>
some (x9,x10,x11))
else(
F_224 N x6 >>= fun x12=>
if x12=true then(
some (x6,w64 (x2+2),0))
else(
some (0,w64 (x2+1),1)))))))
def F_138(N:Nat)(x1:BA)(x2:Int):Option (Int×Int×Int):=
((F_115 N x1 x2 >>= fun x3=>
if(!x3)=true then(
F_137 N x1 x2 >>= fun x4=>
F_242 N x4 >>= fun x5=>
some (decide (x5≥0)))
else(
some false)):Option Bool) >>= fun x6=>
if x6=true then(
some (x2,0,1))
else(
F_170 N x1 x2 >>= fun(x7,x8,x9)=>
some (x8,x7,x9))
def F_129(_N:Nat)(x1:Int):Option Zd:=
nn (x1.tmod 64) >>= fun _x20=>
idx ([0,0,0,0]:List Int) (IntKind.wrap .u8 (x1.tdiv 64)) >>= fun _x21=>
setI [0,0,0,0] (IntKind.wrap .u8 (x1.tdiv 64)) (shlI .u64 1 (x1.tmod 64)) >>= fun x2=>
some (x2.getD 0 0,x2.getD 1 0,x2.getD 2 0,x2.getD 3 0)
def F_165(_N:Nat)(x1:Int):Option Int:=
if(decide (x1≥64))=true then(
some 18446744073709551615)
else(
nn (imax x1 0) >>= fun _x4=>
some (IntKind.wrap .u64 ((shlI .u64 1 (imax x1 0))-1)))
def F_269(N:Nat)(x1:Int)(x2:Int)(x3:Int)(x4:Int)(x5:Int)(x6:Int)(x7:Int):Option ((Int×Int×Int×Int×Int) ⊕ Zd):=
if(decide (x3<4))=true then(
F_165 N (w64 ((w64 ((IntKind.wrap .i64 x2)+1))-(w64 (64*x3)))) >>= fun x8=>
F_165 N (w64 ((IntKind.wrap .i64 x1)-(w64 (64*x3)))) >>= fun x9=>
idx [x4,x5,x6,x7] x3 >>= fun _x297=>
setI [x4,x5,x6,x7] x3 (iandn .u64 x8 x9) >>= fun x10=>
some (.inl (w64 (x3+1),x10.getD 0 0,x10.getD 1 0,x10.getD 2 0,x10.getD 3 0)))
else(
some (.inr (x4,x5,x6,x7)))
def F_104(N:Nat)(x1:Int)(x2:Int):Option Zd:=
if(decide (x1>x2))=true then(
some (0,0,0,0))
else(
((iterO N (fun s=>F_269 N x1 x2 s.1 s.2.1 s.2.2.1 s.2.2.2.1 s.2.2.2.2) (0,0,0,0,0)):Option Zd) >>= fun(x3,x4,x5,x6)=>
some (x3,x4,x5,x6))
def F_177(N:Nat)(x1:BA)(x2:Int):Option (Int×Int×Int×Int×Int×Int):=
F_138 N x1 x2 >>= fun(x3,x4,x5)=>
((if(eOk errIds x5)=true then(
some (x3,true))
else(
F_92 N x1 x3 45 >>= fun(x6,x7)=>
some (x6, !x7))):Option (Int×Bool)) >>= fun(x8,x9)=>
if x9=true then(
F_129 N x4 >>= fun(x10,x11,x12,x13)=>
some (x8,x10,x11,x12,x13,x5))
else(
F_138 N x1 x8 >>= fun(x14,x15,x16)=>
if(eOk errIds x16)=true then(
some (x14,0,0,0,0,x16))
else(
if(decide (x15<x4))=true then(
((some ()):Option Unit) >>= fun _=>
some (x8,0,0,0,0,3))
else(
F_104 N x4 x15 >>= fun(x17,x18,x19,x20)=>
some (x14,x17,x18,x19,x20,0))))
def F_164(_N:Nat)(x1:Int)(x2:Int)(x3:Int)(x4:Int)(x5:Int)(x6:Int)(x7:Int)(x8:Int)(x9:Int):Option ((Int×Int×Int×Int×Int) ⊕ Zd):=
if(decide (x9<4))=true then(
((idx [x5,x6,x7,x8] x9 >>= fun x10=>
idx [x1,x2,x3,x4] x9 >>= fun x11=>
idx [x5,x6,x7,x8] x9 >>= fun _x408=>
setI [x5,x6,x7,x8] x9 (ior .u64 x10 x11) >>= fun x12=>
some (x12.getD 0 0,x12.getD 1 0,x12.getD 2 0,x12.getD 3 0)):Option Zd) >>= fun(x13,x14,x15,x16)=>
some (.inl (x13,x14,x15,x16,w64 (x9+1))))
else(
some (.inr (x5,x6,x7,x8)))
def F_20(N:Nat)(x1:Int)(x2:Int)(x3:Int)(x4:Int)(x5:Int)(x6:Int)(x7:Int)(x8:Int):Option Zd:=
((iterO N (fun s=>F_164 N x5 x6 x7 x8 s.1 s.2.1 s.2.2.1 s.2.2.2.1 s.2.2.2.2) (x1,x2,x3,x4,0)):Option Zd) >>= fun(x9,x10,x11,x12)=>
some (x9,x10,x11,x12)
def F_268(_N:Nat)(x1:Int)(x2:Int)(x3:Int)(x4:Int)(x5:Int):Option ((Int×Int×Int×Int×Int) ⊕ Zd):=
if(decide (x5<4))=true then(
idx [x1,x2,x3,x4] x5 >>= fun x6=>
idx [x1,x2,x3,x4] x5 >>= fun _x193=>
setI [x1,x2,x3,x4] x5 (inv .u64 x6) >>= fun x7=>
some (.inl (x7.getD 0 0,x7.getD 1 0,x7.getD 2 0,x7.getD 3 0,w64 (x5+1))))
else(
some (.inr (x1,x2,x3,x4)))
def F_86(N:Nat)(x1:Int)(x2:Int)(x3:Int)(x4:Int):Option Zd:=
((iterO N (fun s=>F_268 N s.1 s.2.1 s.2.2.1 s.2.2.2.1 s.2.2.2.2) (x1,x2,x3,x4,0)):Option Zd) >>= fun(x5,x6,x7,x8)=>
some (x5,x6,x7,x8)
def F_249(N:Nat)(x1:BA)(x2:Int)(x3:Int)(x4:Int)(x5:Int)(x6:Int)(x7:Bool):Option ((Int×Int×Int×Int×Int×Bool) ⊕ ((Int×Int×Int×Int×Int) ⊕ (Int×Int×Int×Int×Int×Int))):=
((if x7=true then(
some (x2,true))
else(
F_92 N x1 x2 93 >>= fun(x8,x9)=>
some (x8, !x9))):Option (Int×Bool)) >>= fun(x10,x11)=>
if x11=true then(
F_177 N x1 x10 >>= fun(x12,x13,x14,x15,x16,x17)=>
if(eOk errIds x17)=true then(
some (.inr (.inr (x12,0,0,0,0,x17))))
else(
F_20 N x3 x4 x5 x6 x13 x14 x15 x16 >>= fun(x18,x19,x20,x21)=>
some (.inl (x12,x18,x19,x20,x21,false))))
else(
some (.inr (.inl (x10,x3,x4,x5,x6))))
def F_114(N:Nat)(x1:BA)(x2:Int):Option (Int×Int×Int×Int×Int×Int):=
F_115 N x1 x2 >>= fun x3=>
if x3=true then(
((some ()):Option Unit) >>= fun _=>
some ((x1.size:Int),0,0,0,0,4))
else(
F_92 N x1 x2 91 >>= fun(x4,x5)=>
if(!x5)=true then(
((some ()):Option Unit) >>= fun _=>
some (x4,0,0,0,0,1))
else(
F_92 N x1 x4 94 >>= fun(x6,x7)=>
((iterO N (fun s=>F_249 N x1 s.1 s.2.1 s.2.2.1 s.2.2.2.1 s.2.2.2.2.1 s.2.2.2.2.2) (x6,0,0,0,0,true)):Option ((Int×Int×Int×Int×Int) ⊕ (Int×Int×Int×Int×Int×Int))) >>= fun z=>match z with
| .inr z=>some z
| .inl (x8,x9,x10,x11,x12)=>
((if x7=true then(
F_86 N x9 x10 x11 x12 >>= fun(x13,x14,x15,x16)=>
some (x13,x14,x15,x16))
else(
some (x9,x10,x11,x12))):Option Zd) >>= fun(x17,x18,x19,x20)=>
some (x8,x17,x18,x19,x20,0)))
def F_176(N:Nat)(x1:BA)(x2:Int):Option (Int×Int×Int×Int×Int×Int):=
F_114 N x1 x2 >>= fun(x3,x4,x5,x6,x7,x8)=>
((some ()):Option Unit) >>= fun _=>
some (x4,x5,x6,x7,x3,x8)
def F_10(_N:Nat)(_x2:BA)(x1:Int)(x2:Int)(x3:Int)(x4:Int):Option (Int×Int):=
((if(!(eOk errIds x2))=true then(
some (x3,x4))
else(
some (x1,x2))):Option (Int×Int)) >>= fun(x5,x6)=>
some (x5,x6)
def F_186(_N:Nat)(_x1:Int)(_x2:Int)(_x3:Int)(_x4:Int):Option Unit:=
some ()
def F_260(_N:Nat)(x1:Int):Option Int:=
some (sfind (⟨#[123]⟩:BA) x1)
def F_281(N:Nat)(x1:Int):Option Int:=
F_260 N x1 >>= fun x2=>
some x2
def F_153(N:Nat)(x1:BA)(x2:Int)(x3:Int):Option Bool:=
((F_21 N x1 x2 x3 >>= fun x4=>
if x4=true then(
sidx x1 x2 >>= fun x5=>
F_281 N x5 >>= fun x6=>
some (decide (x6≥0)))
else(
some false)):Option Bool) >>= fun x7=>
some x7
def F_245(N:Nat)(x1:BA)(x2:Int):Option Int:=
F_4 N x1 x2 >>= fun x3=>
some x3
def F_120(_N:Nat)(_x2:BA)(x1:Int)(x2:Int)(x3:Int):Option (Int×Int):=
((if(!(eOk errIds x2))=true then(
some (x3,4))
else(
some (x1,x2))):Option (Int×Int)) >>= fun(x4,x5)=>
some (x4,x5)
def F_191(_N:Nat)(_x2:BA)(x1:Int)(x2:Int)(x3:Int):Option (Int×Int):=
((if(!(eOk errIds x2))=true then(
some (x3,6))
else(
some (x1,x2))):Option (Int×Int)) >>= fun(x4,x5)=>
some (x4,x5)
def F_194(N:Nat)(x1:BA)(x2:Int)(x3:Int):Option (Int×Int×Int×BA):=
sslc x1 (w64 (x2+1)) (x1.size:Int) >>= fun x4=>
F_245 N x4 125 >>= fun x5=>
if(decide (x5<0))=true then(
F_120 N x1 x2 x3 (x1.size:Int) >>= fun(x6,x7)=>
some (x6,x7,0,ByteArray.empty))
else(
sslc x1 (w64 (x2+1)) (w64 ((w64 (x2+1))+x5)) >>= fun x8=>
F_18 N x8 >>= fun x9=>
if(!x9)=true then(
F_191 N x1 x2 x3 (w64 (x2+1)) >>= fun(x10,x11)=>
some (x10,x11,0,ByteArray.empty))
else(
sslc x1 (w64 (x2+1)) (w64 ((w64 (x2+1))+x5)) >>= fun x12=>
some (w64 ((w64 ((w64 (x2+1))+x5))+1),x3,5,x12)))
def F_261(_N:Nat)(x1:Int):Option Int:=
some (sfind (⟨#[46]⟩:BA) x1)
def F_282(N:Nat)(x1:Int):Option Int:=
F_261 N x1 >>= fun x2=>
some x2
def F_200(N:Nat)(x1:BA)(x2:Int)(x3:Int):Option Bool:=
((F_21 N x1 x2 x3 >>= fun x4=>
if x4=true then(
sidx x1 x2 >>= fun x5=>
F_282 N x5 >>= fun x6=>
some (decide (x6≥0)))
else(
some false)):Option Bool) >>= fun x7=>
some x7
def F_205(N:Nat)(x1:BA)(x2:Int)(x3:Int):Option (Int×Bool):=
F_200 N x1 x2 x3 >>= fun x4=>
if(!x4)=true then(
some (x2,false))
else(
some (w64 (x2+1),true))
def F_229(N:Nat):Option Zd:=
F_129 N 10 >>= fun(x1,x2,x3,x4)=>
F_86 N x1 x2 x3 x4 >>= fun(x5,x6,x7,x8)=>
some (x5,x6,x7,x8)
def F_262(_N:Nat)(x1:Int):Option Int:=
some (sfind (⟨#[42,43,63,93,125,47]⟩:BA) x1)
def F_283(N:Nat)(x1:Int):Option Int:=
F_262 N x1 >>= fun x2=>
some x2
def F_201(N:Nat)(x1:BA)(x2:Int)(x3:Int):Option Bool:=
((F_21 N x1 x2 x3 >>= fun x4=>
if x4=true then(
sidx x1 x2 >>= fun x5=>
F_283 N x5 >>= fun x6=>
some (decide (x6≥0)))
else(
some false)):Option Bool) >>= fun x7=>
some x7
def F_121(_N:Nat)(_x2:BA)(x1:Int)(x2:Int)(x3:Int):Option (Int×Int):=
((if(!(eOk errIds x2))=true then(
some (x3,1))
else(
some (x1,x2))):Option (Int×Int)) >>= fun(x4,x5)=>
some (x4,x5)
def F_250(_N:Nat)(x1:Int):Option Int:=
some (sfind (⟨#[42]⟩:BA) x1)
def F_273(N:Nat)(x1:Int):Option Int:=
F_250 N x1 >>= fun x2=>
some x2
def F_202(N:Nat)(x1:BA)(x2:Int)(x3:Int):Option Bool:=
((F_21 N x1 x2 x3 >>= fun x4=>
if x4=true then(
sidx x1 x2 >>= fun x5=>
F_273 N x5 >>= fun x6=>
some (decide (x6≥0)))
else(
some false)):Option Bool) >>= fun x7=>
some x7
def F_206(N:Nat)(x1:BA)(x2:Int)(x3:Int):Option (Int×Bool):=
F_202 N x1 x2 x3 >>= fun x4=>
if(!x4)=true then(
some (x2,false))
else(
some (w64 (x2+1),true))
def F_251(_N:Nat)(x1:Int):Option Int:=
some (sfind (⟨#[43]⟩:BA) x1)
def F_274(N:Nat)(x1:Int):Option Int:=
F_251 N x1 >>= fun x2=>
some x2
def F_203(N:Nat)(x1:BA)(x2:Int)(x3:Int):Option Bool:=
((F_21 N x1 x2 x3 >>= fun x4=>
if x4=true then(
sidx x1 x2 >>= fun x5=>
F_274 N x5 >>= fun x6=>
some (decide (x6≥0)))
else(
some false)):Option Bool) >>= fun x7=>
some x7
def F_207(N:Nat)(x1:BA)(x2:Int)(x3:Int):Option (Int×Bool):=
F_203 N x1 x2 x3 >>= fun x4=>
if(!x4)=true then(
some (x2,false))
else(
some (w64 (x2+1),true))
def F_252(_N:Nat)(x1:Int):Option Int:=
some (sfind (⟨#[63]⟩:BA) x1)
def F_275(N:Nat)(x1:Int):Option Int:=
F_252 N x1 >>= fun x2=>
some x2
def F_204(N:Nat)(x1:BA)(x2:Int)(x3:Int):Option Bool:=
((F_21 N x1 x2 x3 >>= fun x4=>
if x4=true then(
sidx x1 x2 >>= fun x5=>
F_275 N x5 >>= fun x6=>
some (decide (x6≥0)))
else(
some false)):Option Bool) >>= fun x7=>
some x7
def F_208(N:Nat)(x1:BA)(x2:Int)(x3:Int):Option (Int×Bool):=
F_204 N x1 x2 x3 >>= fun x4=>
if(!x4)=true then(
some (x2,false))
else(
some (w64 (x2+1),true))
def F_253(_N:Nat)(x1:Int):Option Int:=
some (sfind (⟨#[48,49,50,51,52,53,54,55,56,57]⟩:BA) x1)
def F_241(N:Nat)(x1:Int):Option Int:=
F_253 N x1 >>= fun x2=>
some x2
def F_189(N:Nat)(x1:BA)(x2:Int)(x3:Int):Option Bool:=
((F_153 N x1 x2 x3 >>= fun x4=>
if x4=true then(
if(decide ((w64 (x2+1))<(x1.size:Int)))=true then(
sidx x1 (w64 (x2+1)) >>= fun x5=>
F_241 N x5 >>= fun x6=>
some (decide (x6≥0)))
else(
some false))
else(
some false)):Option Bool) >>= fun x7=>
some x7
def F_154(N:Nat)(x1:BA)(x2:Int)(x3:Int):Option Bool:=
((F_21 N x1 x2 x3 >>= fun x4=>
if x4=true then(
sidx x1 x2 >>= fun x5=>
F_241 N x5 >>= fun x6=>
some (decide (x6≥0)))
else(
some false)):Option Bool) >>= fun x7=>
some x7
def F_122(_N:Nat)(_x2:BA)(x1:Int)(x2:Int)(x3:Int):Option (Int×Int):=
((if(!(eOk errIds x2))=true then(
some (x3,3))
else(
some (x1,x2))):Option (Int×Int)) >>= fun(x4,x5)=>
some (x4,x5)
def F_265(N:Nat)(x1:BA)(x2:Int)(x3:Int)(x4:Int)(x5:Int):Option ((Int×Int) ⊕ ((Int×Int) ⊕ (Int×Int×Int))):=
F_154 N x1 x4 x3 >>= fun x6=>
if x6=true then(
if((w64 (x4-x2))==2)=true then(
F_122 N x1 x4 x3 x2 >>= fun(x7,x8)=>
some (.inr (.inr (x7,x8,0))))
else(
sidx x1 x4 >>= fun x9=>
some (.inl (w64 (x4+1),w64 ((w64 (10*x5))+(IntKind.wrap .i64 (IntKind.wrap .u8 (x9-48))))))))
else(
some (.inr (.inl (x4,x5))))
def F_82(N:Nat)(x1:BA)(x2:Int)(x3:Int):Option (Int×Int×Int):=
((iterO N (fun s=>F_265 N x1 x2 x3 s.1 s.2) (x2,0)):Option ((Int×Int) ⊕ (Int×Int×Int))) >>= fun z=>match z with
| .inr z=>some z
| .inl (x4,x5)=>
((if(decide (x5>40))=true then(
F_122 N x1 x4 x3 x2 >>= fun(x6,x7)=>
some (x6,x7))
else(
some (x4,x3))):Option (Int×Int)) >>= fun(x8,x9)=>
some (x8,x9,x5)
def F_254(_N:Nat)(x1:Int):Option Int:=
some (sfind (⟨#[44]⟩:BA) x1)
def F_276(N:Nat)(x1:Int):Option Int:=
F_254 N x1 >>= fun x2=>
some x2
def F_195(N:Nat)(x1:BA)(x2:Int)(x3:Int):Option Bool:=
((F_21 N x1 x2 x3 >>= fun x4=>
if x4=true then(
sidx x1 x2 >>= fun x5=>
F_276 N x5 >>= fun x6=>
some (decide (x6≥0)))
else(
some false)):Option Bool) >>= fun x7=>
some x7
def F_209(N:Nat)(x1:BA)(x2:Int)(x3:Int):Option (Int×Bool):=
F_195 N x1 x2 x3 >>= fun x4=>
if(!x4)=true then(
some (x2,false))
else(
some (w64 (x2+1),true))
def F_255(_N:Nat)(x1:Int):Option Int:=
some (sfind (⟨#[125]⟩:BA) x1)
def F_277(N:Nat)(x1:Int):Option Int:=
F_255 N x1 >>= fun x2=>
some x2
def F_196(N:Nat)(x1:BA)(x2:Int)(x3:Int):Option Bool:=
((F_21 N x1 x2 x3 >>= fun x4=>
if x4=true then(
sidx x1 x2 >>= fun x5=>
F_277 N x5 >>= fun x6=>
some (decide (x6≥0)))
else(
some false)):Option Bool) >>= fun x7=>
some x7
def F_210(N:Nat)(x1:BA)(x2:Int)(x3:Int):Option (Int×Bool):=
F_196 N x1 x2 x3 >>= fun x4=>
if(!x4)=true then(
some (x2,false))
else(
some (w64 (x2+1),true))
def F_190(N:Nat)(x1:BA)(x2:Int)(x3:Int):Option Zd:=
F_82 N x1 (w64 (x2+1)) x3 >>= fun(x4,x5,x6)=>
F_209 N x1 x4 x5 >>= fun(x7,x8)=>
((if x8=true then(
F_154 N x1 x7 x5 >>= fun x9=>
((if x9=true then(
F_82 N x1 x7 x5 >>= fun(x10,x11,x12)=>
some (x10,x11,x7,x12))
else(
some (x7,x5,w64 (x2+1),(-1)))):Option Zd) >>= fun(x13,x14,x15,x16)=>
some (x13,x14,x15,x16))
else(
some (x7,x5,w64 (x2+1),x6))):Option Zd) >>= fun(x17,x18,x19,x20)=>
((((if(!(eOk errIds x18))=true then(
F_21 N x1 x17 x18 >>= fun x21=>
some (!x21))
else(
some false)):Option Bool) >>= fun x22=>
((if x22=true then(
F_120 N x1 x17 x18 (x1.size:Int) >>= fun(x23,x24)=>
some (x23,x24))
else(
F_210 N x1 x17 x18 >>= fun(x25,x26)=>
((if(!x26)=true then(
F_121 N x1 x25 x18 x25 >>= fun(x27,x28)=>
some (x27,x28))
else(
((if(x20 != (-1))=true then(
if(decide (x20<x6))=true then(
some true)
else(
some (decide (x20<1))))
else(
some false)):Option Bool) >>= fun x29=>
((if x29=true then(
F_122 N x1 x25 x18 x19 >>= fun(x30,x31)=>
some (x30,x31))
else(
some (x25,x18))):Option (Int×Int)) >>= fun(x32,x33)=>
some (x32,x33))):Option (Int×Int)) >>= fun(x34,x35)=>
some (x34,x35))):Option (Int×Int)) >>= fun(x36,x37)=>
some (x36,x37)):Option (Int×Int)) >>= fun(x38,x39)=>
some (x38,x39,x6,x20)
def F_256(_N:Nat)(x1:Int):Option Int:=
some (sfind (⟨#[124]⟩:BA) x1)
def F_278(N:Nat)(x1:Int):Option Int:=
F_256 N x1 >>= fun x2=>
some x2
def F_197(N:Nat)(x1:BA)(x2:Int)(x3:Int):Option Bool:=
((F_21 N x1 x2 x3 >>= fun x4=>
if x4=true then(
sidx x1 x2 >>= fun x5=>
F_278 N x5 >>= fun x6=>
some (decide (x6≥0)))
else(
some false)):Option Bool) >>= fun x7=>
some x7
def F_211(N:Nat)(x1:BA)(x2:Int)(x3:Int):Option (Int×Bool):=
F_197 N x1 x2 x3 >>= fun x4=>
if(!x4)=true then(
some (x2,false))
else(
some (w64 (x2+1),true))
def F_257(_N:Nat)(x1:Int):Option Int:=
some (sfind (⟨#[41]⟩:BA) x1)
def F_279(N:Nat)(x1:Int):Option Int:=
F_257 N x1 >>= fun x2=>
some x2
def F_198(N:Nat)(x1:BA)(x2:Int)(x3:Int):Option Bool:=
((F_21 N x1 x2 x3 >>= fun x4=>
if x4=true then(
sidx x1 x2 >>= fun x5=>
F_279 N x5 >>= fun x6=>
some (decide (x6≥0)))
else(
some false)):Option Bool) >>= fun x7=>
some x7
def F_212(N:Nat)(x1:BA)(x2:Int)(x3:Int):Option (Int×Bool):=
F_198 N x1 x2 x3 >>= fun x4=>
if(!x4)=true then(
some (x2,false))
else(
some (w64 (x2+1),true))
def F_188(N:Nat)(self_:BA→Int→Int→Option (Int×Int×Int×Int×Int×Int×Int×(List Nd)×Int×Int×BA))(x1:BA)(x2:Int)(x3:Int):Option (Int×Int×Int×Int×Int×Int×Int×(List Nd)×Int×Int×BA):=
F_9 N x1 x2 x3 >>= fun(x4,x5)=>
if x5=true then(
self_ x1 x4 x3 >>= fun(x6,x7,x8,x9,x10,x11,x12,x13,x14,x15,x16)=>
((if(!(eOk errIds x7))=true then(
F_212 N x1 x6 x7 >>= fun(x17,x18)=>
some (x17, !x18))
else(
some (x6,false))):Option (Int×Bool)) >>= fun(x19,x20)=>
((if x20=true then(
F_120 N x1 x19 x7 (x1.size:Int) >>= fun(x21,x22)=>
some (x21,x22))
else(
some (x19,x7))):Option (Int×Int)) >>= fun(x23,x24)=>
some (x23,x24,x8,x9,x10,x11,x12,x13,x14,x15,x16))
else(
F_199 N x1 x4 x3 >>= fun x25=>
if x25=true then(
((F_176 N x1 x4 >>= fun(x26,x27,x28,x29,x30,x31)=>
some (x26,x27,x28,x29,x30,x31)):Option (Int×Int×Int×Int×Int×Int)) >>= fun(x32,x33,x34,x35,x36,x37)=>
((if(eOk errIds x37)=true then(
F_10 N x1 x36 x3 x36 x37 >>= fun(x38,x39)=>
some (x38,x39))
else(
some (x36,x3))):Option (Int×Int)) >>= fun(x40,x41)=>
F_186 N x32 x33 x34 x35 >>= fun _=>
some (x40,x41,1,x32,x33,x34,x35,[],0,0,ByteArray.empty))
else(
F_153 N x1 x4 x3 >>= fun x42=>
if x42=true then(
F_194 N x1 x4 x3 >>= fun(x43,x44,x45,x46)=>
some (x43,x44,x45,0,0,0,0,[],0,0,x46))
else(
F_205 N x1 x4 x3 >>= fun(x47,x48)=>
if x48=true then(
F_229 N >>= fun(x49,x50,x51,x52)=>
F_186 N x49 x50 x51 x52 >>= fun _=>
some (x47,x3,1,x49,x50,x51,x52,[],0,0,ByteArray.empty))
else(
F_201 N x1 x47 x3 >>= fun x53=>
if x53=true then(
F_121 N x1 x47 x3 x47 >>= fun(x54,x55)=>
some (x54,x55,0,0,0,0,0,[],0,0,ByteArray.empty))
else(
F_170 N x1 x47 >>= fun(x56,x57,x58)=>
((if(eOk errIds x58)=true then(
F_10 N x1 x57 x3 x57 x58 >>= fun(x59,x60)=>
some (x59,x60))
else(
some (x57,x3))):Option (Int×Int)) >>= fun(x61,x62)=>
F_129 N x56 >>= fun(x63,x64,x65,x66)=>
F_186 N x63 x64 x65 x66 >>= fun _=>
some (x61,x62,1,x63,x64,x65,x66,[],0,0,ByteArray.empty))))))
def F_236(N:Nat)(x1:BA)(x2:Int)(x3:Int)(x4:Int)(x5:Int)(x6:Int)(x7:Int)(x8:Int)(x9:(List Nd))(x10:Int)(x11:Int)(x12:BA):Option ((Int×Int×Int×Int×Int×Int×Int×(List Nd)×Int×Int×BA) ⊕ (Int×Int×Int×Int×Int×Int×Int×(List Nd)×Int×Int×BA)):=
((((F_206 N x1 x2 x3 >>= fun(x13,x14)=>
((if x14=true then(
some (.inl (x13,x3,0,(-1))))
else(
F_207 N x1 x13 x3 >>= fun(x15,x16)=>
((if x16=true then(
some (.inl (x15,x3,1,(-1))))
else(
F_208 N x1 x15 x3 >>= fun(x17,x18)=>
((if x18=true then(
some (.inl (x17,x3,0,1)))
else(
F_189 N x1 x17 x3 >>= fun x19=>
if x19=true then(
F_190 N x1 x17 x3 >>= fun(x20,x21,x22,x23)=>
some (.inl (x20,x21,x22,x23)))
else(
some (.inr (.inr (.inr (.inr (.inr (.inr (x17,x3,x4,x5,x6,x7,x8,x9,x10,x11,x12)))))))))):Option (Zd ⊕ (Zd ⊕ (Zd ⊕ (Zd ⊕ ((Int×Int×(List Nd)×Int×Int) ⊕ ((Int×Int×Int×Int×Int×Int×Int×(List Nd)×Int×Int×BA) ⊕ (Int×Int×Int×Int×Int×Int×Int×(List Nd)×Int×Int×BA)))))))) >>= fun z=>match z with
| .inr z=>some z
| .inl (x24,x25,x26,x27)=>
some (.inl (x24,x25,x26,x27)))):Option (Zd ⊕ (Zd ⊕ (Zd ⊕ ((Int×Int×(List Nd)×Int×Int) ⊕ ((Int×Int×Int×Int×Int×Int×Int×(List Nd)×Int×Int×BA) ⊕ (Int×Int×Int×Int×Int×Int×Int×(List Nd)×Int×Int×BA))))))) >>= fun z=>match z with
| .inr z=>some z
| .inl (x28,x29,x30,x31)=>
some (.inl (x28,x29,x30,x31)))):Option (Zd ⊕ (Zd ⊕ ((Int×Int×(List Nd)×Int×Int) ⊕ ((Int×Int×Int×Int×Int×Int×Int×(List Nd)×Int×Int×BA) ⊕ (Int×Int×Int×Int×Int×Int×Int×(List Nd)×Int×Int×BA)))))) >>= fun z=>match z with
| .inr z=>some z
| .inl (x32,x33,x34,x35)=>
some (.inl (x32,x33,x34,x35))):Option (Zd ⊕ ((Int×Int×(List Nd)×Int×Int) ⊕ ((Int×Int×Int×Int×Int×Int×Int×(List Nd)×Int×Int×BA) ⊕ (Int×Int×Int×Int×Int×Int×Int×(List Nd)×Int×Int×BA))))) >>= fun z=>match z with
| .inr z=>some z
| .inl (x36,x37,x38,x39)=>
some (.inl (x36,x37,[(Nd.of (x4,(x5,x6,x7,x8),x9,x10,x11,x12))],x38,x39))):Option ((Int×Int×(List Nd)×Int×Int) ⊕ ((Int×Int×Int×Int×Int×Int×Int×(List Nd)×Int×Int×BA) ⊕ (Int×Int×Int×Int×Int×Int×Int×(List Nd)×Int×Int×BA)))) >>= fun z=>match z with
| .inr z=>some z
| .inl (x40,x41,x42,x43,x44)=>
some (.inl (x40,x41,4,0,0,0,0,x42,x43,x44,ByteArray.empty))
def F_83(N:Nat)(self_:BA→Int→Int→Option (Int×Int×Int×Int×Int×Int×Int×(List Nd)×Int×Int×BA))(x1:BA)(x2:Int)(x3:Int):Option (Int×Int×Int×Int×Int×Int×Int×(List Nd)×Int×Int×BA):=
F_188 N self_ x1 x2 x3 >>= fun(x4,x5,x6,x7,x8,x9,x10,x11,x12,x13,x14)=>
iterO N (fun s=>F_236 N x1 s.1 s.2.1 s.2.2.1 s.2.2.2.1 s.2.2.2.2.1 s.2.2.2.2.2.1 s.2.2.2.2.2.2.1 s.2.2.2.2.2.2.2.1 s.2.2.2.2.2.2.2.2.1 s.2.2.2.2.2.2.2.2.2.1 s.2.2.2.2.2.2.2.2.2.2) (x4,x5,x6,x7,x8,x9,x10,x11,x12,x13,x14)
def F_263(N:Nat)(self_:BA→Int→Int→Option (Int×Int×Int×Int×Int×Int×Int×(List Nd)×Int×Int×BA))(x1:BA)(x2:Int)(x3:Int)(x4:(List Nd)):Option ((Int×Int×(List Nd)) ⊕ (Int×Int×(List Nd))):=
((F_21 N x1 x2 x3 >>= fun x5=>
if x5=true then(
F_3 N x1 x2 x3 >>= fun x6=>
some (!x6))
else(
some false)):Option Bool) >>= fun x7=>
if x7=true then(
F_83 N self_ x1 x2 x3 >>= fun(x8,x9,x10,x11,x12,x13,x14,x15,x16,x17,x18)=>
app x4 ([(Nd.of (x10,(x11,x12,x13,x14),x15,x16,x17,x18))]) >>= fun x19=>
some (.inl (x8,x9,x19)))
else(
some (.inr (x2,x3,x4)))
def F_81(N:Nat)(self_:BA→Int→Int→Option (Int×Int×Int×Int×Int×Int×Int×(List Nd)×Int×Int×BA))(x1:BA)(x2:Int)(x3:Int):Option (Int×Int×Int×Int×Int×Int×Int×(List Nd)×Int×Int×BA):=
((iterO N (fun s=>F_263 N self_ x1 s.1 s.2.1 s.2.2) (x2,x3,[])):Option (Int×Int×(List Nd))) >>= fun(x4,x5,x6)=>
if((x6.length:Int)==1)=true then(
idx x6 0 >>= fun x7=>
some (x4,x5,x7.un.1,x7.un.2.1.1,x7.un.2.1.2.1,x7.un.2.1.2.2.1,x7.un.2.1.2.2.2,x7.un.2.2.1,x7.un.2.2.2.1,x7.un.2.2.2.2.1,x7.un.2.2.2.2.2))
else(
some (x4,x5,2,0,0,0,0,x6,0,0,ByteArray.empty))
def F_264(N:Nat)(self_:BA→Int→Int→Option (Int×Int×Int×Int×Int×Int×Int×(List Nd)×Int×Int×BA))(x1:BA)(x2:Int)(x3:Int)(x4:(List Nd)):Option ((Int×Int×(List Nd)) ⊕ (Int×Int×(List Nd))):=
F_211 N x1 x2 x3 >>= fun(x5,x6)=>
if x6=true then(
F_81 N self_ x1 x5 x3 >>= fun(x7,x8,x9,x10,x11,x12,x13,x14,x15,x16,x17)=>
app x4 ([(Nd.of (x9,(x10,x11,x12,x13),x14,x15,x16,x17))]) >>= fun x18=>
some (.inl (x7,x8,x18)))
else(
some (.inr (x5,x3,x4)))
def F_38:(N:Nat)→(x1:BA)→(x2:Int)→(x3:Int)→Option (Int×Int×Int×Int×Int×Int×Int×(List Nd)×Int×Int×BA)
|0,_,_,_=>none
|N+1,x1,x2,x3=>
F_81 N (F_38 N) x1 x2 x3 >>= fun(x4,x5,x6,x7,x8,x9,x10,x11,x12,x13,x14)=>
((iterO N (fun s=>F_264 N (F_38 N) x1 s.1 s.2.1 s.2.2) (x4,x5,[(Nd.of (x6,(x7,x8,x9,x10),x11,x12,x13,x14))])):Option (Int×Int×(List Nd))) >>= fun(x15,x16,x17)=>
if((x17.length:Int)==1)=true then(
idx x17 0 >>= fun x18=>
some (x15,x16,x18.un.1,x18.un.2.1.1,x18.un.2.1.2.1,x18.un.2.1.2.2.1,x18.un.2.1.2.2.2,x18.un.2.2.1,x18.un.2.2.2.1,x18.un.2.2.2.2.1,x18.un.2.2.2.2.2))
else(
some (x15,x16,3,0,0,0,0,x17,0,0,ByteArray.empty))
def F_37(_N:Nat)(_x1:Int)(_x2:Int)(_x3:Int)(_x4:Int)(_x5:Int)(_x7:(List Nd))(_x9:Int)(_x10:Int)(_x11:BA):Option Unit:=
some ()
def F_90(_N:Nat){σ:Type}(self_:Int→((Nd×Int)→σ→Option (σ×Bool))→σ→Int→Int→Int→Int→Int→(List Nd)→Int→Int→BA→Int→Option ((σ×Int) ⊕ ((σ×Int) ⊕ (σ×Int))))(Y:((Nd×Int)→σ→Option (σ×Bool)))(x1:(List Nd))(x2:Int)(x3:σ)(x4:Int)(x5:Int):Option ((σ×Int×Int) ⊕ ((σ×Int) ⊕ ((σ×Int) ⊕ ((σ×Int) ⊕ (σ×Int))))):=
if(decide (x5<(x1.length:Int)))=true then(
idx x1 x5 >>= fun x6=>
self_ x4 Y x3 x6.un.1 x6.un.2.1.1 x6.un.2.1.2.1 x6.un.2.1.2.2.1 x6.un.2.1.2.2.2 x6.un.2.2.1 x6.un.2.2.2.1 x6.un.2.2.2.2.1 x6.un.2.2.2.2.2 (w64 (x2+1)) >>= fun z=>match z with
| .inl (x7,x8)=>(
some (.inr (.inr (.inl (x7,x8)))))
| .inr (.inl (x9,x10))=>(
some (.inr (.inr (.inr (.inl (x9,x10))))))
| .inr (.inr (x11,x12))=>(
some (.inl (x11,x12,w64 (x5+1)))))
else(
some (.inr (.inl (x3,x4))))
def F_25{σ:Type}:(N:Nat)→(x1:Int)→(Y:(Nd×Int)→σ→Option (σ×Bool))→(s0:σ)→(x2:Int)→(x3:Int)→(x4:Int)→(x5:Int)→(x6:Int)→(x7:(List Nd))→(x8:Int)→(x9:Int)→(x10:BA)→(x11:Int)→Option ((σ×Int) ⊕ ((σ×Int) ⊕ (σ×Int)))
|0,_,_,_,_,_,_,_,_,_,_,_,_,_=>none
|N+1,x1,Y,s0,x2,x3,x4,x5,x6,x7,x8,x9,x10,x11=>
if(x1==0)=true then(
some (.inl (s0,x1)))
else(
Y ((Nd.of (x2,(x3,x4,x5,x6),x7,x8,x9,x10)),x11) s0 >>= fun q12=>
if(!q12.2)=true then(
some (.inr (.inl (q12.1,x1))))
else(
if(decide (x11>24))=true then(
some (.inr (.inr (q12.1,w64 (x1-1)))))
else(
((iterO N (fun s=>F_90 N (F_25 N) Y x7 x11 s.1 s.2.1 s.2.2) (q12.1,w64 (x1-1),0)):Option ((σ×Int) ⊕ ((σ×Int) ⊕ ((σ×Int) ⊕ (σ×Int))))) >>= fun z=>match z with
| .inr z=>some z
| .inl (x13,x14)=>
some (.inr (.inr (x13,x14))))))
def F_89(N:Nat){σ:Type}(Y:(Nd×Int)→σ→Option (σ×Bool))(s0:σ)(x1:Int)(x2:Int)(x3:Int)(x4:Int)(x5:Int)(x6:(List Nd))(x7:Int)(x8:Int)(x9:BA):Option (σ×Bool):=
F_25 N 601 Y s0 x1 x2 x3 x4 x5 x6 x7 x8 x9 1 >>= fun z=>match z with
| .inl (x10,_x43)=>(
some (x10,true))
| .inr (.inl (x11,_x48))=>(
some (x11,false))
| .inr (.inr (x12,_x53))=>(
some (x12,true))
def F_228(_N:Nat)(_x50:Nd)(x1:Int)(x2:Int):Option (Int×Bool):=
some (imax x2 x1,true)
def F_57(N:Nat)(x1:Int)(x2:Int)(x3:Int)(x4:Int)(x5:Int)(x6:(List Nd))(x7:Int)(x8:Int)(x9:BA):Option Int:=
F_37 N x1 x2 x3 x4 x5 x6 x7 x8 x9 >>= fun _=>
F_89 N (fun x s=>F_228 N x.1 x.2 s) 0 x1 x2 x3 x4 x5 x6 x7 x8 x9 >>= fun z=>match z with
| (x10,true)=>(
some x10)
|_=>none
def F_192(_N:Nat)(_x2:BA)(x1:Int)(x2:Int)(x3:Int):Option (Int×Int):=
((if(!(eOk errIds x2))=true then(
some (x3,8))
else(
some (x1,x2))):Option (Int×Int)) >>= fun(x4,x5)=>
some (x4,x5)
def F_227(_N:Nat)(_x50:Nd)(_x51:Int)(x1:Int):Option (Int×Bool):=
some (w64 (x1+1),true)
def F_56(N:Nat)(x1:Int)(x2:Int)(x3:Int)(x4:Int)(x5:Int)(x6:(List Nd))(x7:Int)(x8:Int)(x9:BA):Option Int:=
F_37 N x1 x2 x3 x4 x5 x6 x7 x8 x9 >>= fun _=>
F_89 N (fun x s=>F_227 N x.1 x.2 s) 0 x1 x2 x3 x4 x5 x6 x7 x8 x9 >>= fun z=>match z with
| (x10,true)=>(
some x10)
|_=>none
def F_193(_N:Nat)(_x2:BA)(x1:Int)(x2:Int)(x3:Int):Option (Int×Int):=
((if(!(eOk errIds x2))=true then(
some (x3,2))
else(
some (x1,x2))):Option (Int×Int)) >>= fun(x4,x5)=>
some (x4,x5)
def F_185(N:Nat)(x1:BA):Option (Int×Int×Int×Int×Int×(List Nd)×Int×Int×BA×Int×Int):=
F_38 N x1 0 0 >>= fun(x2,x3,x4,x5,x6,x7,x8,x9,x10,x11,x12)=>
((F_21 N x1 x2 x3 >>= fun x13=>
((if x13=true then(
F_121 N x1 x2 x3 x2 >>= fun(x14,x15)=>
some (x14,x15))
else(
((if(eOk errIds x3)=true then(
some (x2,x3))
else(
F_57 N x4 x5 x6 x7 x8 x9 x10 x11 x12 >>= fun x16=>
((if(decide (x16>24))=true then(
F_192 N x1 x2 x3 0 >>= fun(x17,x18)=>
some (x17,x18))
else(
F_56 N x4 x5 x6 x7 x8 x9 x10 x11 x12 >>= fun x19=>
((if(decide (x19>600))=true then(
F_193 N x1 x2 x3 0 >>= fun(x20,x21)=>
some (x20,x21))
else(
some (x2,x3))):Option (Int×Int)) >>= fun(x22,x23)=>
some (x22,x23))):Option (Int×Int)) >>= fun(x24,x25)=>
some (x24,x25))):Option (Int×Int)) >>= fun(x26,x27)=>
some (x26,x27))):Option (Int×Int)) >>= fun(x28,x29)=>
some (x28,x29)):Option (Int×Int)) >>= fun(x30,x31)=>
if(eOk errIds x31)=true then(
((some ()):Option Unit) >>= fun _=>
some (0,0,0,0,0,[],0,0,ByteArray.empty,x30,x31))
else(
some (x4,x5,x6,x7,x8,x9,x10,x11,x12,(x1.size:Int),0))
def F_124(_N:Nat)(_x2:BA)(_x3:Int)(x1:Int)(x2:Int)(x3:Int)(x4:Int):Option (Int×Int):=
((if(!(eOk errIds x2))=true then(
some (x3,x4))
else(
some (x1,x2))):Option (Int×Int)) >>= fun(x5,x6)=>
some (x5,x6)
def F_157(N:Nat)(x1:BA)(x2:Int)(x3:Int)(x4:Int):Option (Int×Int×Int×Int×Int×Int×Int×(List Nd)×Int×Int×BA):=
F_156 N x1 x2 x3 x4 >>= fun(x5,x6,x7)=>
if(!x7)=true then(
some (x5,x6,0,0,0,0,0,[],0,0,ByteArray.empty))
else(
((F_47 N x1 x2 x5 x6 >>= fun x8=>
if(x8.toList==ByteArray.empty.toList)=true then(
some true)
else(
F_47 N x1 x2 x5 x6 >>= fun x9=>
sidx x9 0 >>= fun x10=>
some (x10 != 47))):Option Bool) >>= fun x11=>
if x11=true then(
F_160 N x1 x2 x5 x6 x5 >>= fun(x12,x13)=>
some (x12,x13,0,0,0,0,0,[],0,0,ByteArray.empty))
else(
F_47 N x1 x2 (w64 (x5+1)) x6 >>= fun x14=>
F_99 N x14 >>= fun x15=>
if(decide (x15<0))=true then(
F_159 N x1 x2 (w64 (x5+1)) x6 (x1.size:Int) >>= fun(x16,x17)=>
some (x16,x17,0,0,0,0,0,[],0,0,ByteArray.empty))
else(
F_47 N x1 x2 (w64 (x5+1)) x6 >>= fun x18=>
sslc x18 0 x15 >>= fun x19=>
F_185 N x19 >>= fun(x20,x21,x22,x23,x24,x25,x26,x27,x28,x29,x30)=>
if(eOk errIds x30)=true then(
F_124 N x1 x2 (w64 (x5+1)) x6 (w64 ((w64 (x5+1))+x29)) x30 >>= fun(x31,x32)=>
some (x31,x32,0,0,0,0,0,[],0,0,ByteArray.empty))
else(
some (w64 ((w64 (x5+1))+(w64 (x15+1))),x6,x20,x21,x22,x23,x24,x25,x26,x27,x28)))))
def F_266(_N:Nat)(x1:BA)(_x2:Int)(_x3:Int)(_x4:Int)(_x5:Int)(_x6:Int)(_x8:(List Nd))(_x10:Int)(_x11:Int)(_x12:BA)(_x13:Int)(x2:BA):Option Bool:=
some (x1.toList==x2.toList)
def F_270(N:Nat)(x1:(List (BA×Nd×Int)))(x2:BA)(x3:Int):Option (Int ⊕ (Unit ⊕ Int)):=
if(decide (x3<(x1.length:Int)))=true then(
idx x1 x3 >>= fun x4=>
F_266 N x4.1 x4.2.1.un.1 x4.2.1.un.2.1.1 x4.2.1.un.2.1.2.1 x4.2.1.un.2.1.2.2.1 x4.2.1.un.2.1.2.2.2 x4.2.1.un.2.2.1 x4.2.1.un.2.2.2.1 x4.2.1.un.2.2.2.2.1 x4.2.1.un.2.2.2.2.2 x4.2.2 x2 >>= fun x5=>
if x5=true then(
some (.inr (.inr x3)))
else(
some (.inl (w64 (x3+1)))))
else(
some (.inr (.inl ())))
def F_131(N:Nat)(x1:(List (BA×Nd×Int)))(x2:BA):Option Int:=
((iterO N (fun s=>F_270 N x1 x2 s) 0):Option (Unit ⊕ Int)) >>= fun z=>match z with
| .inr z=>some z
| .inl _=>
some (-1)
def F_222(N:Nat)(x1:(List (BA×Nd×Int)))(x2:BA):Option Bool:=
F_131 N x1 x2 >>= fun x3=>
some (decide (x3≥0))
def F_97(N:Nat)(x1:(List BA))(x2:(List (BA×Nd×Int)))(x3:(List ((List BA)×Nd×(BA×BA)×Int)))(x4:BA)(x5:Int)(x6:Int):Option ((List BA)×(List (BA×Nd×Int))×(List ((List BA)×Nd×(BA×BA)×Int))×Int×Int):=
F_161 N x4 x5 x6 >>= fun(x7,x8,x9,x10)=>
F_157 N x4 x5 x7 x8 >>= fun(x11,x12,x13,x14,x15,x16,x17,x18,x19,x20,x21)=>
F_162 N x4 x5 x11 x12 >>= fun(x22,x23)=>
F_222 N x2 x9 >>= fun x24=>
F_85 N x4 x5 x22 x23 x10 x24 (x2.length:Int) 32 >>= fun(x25,x26,x27)=>
((if x27=true then(
((app x2 ([(x9,(Nd.of (x13,(x14,x15,x16,x17),x18,x19,x20,x21)),x5)]) >>= fun x28=>
some x28):Option (List (BA×Nd×Int))) >>= fun x29=>
some x29)
else(
some x2)):Option (List (BA×Nd×Int))) >>= fun x30=>
some (x1,x30,x3,x25,x26)
def F_14(_N:Nat)(_x1:BA)(_x2:Int):Option Unit:=
some ()
def F_247(N:Nat)(x1:BA):Option Unit:=
F_14 N x1 0 >>= fun _=>
some ()
def F_180(N:Nat)(x1:BA):Option Int:=
((some ((⟨#[44]⟩:BA).toList==x1.toList)):Option Bool) >>= fun x2=>
if x2=true then(
some 0)
else(
F_4 N x1 44 >>= fun x3=>
some x3)
def F_2(N:Nat)(x1:BA):Option Int:=
F_180 N x1 >>= fun x2=>
some x2
def F_134(N:Nat){σ:Type}(Y:(BA→σ→Option (σ×Bool)))(x1:σ)(x2:BA):Option ((σ×BA) ⊕ ((σ×BA) ⊕ (σ×Bool))):=
F_2 N x2 >>= fun x3=>
if(decide (x3<0))=true then(
some (.inr (.inl (x1,x2))))
else(
sslc x2 0 (w64 (x3+0)) >>= fun x4=>
Y x4 x1 >>= fun q5=>
if(!q5.2)=true then(
some (.inr (.inr (q5.1,false))))
else(
sslc x2 (w64 (x3+1)) (x2.size:Int) >>= fun x6=>
some (.inl (q5.1,x6))))
def F_52(N:Nat){σ:Type}(Y:BA→σ→Option (σ×Bool))(s0:σ)(x1:BA):Option (σ×Bool):=
((iterO N (fun s=>F_134 N Y s.1 s.2) (s0,x1)):Option ((σ×BA) ⊕ (σ×Bool))) >>= fun z=>match z with
| .inr z=>some z
| .inl (x2,x3)=>
Y x3 x2 >>= fun q4=>
some (q4.1,q4.2)
def F_125(N:Nat)(x1:BA)(x2:Int)(x3:BA)(x4:Int)(x5:Int)(x6:Int)(x7:(List BA)):Option ((Int×Int×Int×(List BA))×Bool):=
((((F_18 N x3 >>= fun x8=>
((if(!x8)=true then(
F_101 N x1 x2 x4 x5 x6 >>= fun(x9,x10)=>
some (x9,x10))
else(
F_45 N x7 x3 >>= fun x11=>
((if x11=true then(
F_84 N x1 x2 x4 x5 x6 >>= fun(x12,x13)=>
some (x12,x13))
else(
some (x4,x5))):Option (Int×Int)) >>= fun(x14,x15)=>
some (x14,x15))):Option (Int×Int)) >>= fun(x16,x17)=>
some (x16,x17)):Option (Int×Int)) >>= fun(x18,x19)=>
app x7 ([x3]) >>= fun x20=>
some (x18,x19,w64 (x6+(w64 ((x3.size:Int)+1))),x20)):Option (Int×Int×Int×(List BA))) >>= fun(x21,x22,x23,x24)=>
some ((x21,x22,x23,x24),true)
def F_44(N:Nat)(x1:BA)(x2:Int)(x3:Int):Option (Int×Int×(List BA)):=
F_43 N x1 x2 x3 >>= fun(x4,x5,x6)=>
if(!x6)=true then(
some (x4,x5,[]))
else(
F_102 N x1 x2 x4 x5 >>= fun(x7,x8)=>
F_247 N x8 >>= fun _=>
F_52 N (fun x s=>F_125 N x1 x2 x s.1 s.2.1 s.2.2.1 s.2.2.2) (x7,x5,x4,[]) x8 >>= fun z=>match z with
| ((x9,x10,_x1112,x11),true)=>(
some (x9,x10,x11))
|_=>none)
def F_272(_N:Nat)(x1:BA):Option Int:=
some (scount x1 32)
def F_246(N:Nat)(x1:BA):Option Int:=
F_1 N x1 >>= fun x2=>
some x2
def F_248(N:Nat)(x1:BA)(x2:Int)(x3:Int)(x4:BA)(x5:Int)(x6:(List BA)):Option ((BA×Int×(List BA)) ⊕ (BA×Int×(List BA))):=
if(decide (x5<(w64 ((imin x3 (w64 ((x1.size:Int)+1)))-1))))=true then(
F_246 N x4 >>= fun x7=>
if(decide (x7<0))=true then(
some (.inr (x4,x5,x6)))
else(
sslc x4 0 (w64 (x7+x2)) >>= fun x8=>
idx x6 x5 >>= fun _x348=>
setI x6 x5 x8 >>= fun x9=>
sslc x4 (w64 (x7+1)) (x4.size:Int) >>= fun x10=>
some (.inl (x10,w64 (x5+1),x9))))
else(
some (.inr (x4,x5,x6)))
def F_110(N:Nat)(x1:BA)(x2:Int)(x3:Int):Option (List BA):=
if(x3==0)=true then(
some ([]))
else(
((if(decide (x3<0))=true then(
F_272 N x1 >>= fun x4=>
some (w64 (x4+1)))
else(
some x3)):Option Int) >>= fun x5=>
mk ByteArray.empty (imin x5 (w64 ((x1.size:Int)+1))) >>= fun x6=>
((iterO N (fun s=>F_248 N x1 x2 x5 s.1 s.2.1 s.2.2) (x1,0,x6)):Option (BA×Int×(List BA))) >>= fun(x7,x8,x9)=>
idx x9 x8 >>= fun _x361=>
setI x9 x8 x7 >>= fun x10=>
slc x10 0 (w64 (x8+1)) >>= fun x11=>
some x11)
def F_50(N:Nat)(x1:BA):Option (List BA):=
F_110 N x1 0 (-1) >>= fun x2=>
some x2
def F_91(_N:Nat)(x1:(List BA))(_x6:Int):Option ((List BA)×BA×Bool):=
if((x1.length:Int)==0)=true then(
some (x1,ByteArray.empty,false))
else(
idx x1 0 >>= fun x2=>
some (x1,x2,true))
def F_113(_N:Nat)(x1:(List BA))(x2:Int):Option ((List BA)×Int):=
((idx x1 0 >>= fun x3=>
some (w64 (x2+(x3.size:Int)))):Option Int) >>= fun x4=>
slc x1 1 (x1.length:Int) >>= fun x5=>
((if(decide ((x5.length:Int)>0))=true then(
some (w64 (x4+1)))
else(
some x4)):Option Int) >>= fun x6=>
some (x5,x6)
def F_136(N:Nat)(x1:(List BA))(x2:Int):Option ((List BA)×Int×BA×Int):=
F_91 N x1 x2 >>= fun(x3,x4,x5)=>
if(!x5)=true then(
some (x3,x2,ByteArray.empty,4))
else(
F_18 N x4 >>= fun x6=>
if(!x6)=true then(
some (x3,x2,ByteArray.empty,6))
else(
F_113 N x3 x2 >>= fun(x7,x8)=>
some (x7,x8,x4,0)))
def F_175(N:Nat)(x1:(List BA))(x2:Int):Option ((List BA)×Int×BA×BA×Int):=
F_91 N x1 x2 >>= fun(x3,x4,_x129)=>
((if(x4.toList != (⟨#[101,109,105,116]⟩:BA).toList)=true then(
some (x4.toList != (⟨#[115,107,105,112]⟩:BA).toList))
else(
some false)):Option Bool) >>= fun x5=>
if x5=true then(
((some ()):Option Unit) >>= fun _=>
some (x3,x2,ByteArray.empty,ByteArray.empty,1))
else(
F_113 N x3 x2 >>= fun(x6,x7)=>
((if(x4.toList==(⟨#[101,109,105,116]⟩:BA).toList)=true then(
F_136 N x6 x7 >>= fun(x8,x9,x10,x11)=>
if(eOk errIds x11)=true then(
some (.inr (x8,x9,ByteArray.empty,ByteArray.empty,x11)))
else(
some (.inl (x8,x9,x10))))
else(
some (.inl (x6,x7,ByteArray.empty)))):Option (((List BA)×Int×BA) ⊕ ((List BA)×Int×BA×BA×Int))) >>= fun z=>match z with
| .inr z=>some z
| .inl (x12,x13,x14)=>
F_91 N x12 x13 >>= fun(x15,x16,x17)=>
if(!x17)=true then(
some (x15,x13,x14,ByteArray.empty,0))
else(
if(x16.toList != (⟨#[98,101,103,105,110]⟩:BA).toList)=true then(
((some ()):Option Unit) >>= fun _=>
some (x15,x13,ByteArray.empty,ByteArray.empty,1))
else(
F_113 N x15 x13 >>= fun(x18,x19)=>
F_136 N x18 x19 >>= fun(x20,x21,x22,x23)=>
if(eOk errIds x23)=true then(
some (x20,x21,ByteArray.empty,ByteArray.empty,x23))
else(
F_91 N x20 x21 >>= fun(x24,_x216,x25)=>
if x25=true then(
((some ()):Option Unit) >>= fun _=>
some (x24,x21,ByteArray.empty,ByteArray.empty,5))
else(
some (x24,x21,x14,x22,0))))))
def F_173(N:Nat)(x1:BA):Option (BA×BA×Int×Int):=
F_50 N x1 >>= fun x2=>
F_175 N x2 0 >>= fun(_x50,x3,x4,x5,x6)=>
((some ()):Option Unit) >>= fun _=>
some (x4,x5,x3,x6)
def F_216(N:Nat)(x1:BA)(x2:Int)(x3:Int)(x4:Int):Option (Int×Int×BA×BA):=
F_156 N x1 x2 x3 x4 >>= fun(x5,x6,x7)=>
if(!x7)=true then(
some (x5,x6,ByteArray.empty,ByteArray.empty))
else(
F_47 N x1 x2 x5 x6 >>= fun x8=>
F_173 N x8 >>= fun(x9,x10,x11,x12)=>
((if(eOk errIds x12)=true then(
F_124 N x1 x2 x5 x6 (w64 (x5+x11)) x12 >>= fun(x13,x14)=>
some (x13,x14))
else(
some (x5,x6))):Option (Int×Int)) >>= fun(x15,x16)=>
some (x15,x16,x9,x10))
def F_214(N:Nat)(x1:(List BA))(x2:(List (BA×Nd×Int)))(x3:(List ((List BA)×Nd×(BA×BA)×Int)))(x4:BA)(x5:Int)(x6:Int):Option ((List BA)×(List (BA×Nd×Int))×(List ((List BA)×Nd×(BA×BA)×Int))×Int×Int):=
F_44 N x4 x5 x6 >>= fun(x7,x8,x9)=>
F_157 N x4 x5 x7 x8 >>= fun(x10,x11,x12,x13,x14,x15,x16,x17,x18,x19,x20)=>
F_216 N x4 x5 x10 x11 >>= fun(x21,x22,x23,x24)=>
F_85 N x4 x5 x21 x22 0 false (x3.length:Int) 48 >>= fun(x25,x26,x27)=>
((if x27=true then(
((app x3 ([(x9,(Nd.of (x12,(x13,x14,x15,x16),x17,x18,x19,x20)),(x23,x24),x5)]) >>= fun x28=>
some x28):Option (List ((List BA)×Nd×(BA×BA)×Int))) >>= fun x29=>
some x29)
else(
some x3)):Option (List ((List BA)×Nd×(BA×BA)×Int))) >>= fun x30=>
some (x1,x2,x30,x25,x26)
def F_155(N:Nat)(x1:(List BA))(x2:(List (BA×Nd×Int)))(x3:(List ((List BA)×Nd×(BA×BA)×Int)))(x4:BA)(x5:Int)(x6:Int):Option ((List BA)×(List (BA×Nd×Int))×(List ((List BA)×Nd×(BA×BA)×Int))×Int×Int):=
((if(x4.toList==ByteArray.empty.toList)=true then(
some true)
else(
F_49 N x4 >>= fun x7=>
some x7)):Option Bool) >>= fun x8=>
if x8=true then(
some (x1,x2,x3,x6,0))
else(
F_48 N x4 x5 x6 >>= fun(x9,x10)=>
((((if(x10.toList==(⟨#[99,111,110,100]⟩:BA).toList)=true then(
F_213 N x1 x2 x3 x4 x5 x9 >>= fun(x11,x12,x13,x14,x15)=>
some (x11,x12,x13,x14,x15))
else(
((if(x10.toList==(⟨#[108,101,116]⟩:BA).toList)=true then(
F_97 N x1 x2 x3 x4 x5 x9 >>= fun(x16,x17,x18,x19,x20)=>
some (x16,x17,x18,x19,x20))
else(
((if(x10.toList==(⟨#[111,110]⟩:BA).toList)=true then(
F_214 N x1 x2 x3 x4 x5 x9 >>= fun(x21,x22,x23,x24,x25)=>
some (x21,x22,x23,x24,x25))
else(
F_100 N x4 x5 x9 0 >>= fun _=>
some (x1,x2,x3,0,1))):Option ((List BA)×(List (BA×Nd×Int))×(List ((List BA)×Nd×(BA×BA)×Int))×Int×Int)) >>= fun(x26,x27,x28,x29,x30)=>
some (x26,x27,x28,x29,x30))):Option ((List BA)×(List (BA×Nd×Int))×(List ((List BA)×Nd×(BA×BA)×Int))×Int×Int)) >>= fun(x31,x32,x33,x34,x35)=>
some (x31,x32,x33,x34,x35))):Option ((List BA)×(List (BA×Nd×Int))×(List ((List BA)×Nd×(BA×BA)×Int))×Int×Int)) >>= fun(x36,x37,x38,x39,x40)=>
some (x36,x37,x38,x39,x40)):Option ((List BA)×(List (BA×Nd×Int))×(List ((List BA)×Nd×(BA×BA)×Int))×Int×Int)) >>= fun(x41,x42,x43,x44,x45)=>
some (x41,x42,x43,x44,x45))
def F_181(N:Nat)(x1:BA):Option Int:=
((some ((⟨#[10]⟩:BA).toList==x1.toList)):Option Bool) >>= fun x2=>
if x2=true then(
some 0)
else(
F_4 N x1 10 >>= fun x3=>
some x3)
def F_225(N:Nat)(x1:BA):Option Int:=
F_181 N x1 >>= fun x2=>
some x2
def F_133(N:Nat){σ:Type}(Y:(BA→σ→Option (σ×Bool)))(x1:σ)(x2:BA):Option ((σ×BA) ⊕ ((σ×BA) ⊕ (σ×Bool))):=
F_225 N x2 >>= fun x3=>
if(decide (x3<0))=true then(
some (.inr (.inl (x1,x2))))
else(
sslc x2 0 (w64 (x3+0)) >>= fun x4=>
Y x4 x1 >>= fun q5=>
if(!q5.2)=true then(
some (.inr (.inr (q5.1,false))))
else(
sslc x2 (w64 (x3+1)) (x2.size:Int) >>= fun x6=>
some (.inl (q5.1,x6))))
def F_51(N:Nat){σ:Type}(Y:BA→σ→Option (σ×Bool))(s0:σ)(x1:BA):Option (σ×Bool):=
((iterO N (fun s=>F_133 N Y s.1 s.2) (s0,x1)):Option ((σ×BA) ⊕ (σ×Bool))) >>= fun z=>match z with
| .inr z=>some z
| .inl (x2,x3)=>
Y x3 x2 >>= fun q4=>
some (q4.1,q4.2)
def F_98(N:Nat)(x1:BA)(x2:(List BA))(x3:(List (BA×Nd×Int)))(x4:(List ((List BA)×Nd×(BA×BA)×Int)))(x5:Int):Option ((((List BA)×(List (BA×Nd×Int))×(List ((List BA)×Nd×(BA×BA)×Int))×Int) ⊕ (Int×Int))×Bool):=
F_155 N x2 x3 x4 x1 x5 0 >>= fun(x6,x7,x8,x9,x10)=>
if(eOk errIds x10)=true then(
((some (w64 (x5+x9),x6,x7,x8)):Option (Int×(List BA)×(List (BA×Nd×Int))×(List ((List BA)×Nd×(BA×BA)×Int)))) >>= fun(x11,_x402,_x405,_x408)=>
some (.inr (x11,x10),false))
else(
some (.inl (x6,x7,x8,w64 (x5+(w64 ((x1.size:Int)+1)))),true))
def F_39(N:Nat)(x1:Zc):Option ((List BA)×(List (BA×Nd×Int))×(List ((List BA)×Nd×(BA×BA)×Int))×Int×Int):=
if(decide ((x1.length:Int)>4096))=true then(
((some ()):Option Unit) >>= fun _=>
some ([],[],[],4096,5))
else(
F_109 N (bstr x1) >>= fun _=>
F_51 N (YS (σ1:=((List BA)×(List (BA×Nd×Int))×(List ((List BA)×Nd×(BA×BA)×Int))×Int)) (σ2:=(Int×Int)) (fun x s=>F_98 N x s.1 s.2.1 s.2.2.1 s.2.2.2)) (.inl ([(⟨#[109,97,105,110]⟩:BA)],[],[],0)) (bstr x1) >>= fun z=>match z with
| (.inl (x2,x3,x4,_x316),true)=>(
some (x2,x3,x4,(x1.length:Int),0))
| (.inr (x5,x6),false)=>(
some ([],[],[],x5,x6))
|_=>none)
def F_171(_N:Nat)(x1:Int)(x2:Int)(x3:Int)(x4:Int)(x5:Int)(_x7:(List Nd))(x6:Int)(x7:Int)(x8:BA):Option Bool:=
((if(x6==0)=true then(
some (([x2,x3,x4,x5]:List Int)==([0,0,0,0]:List Int),x7==0,x8.toList==ByteArray.empty.toList))
else(
some (([x2,x3,x4,x5]:List Int)==([0,0,0,0]:List Int),false,x8.toList==ByteArray.empty.toList))):Option (Bool×Bool×Bool)) >>= fun(x9,x10,x11)=>
((if x9=true then(
if x10=true then(
if x11=true then(
some true)
else(
some (x1==5)))
else(
if(x1==4)=true then(
if x11=true then(
some true)
else(
some (x1==5)))
else(
some false)))
else(
if(x1==1)=true then(
if x10=true then(
if x11=true then(
some true)
else(
some (x1==5)))
else(
if(x1==4)=true then(
if x11=true then(
some true)
else(
some (x1==5)))
else(
some false)))
else(
some false))):Option Bool) >>= fun x12=>
some x12
def F_172(N:Nat)(x1:Int)(x2:Int)(x3:Int)(x4:Int)(x5:Int)(x6:(List Nd))(x7:Int)(x8:Int)(x9:BA):Option Bool:=
F_171 N x1 x2 x3 x4 x5 x6 x7 x8 x9 >>= fun x10=>
if(!x10)=true then(
some false)
else(
if(x1==1)=true then(
some ((x6.length:Int)==0))
else(
if(x1==2)=true then(
some true)
else(
if(x1==3)=true then(
some (decide ((x6.length:Int)≥2)))
else(
if(x1==4)=true then(
((if(decide (x8≥(imax x7 1)))=true then(
some (decide (x8≤40)))
else(
some false)):Option Bool) >>= fun x11=>
((if((x6.length:Int)==1)=true then(
if(decide (x7≥0))=true then(
if(decide (x7≤40))=true then(
if(x8==(-1))=true then(
some true)
else(
some x11))
else(
some false))
else(
some false))
else(
some false)):Option Bool) >>= fun x12=>
some x12)
else(
((if(x1==5)=true then(
if((x6.length:Int)==0)=true then(
F_18 N x9 >>= fun x13=>
some x13)
else(
some false))
else(
some false)):Option Bool) >>= fun x14=>
some x14)))))
def F_88(N:Nat)(x1:Nd)(x2:Int)(x3:Int):Option ((Int ⊕ Unit)×Bool):=
((if(decide (x2>24))=true then(
some true)
else(
if(decide ((w64 (x3+1))>600))=true then(
some true)
else(
F_172 N x1.un.1 x1.un.2.1.1 x1.un.2.1.2.1 x1.un.2.1.2.2.1 x1.un.2.1.2.2.2 x1.un.2.2.1 x1.un.2.2.2.1 x1.un.2.2.2.2.1 x1.un.2.2.2.2.2 >>= fun x4=>
some (!x4)))):Option Bool) >>= fun x5=>
if x5=true then(
some (.inr (),false))
else(
some (.inl (w64 (x3+1)),true))
def F_24(N:Nat)(x1:Int)(x2:Int)(x3:Int)(x4:Int)(x5:Int)(x6:(List Nd))(x7:Int)(x8:Int)(x9:BA):Option Bool:=
F_37 N x1 x2 x3 x4 x5 x6 x7 x8 x9 >>= fun _=>
F_89 N (YS (σ1:=Int) (σ2:=Unit) (fun x s=>F_88 N x.1 x.2 s)) (.inl 0) x1 x2 x3 x4 x5 x6 x7 x8 x9 >>= fun z=>match z with
| (.inl _x123,true)=>(
some true)
| (.inr _,false)=>(
some false)
|_=>none
def F_187(_N:Nat)(self_:Int→Int→Int→Int→Int→(List Nd)→Int→Int→BA→Option Bool)(x1:(List Nd))(x2:Int):Option (Int ⊕ (Unit ⊕ Bool)):=
if(decide (x2<(x1.length:Int)))=true then(
idx x1 x2 >>= fun x3=>
self_ x3.un.1 x3.un.2.1.1 x3.un.2.1.2.1 x3.un.2.1.2.2.1 x3.un.2.1.2.2.2 x3.un.2.2.1 x3.un.2.2.2.1 x3.un.2.2.2.2.1 x3.un.2.2.2.2.2 >>= fun x4=>
if x4=true then(
some (.inr (.inr true)))
else(
some (.inl (w64 (x2+1)))))
else(
some (.inr (.inl ())))
def F_42:(N:Nat)→(x1:Int)→(x2:Int)→(x3:Int)→(x4:Int)→(x5:Int)→(x6:(List Nd))→(x7:Int)→(x8:Int)→(x9:BA)→Option Bool
|0,_,_,_,_,_,_,_,_,_=>none
|N+1,x1,x2,x3,x4,x5,x6,x7,x8,x9=>
((if(x1==2)=true then(
some ((x6.length:Int)==1))
else(
some false)):Option Bool) >>= fun x10=>
if x10=true then(
some true)
else(
((iterO N (fun s=>F_187 N (F_42 N) x6 s) 0):Option (Unit ⊕ Bool)) >>= fun z=>match z with
| .inr z=>some z
| .inl _=>
some false)
def F_152(N:Nat)(x1:Int)(x2:Int)(x3:Int)(x4:Int)(x5:Int)(x6:(List Nd))(x7:Int)(x8:Int)(x9:BA):Option Bool:=
((F_24 N x1 x2 x3 x4 x5 x6 x7 x8 x9 >>= fun x10=>
if x10=true then(
F_42 N x1 x2 x3 x4 x5 x6 x7 x8 x9 >>= fun x11=>
some (!x11))
else(
some false)):Option Bool) >>= fun x12=>
some x12
def F_237(N:Nat)(x1:(List BA))(x2:Int):Option (Int ⊕ (Unit ⊕ Bool)):=
if(decide (x2<(x1.length:Int)))=true then(
idx x1 x2 >>= fun x3=>
((F_18 N x3 >>= fun x4=>
if(!x4)=true then(
some true)
else(
slc x1 0 x2 >>= fun x5=>
F_45 N x5 x3 >>= fun x6=>
some x6)):Option Bool) >>= fun x7=>
if x7=true then(
some (.inr (.inr false)))
else(
some (.inl (w64 (x2+1)))))
else(
some (.inr (.inl ())))
def F_62(N:Nat)(x1:(List BA)):Option Bool:=
((iterO N (fun s=>F_237 N x1 s) 0):Option (Unit ⊕ Bool)) >>= fun z=>match z with
| .inr z=>some z
| .inl _=>
some true
def F_135(N:Nat)(x1:BA):Option Bool:=
((if(x1.toList==ByteArray.empty.toList)=true then(
some true)
else(
F_18 N x1 >>= fun x2=>
some x2)):Option Bool) >>= fun x3=>
some x3
def F_174(N:Nat)(x1:BA)(x2:BA):Option Bool:=
((F_135 N x1 >>= fun x3=>
if x3=true then(
F_135 N x2 >>= fun x4=>
some x4)
else(
some false)):Option Bool) >>= fun x5=>
some x5
def F_123(N:Nat)(x1:(List (BA×Nd×Int)))(x2:Int)(x3:(List BA)):Option ((Int×(List BA)) ⊕ ((List BA) ⊕ Bool)):=
if(decide (x2<(x1.length:Int)))=true then(
idx x1 x2 >>= fun x4=>
F_152 N x4.2.1.un.1 x4.2.1.un.2.1.1 x4.2.1.un.2.1.2.1 x4.2.1.un.2.1.2.2.1 x4.2.1.un.2.1.2.2.2 x4.2.1.un.2.2.1 x4.2.1.un.2.2.2.1 x4.2.1.un.2.2.2.2.1 x4.2.1.un.2.2.2.2.2 >>= fun x5=>
if(!x5)=true then(
some (.inr (.inr false)))
else(
app x3 ([x4.1]) >>= fun x6=>
some (.inl (w64 (x2+1),x6))))
else(
some (.inr (.inl x3)))
def F_215(N:Nat)(x1:(List ((List BA)×Nd×(BA×BA)×Int)))(x2:Int):Option (Int ⊕ (Unit ⊕ Bool)):=
if(decide (x2<(x1.length:Int)))=true then(
idx x1 x2 >>= fun x3=>
((if((x3.1.length:Int)==0)=true then(
some true)
else(
F_62 N x3.1 >>= fun x4=>
if(!x4)=true then(
some true)
else(
F_152 N x3.2.1.un.1 x3.2.1.un.2.1.1 x3.2.1.un.2.1.2.1 x3.2.1.un.2.1.2.2.1 x3.2.1.un.2.1.2.2.2 x3.2.1.un.2.2.1 x3.2.1.un.2.2.2.1 x3.2.1.un.2.2.2.2.1 x3.2.1.un.2.2.2.2.2 >>= fun x5=>
if(!x5)=true then(
some true)
else(
F_174 N x3.2.2.1.1 x3.2.2.1.2 >>= fun x6=>
some (!x6))))):Option Bool) >>= fun x7=>
if x7=true then(
some (.inr (.inr false)))
else(
some (.inl (w64 (x2+1)))))
else(
some (.inr (.inl ())))
def F_34(N:Nat)(x1:(List BA))(x2:(List (BA×Nd×Int)))(x3:(List ((List BA)×Nd×(BA×BA)×Int))):Option Bool:=
((iterO N (fun s=>F_123 N x2 s.1 s.2) (0,[])):Option ((List BA) ⊕ Bool)) >>= fun z=>match z with
| .inr z=>some z
| .inl x4=>
((iterO N (fun s=>F_215 N x3 s) 0):Option (Unit ⊕ Bool)) >>= fun z=>match z with
| .inr z=>some z
| .inl _=>
((if(decide ((x1.length:Int)≥1))=true then(
if(decide ((x1.length:Int)≤8))=true then(
if(decide ((x4.length:Int)≤32))=true then(
some (decide ((x3.length:Int)≤48)))
else(
some false))
else(
some false))
else(
some false)):Option Bool) >>= fun x5=>
((if x5=true then(
idx x1 0 >>= fun x6=>
if(x6.toList==(⟨#[109,97,105,110]⟩:BA).toList)=true then(
F_62 N x1 >>= fun x7=>
if x7=true then(
F_62 N x4 >>= fun x8=>
some x8)
else(
some false))
else(
some false))
else(
some false)):Option Bool) >>= fun x9=>
some x9
def F_230(_N:Nat)(x:(List BA)):Option (List BA):=app [] x
def F_235(_N:Nat):Option (List (BA×Nd)):=
some ([]:List (BA×Nd))
def F_139(_N:Nat)(x:(List Nd)):Option (List Nd):=app [] x
def F_112(_N:Nat)(self_:Int→Int→Int→Int→Int→(List Nd)→Int→Int→BA→Option (List Nd))(x1:(List Nd))(x2:(List Nd))(x3:Int):Option (((List Nd)×Int) ⊕ (List Nd)):=
if(decide (x3<(x1.length:Int)))=true then(
idx x2 x3 >>= fun x4=>
((self_ x4.un.1 x4.un.2.1.1 x4.un.2.1.2.1 x4.un.2.1.2.2.1 x4.un.2.1.2.2.2 x4.un.2.2.1 x4.un.2.2.2.1 x4.un.2.2.2.2.1 x4.un.2.2.2.2.2 >>= fun x5=>
idx x2 x3 >>= fun _x1487=>
setI x2 x3 (Nd.of (x4.un.1,(x4.un.2.1.1,x4.un.2.1.2.1,x4.un.2.1.2.2.1,x4.un.2.1.2.2.2),x5,x4.un.2.2.2.1,x4.un.2.2.2.2.1,x4.un.2.2.2.2.2)) >>= fun x6=>
some x6):Option (List Nd)) >>= fun x7=>
some (.inl (x7,w64 (x3+1))))
else(
some (.inr x2))
def F_28:(N:Nat)→(x1:Int)→(x2:Int)→(x3:Int)→(x4:Int)→(x5:Int)→(x6:(List Nd))→(x7:Int)→(x8:Int)→(x9:BA)→Option (List Nd)
|0,_,_,_,_,_,_,_,_,_=>none
|N+1,x1,x2,x3,x4,x5,x6,x7,x8,x9=>
F_139 N x6 >>= fun x10=>
((iterO N (fun s=>F_112 N (F_28 N) x10 s.1 s.2) (x10,0)):Option (List Nd)) >>= fun x11=>
some x11
def F_226(N:Nat)(x1:Int)(x2:Int)(x3:Int)(x4:Int)(x5:Int)(x6:(List Nd))(x7:Int)(x8:Int)(x9:BA):Option (Int×Int×Int×Int×Int×(List Nd)×Int×Int×BA):=
F_24 N x1 x2 x3 x4 x5 x6 x7 x8 x9 >>= fun x10=>
if(!x10)=true then(
some (0,0,0,0,0,[],0,0,ByteArray.empty))
else(
F_28 N x1 x2 x3 x4 x5 x6 x7 x8 x9 >>= fun x11=>
some (x1,x2,x3,x4,x5,x11,x7,x8,x9))
def F_184(N:Nat)(x1:(List BA))(x2:(List (BA×Nd)))(x3:BA)(x4:Int)(x5:Int)(x6:Int)(x7:Int)(x8:Int)(x9:(List Nd))(x10:Int)(x11:Int)(x12:BA):Option ((List BA)×(List (BA×Nd))×Int):=
some ((mget x2 x3).getD (Nd.of ((0:Int),((0:Int),(0:Int),(0:Int),(0:Int)),[],(0:Int),(0:Int),ByteArray.empty))) >>= fun _x147=>
F_18 N x3 >>= fun x13=>
if(!x13)=true then(
some (x1,x2,6))
else(
F_24 N x4 x5 x6 x7 x8 x9 x10 x11 x12 >>= fun x14=>
if(!x14)=true then(
some (x1,x2,1))
else(
if((mget x2 x3).isSome)=true then(
some (x1,x2,7))
else(
if(decide ((x1.length:Int)≥32))=true then(
some (x1,x2,13))
else(
app x1 ([x3]) >>= fun x15=>
((F_226 N x4 x5 x6 x7 x8 x9 x10 x11 x12 >>= fun(x16,x17,x18,x19,x20,x21,x22,x23,x24)=>
some (mset x2 x3 (Nd.of (x16,(x17,x18,x19,x20),x21,x22,x23,x24)))):Option (List (BA×Nd))) >>= fun x25=>
some (x15,x25,0)))))
def F_72(N:Nat)(x1:(List BA))(_x5:(List BA))(_x8:(List (Zc×Nd×Int×Int)))(x2:BA):Option Int:=
F_23 N x1 x2 >>= fun x3=>
some x3
def F_128(N:Nat)(x1:(List BA))(x2:(List BA))(x3:(List (Zc×Nd×Int×Int)))(x4:(List BA))(x5:(List (BA×Nd)))(x6:(List BA))(x7:Int)(x8:Zc):Option ((Int×Zc) ⊕ (Zc ⊕ ((List BA)×(List BA)×(List (Zc×Nd×Int×Int))×(List BA)×(List (BA×Nd))×Zc×Int))):=
if(decide (x7<(x6.length:Int)))=true then(
idx x6 x7 >>= fun x9=>
F_72 N x1 x2 x3 x9 >>= fun x10=>
if(decide (x10<0))=true then(
some (.inr (.inr (x1,x2,x3,x4,x5,[],15))))
else(
app x8 ([x10]) >>= fun x11=>
some (.inl (w64 (x7+1),x11))))
else(
some (.inr (.inl x8)))
def F_54(N:Nat)(x1:(List BA))(x2:(List BA))(x3:(List (Zc×Nd×Int×Int)))(x4:(List BA))(x5:(List (BA×Nd)))(x6:(List BA)):Option ((List BA)×(List BA)×(List (Zc×Nd×Int×Int))×(List BA)×(List (BA×Nd))×Zc×Int):=
((iterO N (fun s=>F_128 N x1 x2 x3 x4 x5 x6 s.1 s.2) (0,[])):Option (Zc ⊕ ((List BA)×(List BA)×(List (Zc×Nd×Int×Int))×(List BA)×(List (BA×Nd))×Zc×Int))) >>= fun z=>match z with
| .inr z=>some z
| .inl x7=>
sortI x7 >>= fun x8=>
some (x1,x2,x3,x4,x5,x8,0)
def F_151(N:Nat)(self_:(List BA)→(List (BA×Nd))→Int→(List BA)→Int→Int→Int→Int→Int→Int→(List Nd)→Int→Int→BA→Int→Option ((List BA)×(List (BA×Nd))×Int×(List BA)×Int×Int×Int×Int×Int×Int×(List Nd)×Int×Int×BA))(x1:(List BA))(x2:(List (BA×Nd)))(x3:Int)(x4:(List BA))(x5:Int)(x6:BA)(x7:Int):Option ((List BA)×(List (BA×Nd))×Int×(List BA)×Int×Int×Int×Int×Int×Int×(List Nd)×Int×Int×BA):=
some ((mget x2 x6).getD (Nd.of ((0:Int),((0:Int),(0:Int),(0:Int),(0:Int)),[],(0:Int),(0:Int),ByteArray.empty))) >>= fun x8=>
if(!((mget x2 x6).isSome))=true then(
some (x1,x2,x3,x4,15,0,0,0,0,0,[],0,0,ByteArray.empty))
else(
F_45 N x4 x6 >>= fun x9=>
if x9=true then(
some (x1,x2,x3,x4,9,0,0,0,0,0,[],0,0,ByteArray.empty))
else(
app x4 ([x6]) >>= fun x10=>
self_ x1 x2 x3 x10 x5 x8.un.1 x8.un.2.1.1 x8.un.2.1.2.1 x8.un.2.1.2.2.1 x8.un.2.1.2.2.2 x8.un.2.2.1 x8.un.2.2.2.1 x8.un.2.2.2.2.1 x8.un.2.2.2.2.2 x7 >>= fun(x11,x12,x13,x14,x15,x16,x17,x18,x19,x20,x21,x22,x23,x24)=>
((slc x14 0 (w64 ((x14.length:Int)-1)) >>= fun x25=>
some x25):Option (List BA)) >>= fun x26=>
some (x11,x12,x13,x26,x15,x16,x17,x18,x19,x20,x21,x22,x23,x24)))
def F_41(_N:Nat)(self_:(List BA)→(List (BA×Nd))→Int→(List BA)→Int→Int→Int→Int→Int→Int→(List Nd)→Int→Int→BA→Int→Option ((List BA)×(List (BA×Nd))×Int×(List BA)×Int×Int×Int×Int×Int×Int×(List Nd)×Int×Int×BA))(x1:Int)(x2:(List Nd))(x3:(List BA))(x4:(List (BA×Nd)))(x5:Int)(x6:(List BA))(x7:Int)(x8:(List Nd))(x9:Int):Option (((List BA)×(List (BA×Nd))×Int×(List BA)×Int×(List Nd)×Int) ⊕ ((List BA)×(List (BA×Nd))×Int×(List BA)×Int×(List Nd))):=
if(decide (x9<(x2.length:Int)))=true then(
idx x8 x9 >>= fun x10=>
((self_ x3 x4 x5 x6 x7 x10.un.1 x10.un.2.1.1 x10.un.2.1.2.1 x10.un.2.1.2.2.1 x10.un.2.1.2.2.2 x10.un.2.2.1 x10.un.2.2.2.1 x10.un.2.2.2.2.1 x10.un.2.2.2.2.2 (w64 (x1+1)) >>= fun(x11,x12,x13,x14,x15,x16,x17,x18,x19,x20,x21,x22,x23,x24)=>
idx x8 x9 >>= fun _x3479=>
setI x8 x9 (Nd.of (x16,(x17,x18,x19,x20),x21,x22,x23,x24)) >>= fun x25=>
some (x11,x12,x13,x14,x15,x25)):Option ((List BA)×(List (BA×Nd))×Int×(List BA)×Int×(List Nd))) >>= fun(x26,x27,x28,x29,x30,x31)=>
some (.inl (x26,x27,x28,x29,x30,x31,w64 (x9+1))))
else(
some (.inr (x3,x4,x5,x6,x7,x8)))
def F_7:(N:Nat)→(x1:(List BA))→(x2:(List (BA×Nd)))→(x3:Int)→(x4:(List BA))→(x5:Int)→(x6:Int)→(x7:Int)→(x8:Int)→(x9:Int)→(x10:Int)→(x11:(List Nd))→(x12:Int)→(x13:Int)→(x14:BA)→(x15:Int)→Option ((List BA)×(List (BA×Nd))×Int×(List BA)×Int×Int×Int×Int×Int×Int×(List Nd)×Int×Int×BA)
|0,_,_,_,_,_,_,_,_,_,_,_,_,_,_,_=>none
|N+1,x1,x2,x3,x4,x5,x6,x7,x8,x9,x10,x11,x12,x13,x14,x15=>
if(eOk errIds x5)=true then(
some (x1,x2,x3,x4,x5,0,0,0,0,0,[],0,0,ByteArray.empty))
else(
if(x6==5)=true then(
F_151 N (F_7 N) x1 x2 x3 x4 x5 x14 x15 >>= fun(x16,x17,x18,x19,x20,x21,x22,x23,x24,x25,x26,x27,x28,x29)=>
some (x16,x17,x18,x19,x20,x21,x22,x23,x24,x25,x26,x27,x28,x29))
else(
if(decide (x15>24))=true then(
some (x1,x2,x3,x4,8,0,0,0,0,0,[],0,0,ByteArray.empty))
else(
if(x3==600)=true then(
some (x1,x2,x3,x4,2,0,0,0,0,0,[],0,0,ByteArray.empty))
else(
F_139 N x11 >>= fun x30=>
((iterO N (fun s=>F_41 N (F_7 N) x15 x30 s.1 s.2.1 s.2.2.1 s.2.2.2.1 s.2.2.2.2.1 s.2.2.2.2.2.1 s.2.2.2.2.2.2) (x1,x2,w64 (x3+1),x4,x5,x30,0)):Option ((List BA)×(List (BA×Nd))×Int×(List BA)×Int×(List Nd))) >>= fun(x31,x32,x33,x34,x35,x36)=>
some (x31,x32,x33,x34,x35,x6,x7,x8,x9,x10,x36,x12,x13,x14)))))
def F_150(N:Nat)(x1:(List BA))(x2:(List (BA×Nd)))(x3:Int)(x4:Int)(x5:Int)(x6:Int)(x7:Int)(x8:(List Nd))(x9:Int)(x10:Int)(x11:BA):Option ((List BA)×(List (BA×Nd))×Int×Int×Int×Int×Int×(List Nd)×Int×Int×BA×Int):=
F_24 N x3 x4 x5 x6 x7 x8 x9 x10 x11 >>= fun x12=>
if(!x12)=true then(
((some ()):Option Unit) >>= fun _=>
some (x1,x2,0,0,0,0,0,[],0,0,ByteArray.empty,1))
else(
F_7 N x1 x2 0 ([]) 0 x3 x4 x5 x6 x7 x8 x9 x10 x11 1 >>= fun(x13,x14,_x113,_x114,x15,x16,x17,x18,x19,x20,x21,x22,x23,x24)=>
if(eOk errIds x15)=true then(
((some ()):Option Unit) >>= fun _=>
some (x13,x14,0,0,0,0,0,[],0,0,ByteArray.empty,x15))
else(
some (x13,x14,x16,x17,x18,x19,x20,x21,x22,x23,x24,0)))
def F_76(_N:Nat)(_x1:Int):Option Unit:=
some ()
def F_239(_N:Nat)(x1:Int)(x2:Int)(x3:Int)(x4:Int):Option Bool:=
some (([x1,x2,x3,x4]:List Int)==([0,0,0,0]:List Int))
def F_166(_N:Nat):Option Unit:=
some ()
def F_63(_N:Nat)(x1:Int)(x2:Int):Option Int:=
some (imin (w64 (x1+x2)) 1048576)
def F_220(N:Nat)(x1:Bool)(x2:Bool)(x3:Int)(x4:Int)(_x5:Int)(x5:Int)(x6:Int)(x7:Int)(x8:Int)(x9:Int)(x10:Int)(x11:Int)(x12:Int)(x13:Int)(x14:Int)(x15:Int)(x16:Int)(x17:Bool)(x18:Bool)(x19:Int)(x20:Int)(_x22:Int)(x21:Int)(x22:Int)(x23:Int)(x24:Int)(x25:Int)(x26:Int)(x27:Int)(x28:Int)(x29:Int)(x30:Int)(x31:Int)(x32:Int):Option (Bool×Bool×Int×Int×Int×Int×Int×Int×Int×Int×Int×Int×Int×Int×Int×Int):=
((if x1=true then(
some (true,true))
else(
some (x17,false))):Option (Bool×Bool)) >>= fun(x33,_x368)=>
if x33=true then(
F_76 N 0 >>= fun _=>
some (true,false,(-1),(-1),0,0,0,0,0,0,0,0,0,0,0,0))
else(
((if x2=true then(
F_63 N x3 x19 >>= fun x34=>
F_63 N x4 x20 >>= fun x35=>
F_20 N x13 x14 x15 x16 x29 x30 x31 x32 >>= fun(x36,x37,x38,x39)=>
some (true,x18,x34,x35,x36,x37,x38,x39))
else(
F_63 N x3 x19 >>= fun x40=>
F_63 N x4 x20 >>= fun x41=>
F_20 N x13 x14 x15 x16 x29 x30 x31 x32 >>= fun(x42,x43,x44,x45)=>
some (false,false,x40,x41,x42,x43,x44,x45))):Option (Bool×Bool×Int×Int×Int×Int×Int×Int)) >>= fun(x46,x47,x48,x49,x50,x51,x52,x53)=>
((if x46=true then(
F_20 N x5 x6 x7 x8 x21 x22 x23 x24 >>= fun(x54,x55,x56,x57)=>
some (x54,x55,x56,x57))
else(
some (x5,x6,x7,x8))):Option Zd) >>= fun(x58,x59,x60,x61)=>
((if x18=true then(
F_20 N x25 x26 x27 x28 x9 x10 x11 x12 >>= fun(x62,x63,x64,x65)=>
some (x62,x63,x64,x65))
else(
some (x25,x26,x27,x28))):Option Zd) >>= fun(x66,x67,x68,x69)=>
some (false,x47,x48,x49,x58,x59,x60,x61,x66,x67,x68,x69,x50,x51,x52,x53))
def F_221(N:Nat)(x1:Bool)(x2:Bool)(x3:Int)(x4:Int)(x5:Int)(x6:Int)(x7:Int)(x8:Int)(x9:Int)(x10:Int)(x11:Int)(x12:Int)(x13:Int)(x14:Int)(x15:Int)(x16:Int)(x17:Int)(x18:Bool)(x19:Bool)(x20:Int)(x21:Int)(x22:Int)(x23:Int)(x24:Int)(x25:Int)(x26:Int)(x27:Int)(x28:Int)(x29:Int)(x30:Int)(x31:Int)(x32:Int)(x33:Int)(x34:Int):Option (Bool×Bool×Int×Int×Int×Int×Int×Int×Int×Int×Int×Int×Int×Int×Int×Int×Int):=
if x1=true then(
some (x18,x19,x20,x21,x22,x23,x24,x25,x26,x27,x28,x29,x30,x31,x32,x33,x34))
else(
if x18=true then(
some (x1,x2,x3,x4,x5,x6,x7,x8,x9,x10,x11,x12,x13,x14,x15,x16,x17))
else(
((if x2=true then(
F_20 N x6 x7 x8 x9 x23 x24 x25 x26 >>= fun(x35,x36,x37,x38)=>
F_20 N x10 x11 x12 x13 x27 x28 x29 x30 >>= fun(x39,x40,x41,x42)=>
F_20 N x14 x15 x16 x17 x31 x32 x33 x34 >>= fun(x43,x44,x45,x46)=>
some (true,imin x3 x20,imax x4 x21,x35,x36,x37,x38,x39,x40,x41,x42,x43,x44,x45,x46))
else(
F_20 N x6 x7 x8 x9 x23 x24 x25 x26 >>= fun(x47,x48,x49,x50)=>
F_20 N x10 x11 x12 x13 x27 x28 x29 x30 >>= fun(x51,x52,x53,x54)=>
F_20 N x14 x15 x16 x17 x31 x32 x33 x34 >>= fun(x55,x56,x57,x58)=>
some (x19,imin x3 x20,imax x4 x21,x47,x48,x49,x50,x51,x52,x53,x54,x55,x56,x57,x58))):Option (Bool×Int×Int×Int×Int×Int×Int×Int×Int×Int×Int×Int×Int×Int×Int)) >>= fun(x59,x60,x61,x62,x63,x64,x65,x66,x67,x68,x69,x70,x71,x72,x73)=>
some (false,x59,x60,x61,0,x62,x63,x64,x65,x66,x67,x68,x69,x70,x71,x72,x73)))
def F_87(_N:Nat)(x1:Int)(x2:Int):Option Int:=
((if(decide (x1>0))=true then(
nz x1 >>= fun _x12=>
some (decide (x2>(w64 ((1048576:Int).tdiv x1)))))
else(
some false)):Option Bool) >>= fun x3=>
if x3=true then(
some 1048576)
else(
some (imin (w64 (x1*x2)) 1048576))
def F_219(N:Nat)(x1:Bool)(x2:Bool)(x3:Int)(x4:Int)(x5:Int)(x6:Int)(x7:Int)(x8:Int)(x9:Int)(x10:Int)(x11:Int)(x12:Int)(x13:Int)(x14:Int)(x15:Int)(x16:Int)(x17:Int)(x18:Int)(x19:Int):Option (Bool×Bool×Int×Int×Int×Int×Int×Int×Int×Int×Int×Int×Int×Int×Int×Int×Int):=
if x1=true then(
if(x18==0)=true then(
F_166 N >>= fun _=>
some (false,true,0,0,0,0,0,0,0,0,0,0,0,0,0,0,0))
else(
F_76 N 0 >>= fun _=>
some (true,false,(-1),(-1),0,0,0,0,0,0,0,0,0,0,0,0,0)))
else(
((if x2=true then(
some (true,true))
else(
some (false,x18==0))):Option (Bool×Bool)) >>= fun(_x103,x20)=>
F_87 N x3 x18 >>= fun x21=>
F_87 N x4 x19 >>= fun x22=>
((if(x19==(-1))=true then(
((if(decide (x4>0))=true then(
some 1048576)
else(
some 0)):Option Int) >>= fun x23=>
some x23)
else(
some x22)):Option Int) >>= fun x24=>
some (x1,x20,x21,x24,x5,x6,x7,x8,x9,x10,x11,x12,x13,x14,x15,x16,x17))
def F_130(N:Nat)(self_:Int→Int→Int→Int→Int→(List Nd)→Int→Int→BA→Option (Bool×Bool×Int×Int×Int×Int×Int×Int×Int×Int×Int×Int×Int×Int×Int×Int×Int))(x1:(List Nd))(x2:Int)(x3:(List (Bool×Bool×Int×Int×Int×Zd×Zd×Zd)))(x4:Int):Option ((Int×(List (Bool×Bool×Int×Int×Int×Zd×Zd×Zd))×Int) ⊕ ((List (Bool×Bool×Int×Int×Int×Zd×Zd×Zd))×Int)):=
if(decide (x2<(x1.length:Int)))=true then(
idx x1 x2 >>= fun x5=>
self_ x5.un.1 x5.un.2.1.1 x5.un.2.1.2.1 x5.un.2.1.2.2.1 x5.un.2.1.2.2.2 x5.un.2.2.1 x5.un.2.2.2.1 x5.un.2.2.2.2.1 x5.un.2.2.2.2.2 >>= fun(x6,x7,x8,x9,x10,x11,x12,x13,x14,x15,x16,x17,x18,x19,x20,x21,x22)=>
app x3 ([(x6,x7,x8,x9,x10,(x11,x12,x13,x14),(x15,x16,x17,x18),(x19,x20,x21,x22))]) >>= fun x23=>
F_63 N x4 x10 >>= fun x24=>
some (.inl (w64 (x2+1),x23,x24)))
else(
some (.inr (x3,x4)))
def F_167(N:Nat)(x1:(List (Bool×Bool×Int×Int×Int×Zd×Zd×Zd)))(x2:Int)(x3:Bool)(x4:Bool)(x5:Int)(x6:Int)(x7:Int)(x8:Int)(x9:Int)(x10:Int)(x11:Int)(x12:Int)(x13:Int)(x14:Int)(x15:Int)(x16:Int)(x17:Int)(x18:Int):Option ((Int×Bool×Bool×Int×Int×Int×Int×Int×Int×Int×Int×Int×Int×Int×Int×Int×Int) ⊕ (Bool×Bool×Int×Int×Int×Int×Int×Int×Int×Int×Int×Int×Int×Int×Int×Int)):=
if(decide (x2<(x1.length:Int)))=true then(
idx x1 x2 >>= fun x19=>
F_220 N x3 x4 x5 x6 0 x7 x8 x9 x10 x11 x12 x13 x14 x15 x16 x17 x18 x19.1 x19.2.1 x19.2.2.1 x19.2.2.2.1 x19.2.2.2.2.1 x19.2.2.2.2.2.1.1 x19.2.2.2.2.2.1.2.1 x19.2.2.2.2.2.1.2.2.1 x19.2.2.2.2.2.1.2.2.2 x19.2.2.2.2.2.2.1.1 x19.2.2.2.2.2.2.1.2.1 x19.2.2.2.2.2.2.1.2.2.1 x19.2.2.2.2.2.2.1.2.2.2 x19.2.2.2.2.2.2.2.1 x19.2.2.2.2.2.2.2.2.1 x19.2.2.2.2.2.2.2.2.2.1 x19.2.2.2.2.2.2.2.2.2.2 >>= fun(x20,x21,x22,x23,x24,x25,x26,x27,x28,x29,x30,x31,x32,x33,x34,x35)=>
some (.inl (w64 (x2+1),x20,x21,x22,x23,x24,x25,x26,x27,x28,x29,x30,x31,x32,x33,x34,x35)))
else(
some (.inr (x3,x4,x5,x6,x7,x8,x9,x10,x11,x12,x13,x14,x15,x16,x17,x18)))
def F_168(N:Nat)(x1:(List (Bool×Bool×Int×Int×Int×Zd×Zd×Zd)))(x2:Int)(x3:Bool)(x4:Bool)(x5:Int)(x6:Int)(x7:Int)(x8:Int)(x9:Int)(x10:Int)(x11:Int)(x12:Int)(x13:Int)(x14:Int)(x15:Int)(x16:Int)(x17:Int)(x18:Int)(x19:Int):Option ((Int×Bool×Bool×Int×Int×Int×Int×Int×Int×Int×Int×Int×Int×Int×Int×Int×Int×Int) ⊕ (Bool×Bool×Int×Int×Int×Int×Int×Int×Int×Int×Int×Int×Int×Int×Int×Int×Int)):=
if(decide (x2<(x1.length:Int)))=true then(
idx x1 x2 >>= fun x20=>
F_221 N x3 x4 x5 x6 x7 x8 x9 x10 x11 x12 x13 x14 x15 x16 x17 x18 x19 x20.1 x20.2.1 x20.2.2.1 x20.2.2.2.1 x20.2.2.2.2.1 x20.2.2.2.2.2.1.1 x20.2.2.2.2.2.1.2.1 x20.2.2.2.2.2.1.2.2.1 x20.2.2.2.2.2.1.2.2.2 x20.2.2.2.2.2.2.1.1 x20.2.2.2.2.2.2.1.2.1 x20.2.2.2.2.2.2.1.2.2.1 x20.2.2.2.2.2.2.1.2.2.2 x20.2.2.2.2.2.2.2.1 x20.2.2.2.2.2.2.2.2.1 x20.2.2.2.2.2.2.2.2.2.1 x20.2.2.2.2.2.2.2.2.2.2 >>= fun(x21,x22,x23,x24,x25,x26,x27,x28,x29,x30,x31,x32,x33,x34,x35,x36,x37)=>
some (.inl (w64 (x2+1),x21,x22,x23,x24,x25,x26,x27,x28,x29,x30,x31,x32,x33,x34,x35,x36,x37)))
else(
some (.inr (x3,x4,x5,x6,x7,x8,x9,x10,x11,x12,x13,x14,x15,x16,x17,x18,x19)))
def F_13:(N:Nat)→(x1:Int)→(x2:Int)→(x3:Int)→(x4:Int)→(x5:Int)→(x6:(List Nd))→(x7:Int)→(x8:Int)→(x9:BA)→Option (Bool×Bool×Int×Int×Int×Int×Int×Int×Int×Int×Int×Int×Int×Int×Int×Int×Int)
|0,_,_,_,_,_,_,_,_,_=>none
|N+1,x1,x2,x3,x4,x5,x6,x7,x8,x9=>
((iterO N (fun s=>F_130 N (F_13 N) x6 s.1 s.2.1 s.2.2) (0,[],1)):Option ((List (Bool×Bool×Int×Int×Int×Zd×Zd×Zd))×Int)) >>= fun(x10,x11)=>
((((if(x1==1)=true then(
F_239 N x2 x3 x4 x5 >>= fun x12=>
((if x12=true then(
F_76 N 0 >>= fun _=>
some (true,(-1),(-1),0,0,0,0,0,0,0,0,0,0,0,0))
else(
some (false,1,1,x2,x3,x4,x5,x2,x3,x4,x5,x2,x3,x4,x5))):Option (Bool×Int×Int×Int×Int×Int×Int×Int×Int×Int×Int×Int×Int×Int×Int)) >>= fun(x13,x14,x15,x16,x17,x18,x19,x20,x21,x22,x23,x24,x25,x26,x27)=>
some (x11,x13,false,x14,x15,0,x16,x17,x18,x19,x20,x21,x22,x23,x24,x25,x26,x27))
else(
((if(x1==2)=true then(
F_166 N >>= fun _=>
((iterO N (fun s=>F_167 N x10 s.1 s.2.1 s.2.2.1 s.2.2.2.1 s.2.2.2.2.1 s.2.2.2.2.2.1 s.2.2.2.2.2.2.1 s.2.2.2.2.2.2.2.1 s.2.2.2.2.2.2.2.2.1 s.2.2.2.2.2.2.2.2.2.1 s.2.2.2.2.2.2.2.2.2.2.1 s.2.2.2.2.2.2.2.2.2.2.2.1 s.2.2.2.2.2.2.2.2.2.2.2.2.1 s.2.2.2.2.2.2.2.2.2.2.2.2.2.1 s.2.2.2.2.2.2.2.2.2.2.2.2.2.2.1 s.2.2.2.2.2.2.2.2.2.2.2.2.2.2.2.1 s.2.2.2.2.2.2.2.2.2.2.2.2.2.2.2.2) (0,false,true,0,0,0,0,0,0,0,0,0,0,0,0,0,0)):Option (Bool×Bool×Int×Int×Int×Int×Int×Int×Int×Int×Int×Int×Int×Int×Int×Int)) >>= fun(x28,x29,x30,x31,x32,x33,x34,x35,x36,x37,x38,x39,x40,x41,x42,x43)=>
some (x11,x28,x29,x30,x31,0,x32,x33,x34,x35,x36,x37,x38,x39,x40,x41,x42,x43))
else(
((if(x1==3)=true then(
idx x10 0 >>= fun x44=>
slc x10 1 (x10.length:Int) >>= fun x45=>
((iterO N (fun s=>F_168 N x45 s.1 s.2.1 s.2.2.1 s.2.2.2.1 s.2.2.2.2.1 s.2.2.2.2.2.1 s.2.2.2.2.2.2.1 s.2.2.2.2.2.2.2.1 s.2.2.2.2.2.2.2.2.1 s.2.2.2.2.2.2.2.2.2.1 s.2.2.2.2.2.2.2.2.2.2.1 s.2.2.2.2.2.2.2.2.2.2.2.1 s.2.2.2.2.2.2.2.2.2.2.2.2.1 s.2.2.2.2.2.2.2.2.2.2.2.2.2.1 s.2.2.2.2.2.2.2.2.2.2.2.2.2.2.1 s.2.2.2.2.2.2.2.2.2.2.2.2.2.2.2.1 s.2.2.2.2.2.2.2.2.2.2.2.2.2.2.2.2.1 s.2.2.2.2.2.2.2.2.2.2.2.2.2.2.2.2.2) (0,x44.1,x44.2.1,x44.2.2.1,x44.2.2.2.1,x44.2.2.2.2.1,x44.2.2.2.2.2.1.1,x44.2.2.2.2.2.1.2.1,x44.2.2.2.2.2.1.2.2.1,x44.2.2.2.2.2.1.2.2.2,x44.2.2.2.2.2.2.1.1,x44.2.2.2.2.2.2.1.2.1,x44.2.2.2.2.2.2.1.2.2.1,x44.2.2.2.2.2.2.1.2.2.2,x44.2.2.2.2.2.2.2.1,x44.2.2.2.2.2.2.2.2.1,x44.2.2.2.2.2.2.2.2.2.1,x44.2.2.2.2.2.2.2.2.2.2)):Option (Bool×Bool×Int×Int×Int×Int×Int×Int×Int×Int×Int×Int×Int×Int×Int×Int×Int)) >>= fun(x46,x47,x48,x49,x50,x51,x52,x53,x54,x55,x56,x57,x58,x59,x60,x61,x62)=>
some (x11,x46,x47,x48,x49,x50,x51,x52,x53,x54,x55,x56,x57,x58,x59,x60,x61,x62))
else(
((if(x1==4)=true then(
((idx x10 0 >>= fun x63=>
F_219 N x63.1 x63.2.1 x63.2.2.1 x63.2.2.2.1 x63.2.2.2.2.1 x63.2.2.2.2.2.1.1 x63.2.2.2.2.2.1.2.1 x63.2.2.2.2.2.1.2.2.1 x63.2.2.2.2.2.1.2.2.2 x63.2.2.2.2.2.2.1.1 x63.2.2.2.2.2.2.1.2.1 x63.2.2.2.2.2.2.1.2.2.1 x63.2.2.2.2.2.2.1.2.2.2 x63.2.2.2.2.2.2.2.1 x63.2.2.2.2.2.2.2.2.1 x63.2.2.2.2.2.2.2.2.2.1 x63.2.2.2.2.2.2.2.2.2.2 x7 x8 >>= fun(x64,x65,x66,x67,x68,x69,x70,x71,x72,x73,x74,x75,x76,x77,x78,x79,x80)=>
some (x64,x65,x66,x67,x68,x69,x70,x71,x72,x73,x74,x75,x76,x77,x78,x79,x80)):Option (Bool×Bool×Int×Int×Int×Int×Int×Int×Int×Int×Int×Int×Int×Int×Int×Int×Int)) >>= fun(x81,x82,x83,x84,x85,x86,x87,x88,x89,x90,x91,x92,x93,x94,x95,x96,x97)=>
((if(x8==(-1))=true then(
some (w64 (x7+1)))
else(
some x8)):Option Int) >>= fun x98=>
idx x10 0 >>= fun x99=>
F_87 N x99.2.2.2.2.1 x98 >>= fun x100=>
F_63 N 1 x100 >>= fun x101=>
some (x101,x81,x82,x83,x84,x85,x86,x87,x88,x89,x90,x91,x92,x93,x94,x95,x96,x97))
else(
F_76 N 0 >>= fun _=>
some (x11,true,false,(-1),(-1),0,0,0,0,0,0,0,0,0,0,0,0,0))):Option (Int×Bool×Bool×Int×Int×Int×Int×Int×Int×Int×Int×Int×Int×Int×Int×Int×Int×Int)) >>= fun(x102,x103,x104,x105,x106,x107,x108,x109,x110,x111,x112,x113,x114,x115,x116,x117,x118,x119)=>
some (x102,x103,x104,x105,x106,x107,x108,x109,x110,x111,x112,x113,x114,x115,x116,x117,x118,x119))):Option (Int×Bool×Bool×Int×Int×Int×Int×Int×Int×Int×Int×Int×Int×Int×Int×Int×Int×Int)) >>= fun(x120,x121,x122,x123,x124,x125,x126,x127,x128,x129,x130,x131,x132,x133,x134,x135,x136,x137)=>
some (x120,x121,x122,x123,x124,x125,x126,x127,x128,x129,x130,x131,x132,x133,x134,x135,x136,x137))):Option (Int×Bool×Bool×Int×Int×Int×Int×Int×Int×Int×Int×Int×Int×Int×Int×Int×Int×Int)) >>= fun(x138,x139,x140,x141,x142,x143,x144,x145,x146,x147,x148,x149,x150,x151,x152,x153,x154,x155)=>
some (x138,x139,x140,x141,x142,x143,x144,x145,x146,x147,x148,x149,x150,x151,x152,x153,x154,x155))):Option (Int×Bool×Bool×Int×Int×Int×Int×Int×Int×Int×Int×Int×Int×Int×Int×Int×Int×Int)) >>= fun(x156,x157,x158,x159,x160,x161,x162,x163,x164,x165,x166,x167,x168,x169,x170,x171,x172,x173)=>
some (x156,x157,x158,x159,x160,x161,x162,x163,x164,x165,x166,x167,x168,x169,x170,x171,x172,x173)):Option (Int×Bool×Bool×Int×Int×Int×Int×Int×Int×Int×Int×Int×Int×Int×Int×Int×Int×Int)) >>= fun(x174,x175,x176,x177,x178,_x77816,x179,x180,x181,x182,x183,x184,x185,x186,x187,x188,x189,x190)=>
some (x175,x176,x177,x178,x174,x179,x180,x181,x182,x183,x184,x185,x186,x187,x188,x189,x190)
def F_240(N:Nat)(x1:Int)(x2:Int)(x3:Int)(x4:Int)(x5:Int)(x6:(List Nd))(x7:Int)(x8:Int)(x9:BA):Option (Bool×Bool×Int×Int×Int×Int×Int×Int×Int×Int×Int×Int×Int×Int×Int×Int×Int):=
F_24 N x1 x2 x3 x4 x5 x6 x7 x8 x9 >>= fun x10=>
if(!x10)=true then(
F_76 N 0 >>= fun _=>
some (true,false,(-1),(-1),0,0,0,0,0,0,0,0,0,0,0,0,0))
else(
F_13 N x1 x2 x3 x4 x5 x6 x7 x8 x9 >>= fun(x11,x12,x13,x14,x15,x16,x17,x18,x19,x20,x21,x22,x23,x24,x25,x26,x27)=>
some (x11,x12,x13,x14,x15,x16,x17,x18,x19,x20,x21,x22,x23,x24,x25,x26,x27))
def F_105(N:Nat)(x1:Int)(x2:Int)(x3:Int)(x4:Int)(x5:Int)(x6:(List Nd))(x7:Int)(x8:Int)(x9:BA):Option Int:=
F_240 N x1 x2 x3 x4 x5 x6 x7 x8 x9 >>= fun(_x40,_x41,_x42,_x43,x10,_x45,_x46,_x47,_x48,_x49,_x50,_x51,_x52,_x53,_x54,_x55,_x56)=>
some x10
def F_238(N:Nat)(x1:(List BA))(x2:(List BA))(x3:(List (Zc×Nd×Int×Int)))(x4:(List BA))(x5:(List (BA×Nd)))(x6:BA):Option ((List BA)×(List BA)×(List (Zc×Nd×Int×Int))×(List BA)×(List (BA×Nd))×Int):=
if(x6.toList==ByteArray.empty.toList)=true then(
some (x1,x2,x3,x4,x5,(-1)))
else(
F_23 N x2 x6 >>= fun x7=>
if(decide (x7≥0))=true then(
some (x1,x2,x3,x4,x5,x7))
else(
app x2 ([x6]) >>= fun x8=>
some (x1,x8,x3,x4,x5,w64 ((x8.length:Int)-1))))
def F_218(N:Nat)(x1:(List BA))(x2:(List BA))(x3:(List (Zc×Nd×Int×Int)))(x4:(List BA))(x5:(List (BA×Nd)))(x6:(List BA))(x7:Int)(x8:Int)(x9:Int)(x10:Int)(x11:Int)(x12:(List Nd))(x13:Int)(x14:Int)(x15:BA)(x16:BA)(x17:BA)(_x39:Int):Option ((List BA)×(List BA)×(List (Zc×Nd×Int×Int))×(List BA)×(List (BA×Nd))×Int):=
F_54 N x1 x2 x3 x4 x5 x6 >>= fun(x18,x19,x20,x21,x22,x23,x24)=>
if(eOk errIds x24)=true then(
some (x18,x19,x20,x21,x22,x24))
else(
((if(x17.toList != ByteArray.empty.toList)=true then(
F_72 N x18 x19 x20 x17 >>= fun x25=>
if(decide (x25<0))=true then(
some (.inr (x18,x19,x20,x21,x22,15)))
else(
some (.inl x25)))
else(
some (.inl (-1)))):Option (Int ⊕ ((List BA)×(List BA)×(List (Zc×Nd×Int×Int))×(List BA)×(List (BA×Nd))×Int))) >>= fun z=>match z with
| .inr z=>some z
| .inl x26=>
((F_150 N x21 x22 x7 x8 x9 x10 x11 x12 x13 x14 x15 >>= fun(x27,x28,x29,x30,x31,x32,x33,x34,x35,x36,x37,x38)=>
some (x27,x28,x38,x29,x30,x31,x32,x33,x34,x35,x36,x37)):Option ((List BA)×(List (BA×Nd))×Int×Int×Int×Int×Int×Int×(List Nd)×Int×Int×BA)) >>= fun(x39,x40,x41,x42,x43,x44,x45,x46,x47,x48,x49,x50)=>
if(eOk errIds x41)=true then(
some (x18,x19,x20,x39,x40,x41))
else(
F_105 N x42 x43 x44 x45 x46 x47 x48 x49 x50 >>= fun x51=>
if(decide (x51>4000))=true then(
some (x18,x19,x20,x39,x40,2))
else(
((F_238 N x18 x19 x20 x39 x40 x16 >>= fun(x52,x53,x54,x55,x56,x57)=>
app x54 ([(x23,(Nd.of (x42,(x43,x44,x45,x46),x47,x48,x49,x50)),x57,x26)]) >>= fun x58=>
some (x52,x53,x58,x55,x56)):Option ((List BA)×(List BA)×(List (Zc×Nd×Int×Int))×(List BA)×(List (BA×Nd)))) >>= fun(x59,x60,x61,x62,x63)=>
some (x59,x60,x61,x62,x63,0))))
def F_103(N:Nat)(x1:(List (BA×Nd×Int)))(x2:Int)(x3:(List BA))(x4:(List (BA×Nd))):Option ((Int×(List BA)×(List (BA×Nd))) ⊕ (((List BA)×(List (BA×Nd))) ⊕ ((List BA)×(List BA)×(List (Zc×Nd×Int×Int))×Int×Int))):=
if(decide (x2<(x1.length:Int)))=true then(
idx x1 x2 >>= fun x5=>
F_184 N x3 x4 x5.1 x5.2.1.un.1 x5.2.1.un.2.1.1 x5.2.1.un.2.1.2.1 x5.2.1.un.2.1.2.2.1 x5.2.1.un.2.1.2.2.2 x5.2.1.un.2.2.1 x5.2.1.un.2.2.2.1 x5.2.1.un.2.2.2.2.1 x5.2.1.un.2.2.2.2.2 >>= fun(x6,x7,x8)=>
if(eOk errIds x8)=true then(
((some ()):Option Unit) >>= fun _=>
some (.inr (.inr ([],[],[],x5.2.2,x8))))
else(
some (.inl (w64 (x2+1),x6,x7))))
else(
some (.inr (.inl (x3,x4))))
def F_126(N:Nat)(x1:(List ((List BA)×Nd×(BA×BA)×Int)))(x2:(List BA))(x3:(List BA))(x4:(List (Zc×Nd×Int×Int)))(x5:(List BA))(x6:(List (BA×Nd)))(x7:Int):Option (((List BA)×(List BA)×(List (Zc×Nd×Int×Int))×(List BA)×(List (BA×Nd))×Int) ⊕ (((List BA)×(List BA)×(List (Zc×Nd×Int×Int))×(List BA)×(List (BA×Nd))) ⊕ ((List BA)×(List BA)×(List (Zc×Nd×Int×Int))×Int×Int))):=
if(decide (x7<(x1.length:Int)))=true then(
idx x1 x7 >>= fun x8=>
F_218 N x2 x3 x4 x5 x6 x8.1 x8.2.1.un.1 x8.2.1.un.2.1.1 x8.2.1.un.2.1.2.1 x8.2.1.un.2.1.2.2.1 x8.2.1.un.2.1.2.2.2 x8.2.1.un.2.2.1 x8.2.1.un.2.2.2.1 x8.2.1.un.2.2.2.2.1 x8.2.1.un.2.2.2.2.2 x8.2.2.1.1 x8.2.2.1.2 x8.2.2.2 >>= fun(x9,x10,x11,x12,x13,x14)=>
if(eOk errIds x14)=true then(
((some ()):Option Unit) >>= fun _=>
some (.inr (.inr ([],[],[],x8.2.2.2,x14))))
else(
some (.inl (x9,x10,x11,x12,x13,w64 (x7+1)))))
else(
some (.inr (.inl (x2,x3,x4,x5,x6))))
def F_27(N:Nat)(x1:(List BA))(x2:(List (BA×Nd×Int)))(x3:(List ((List BA)×Nd×(BA×BA)×Int))):Option ((List BA)×(List BA)×(List (Zc×Nd×Int×Int))×Int×Int):=
F_34 N x1 x2 x3 >>= fun x4=>
if(!x4)=true then(
((some ()):Option Unit) >>= fun _=>
some ([],[],[],0,1))
else(
if((x3.length:Int)==0)=true then(
((some ()):Option Unit) >>= fun _=>
some ([],[],[],0,4))
else(
F_230 N x1 >>= fun x5=>
F_235 N >>= fun x6=>
((iterO N (fun s=>F_103 N x2 s.1 s.2.1 s.2.2) (0,[],x6)):Option (((List BA)×(List (BA×Nd))) ⊕ ((List BA)×(List BA)×(List (Zc×Nd×Int×Int))×Int×Int))) >>= fun z=>match z with
| .inr z=>some z
| .inl (x7,x8)=>
((iterO N (fun s=>F_126 N x3 s.1 s.2.1 s.2.2.1 s.2.2.2.1 s.2.2.2.2.1 s.2.2.2.2.2) (x5,[],[],x7,x8,0)):Option (((List BA)×(List BA)×(List (Zc×Nd×Int×Int))×(List BA)×(List (BA×Nd))) ⊕ ((List BA)×(List BA)×(List (Zc×Nd×Int×Int))×Int×Int))) >>= fun z=>match z with
| .inr z=>some z
| .inl (x9,x10,x11,_x2304,_x2307)=>
some (x9,x10,x11,0,0)))
def F_127(N:Nat)(x1:Zc):Option ((List BA)×(List BA)×(List (Zc×Nd×Int×Int))×Int×Int):=
F_39 N x1 >>= fun(x2,x3,x4,x5,x6)=>
if(eOk errIds x6)=true then(
some ([],[],[],x5,x6))
else(
F_27 N x2 x3 x4 >>= fun(x7,x8,x9,x10,x11)=>
some (x7,x8,x9,x10,x11))
def F_149(_N:Nat)(x1:(List (Int×((List BA)×(List BA)×(List (Zc×Nd×Int×Int))))))(x2:Int)(x3:Int):Option ((Int×Int) ⊕ (Unit ⊕ Bool)):=
if(decide (x2<(x1.length:Int)))=true then(
idx x1 x2 >>= fun x4=>
((if(decide (x4.1≤x3))=true then(
some true)
else(
some ((x4.2.1.length:Int)==0))):Option Bool) >>= fun x5=>
if x5=true then(
some (.inr (.inr false)))
else(
some (.inl (w64 (x2+1),x4.1))))
else(
some (.inr (.inl ())))
def F_53(N:Nat)(x1:(List BA))(_x5:(List BA))(_x8:(List (Zc×Nd×Int×Int)))(x2:(List (Int×((List BA)×(List BA)×(List (Zc×Nd×Int×Int)))))):Option Bool:=
((iterO N (fun s=>F_149 N x2 s.1 s.2) (0,(-1))):Option (Unit ⊕ Bool)) >>= fun z=>match z with
| .inr z=>some z
| .inl _=>
some (decide ((x1.length:Int)>0))
def F_119(_N:Nat)(x1:(List BA))(_x5:(List BA))(_x8:(List (Zc×Nd×Int×Int)))(x2:Int):Option BA:=
((if(decide (x2<0))=true then(
some true)
else(
some (decide (x2≥(x1.length:Int))))):Option Bool) >>= fun x3=>
if x3=true then(
some ByteArray.empty)
else(
idx x1 x2 >>= fun x4=>
some x4)
def F_234(N:Nat)(x1:(List BA))(x2:(List BA))(x3:(List (Zc×Nd×Int×Int)))(x4:(List BA))(x5:(List BA))(x6:(List (Zc×Nd×Int×Int)))(x7:Int):Option Int:=
F_119 N x1 x2 x3 x7 >>= fun x8=>
F_72 N x4 x5 x6 x8 >>= fun x9=>
some (imax x9 0)
def F_132(_N:Nat)(x1:Zc)(x2:Int)(x3:Int):Option (Int ⊕ (Unit ⊕ Int)):=
if(decide (x3<(x1.length:Int)))=true then(
idx x1 x3 >>= fun x4=>
if(x2==x4)=true then(
some (.inr (.inr x3)))
else(
some (.inl (w64 (x3+1)))))
else(
some (.inr (.inl ())))
def F_55(N:Nat)(x1:Zc)(x2:Int):Option Int:=
((iterO N (fun s=>F_132 N x1 x2 s) 0):Option (Unit ⊕ Int)) >>= fun z=>match z with
| .inr z=>some z
| .inl _=>
some (-1)
def F_169(N:Nat)(x1:Zc)(x2:Int):Option Bool:=
F_55 N x1 x2 >>= fun x3=>
some (decide (x3≥0))
def F_73(N:Nat)(x1:(List (Zc×Nd×Int×Int)))(x2:Int)(x3:Int)(x4:Zc):Option ((Int×Zc) ⊕ Zc):=
if(decide (x3<(x1.length:Int)))=true then(
((idx x1 x3 >>= fun x5=>
F_169 N x5.1 x2 >>= fun x6=>
((if x6=true then(
app x4 ([x3]) >>= fun x7=>
some x7)
else(
some x4)):Option Zc) >>= fun x8=>
some x8):Option Zc) >>= fun x9=>
some (.inl (w64 (x3+1),x9)))
else(
some (.inr x4))
def F_35(N:Nat)(_x2:(List BA))(_x5:(List BA))(x1:(List (Zc×Nd×Int×Int)))(x2:Int):Option Zc:=
((iterO N (fun s=>F_73 N x1 x2 s.1 s.2) (0,[])):Option Zc) >>= fun x3=>
some x3
def F_74(_N:Nat)(x1:(List (Zc×Nd×Int×Int)))(x2:Zc)(x3:Int)(x4:(List Nd)):Option ((Int×(List Nd)) ⊕ (List Nd)):=
if(decide (x3<(x2.length:Int)))=true then(
idx x2 x3 >>= fun x5=>
idx x1 x5 >>= fun x6=>
app x4 ([(Nd.of (x6.2.1.un.1,(x6.2.1.un.2.1.1,x6.2.1.un.2.1.2.1,x6.2.1.un.2.1.2.2.1,x6.2.1.un.2.1.2.2.2),x6.2.1.un.2.2.1,x6.2.1.un.2.2.2.1,x6.2.1.un.2.2.2.2.1,x6.2.1.un.2.2.2.2.2))]) >>= fun x7=>
some (.inl (w64 (x3+1),x7)))
else(
some (.inr x4))
def F_36(N:Nat)(_x2:(List BA))(_x5:(List BA))(x1:(List (Zc×Nd×Int×Int)))(x2:Zc):Option (List Nd):=
((iterO N (fun s=>F_74 N x1 x2 s.1 s.2) (0,[])):Option (List Nd)) >>= fun x3=>
some x3
def F_145(_N:Nat)(x1:Int):Option (Unit ⊕ Zc):=
((if(decide (x1<0))=true then(
some true)
else(
some (decide (x1>65536)))):Option Bool) >>= fun x2=>
if x2=true then(
some (.inl ()))
else(
mk 0 (w64 ((w64 ((w64 (x1+64))-1)).tdiv 64)) >>= fun x3=>
some (.inr x3))
def F_80(N:Nat)(x1:Zc):Option (Zc×Int):=
F_145 N (w64 ((x1.length:Int)+1)) >>= fun z=>match z with
| .inl _=>(
none)
| .inr x2=>(
some (x2,(w64 ((x1.length:Int)+1))))
def F_66(_N:Nat)(x1:Zc)(_x6:Int):Option Zc:=
some x1
def F_144(N:Nat)(x1:Zc)(x2:Int)(x3:Int):Option (Zc×Int×Int×Bool):=
((nn ((IntKind.wrap .u64 x3).tmod 64) >>= fun _x50=>
if(decide (x3≥0))=true then(
F_66 N x1 x2 >>= fun x4=>
some (x4,w64 (x3.tdiv 64),shlI .u64 1 ((IntKind.wrap .u64 x3).tmod 64),decide (x3<x2)))
else(
some (x1,w64 (x3.tdiv 64),shlI .u64 1 ((IntKind.wrap .u64 x3).tmod 64),false))):Option (Zc×Int×Int×Bool)) >>= fun(x5,x6,x7,x8)=>
some (x5,x6,x7,x8)
def F_78(N:Nat)(x1:Zc)(x2:Int)(x3:Int):Option (Zc×Bool):=
F_144 N x1 x2 x3 >>= fun(x4,x5,x6,x7)=>
((if(!x7)=true then(
some true)
else(
idx x4 x5 >>= fun x8=>
some ((iand .u64 x8 x6) != 0))):Option Bool) >>= fun x9=>
if x9=true then(
some (x4,false))
else(
idx x4 x5 >>= fun x10=>
idx x4 x5 >>= fun _x89=>
setI x4 x5 (ior .u64 x10 x6) >>= fun x11=>
some (x11,true))
def F_182(_N:Nat)(x1:(Zc×Int)):Option Int:=
some x1.2
def F_183(_N:Nat)(x1:(Zc×Int)):Option Zc:=
some x1.1
def F_147(_N:Nat)(x1:Int):Option Int:=
if(x1==0)=true then(
some 64)
else(
idx tab_math_bits_deBruijn64tab (shrI .u64 (IntKind.wrap .u64 ((iand .u64 x1 (IntKind.wrap .u64 (0-x1)))*285870213051353865)) 58) >>= fun x2=>
some (IntKind.wrap .i64 x2))
def F_116(N:Nat)(x1:(Zc×Int))(x2:Int)(x3:Int):Option (Int ⊕ (Unit ⊕ Int)):=
F_183 N x1 >>= fun x4=>
if(decide (x3<(x4.length:Int)))=true then(
((idx x1.1 x3 >>= fun x5=>
((if(x3==(w64 ((w64 ((imax x2 (-1))+1)).tdiv 64)))=true then(
nn ((w64 ((imax x2 (-1))+1)).tmod 64) >>= fun _x656=>
nn ((w64 ((imax x2 (-1))+1)).tmod 64) >>= fun _x657=>
some (shlI .u64 (shrI .u64 x5 ((w64 ((imax x2 (-1))+1)).tmod 64)) ((w64 ((imax x2 (-1))+1)).tmod 64)))
else(
some x5)):Option Int) >>= fun x6=>
if(x6 != 0)=true then(
F_147 N x6 >>= fun x7=>
some (.inr (.inr (.inr (w64 ((w64 (64*x3))+x7))))))
else(
some (.inl ()))):Option (Unit ⊕ (Int ⊕ (Unit ⊕ Int)))) >>= fun z=>match z with
| .inr z=>some z
| .inl _=>
some (.inl (w64 (x3+1))))
else(
some (.inr (.inl ())))
def F_26(N:Nat)(x1:(Zc×Int))(x2:Int):Option Int:=
F_182 N x1 >>= fun x3=>
if(decide (x2≥x3))=true then(
some (-1))
else(
((iterO N (fun s=>F_116 N x1 x2 s) (w64 ((w64 ((imax x2 (-1))+1)).tdiv 64))):Option (Unit ⊕ Int)) >>= fun z=>match z with
| .inr z=>some z
| .inl _=>
some (-1))
def F_75(_N:Nat)(x1:Int)(x2:Int)(x3:Int)(x4:Int)(x5:Int):Option Bool:=
idx [x1,x2,x3,x4] (IntKind.wrap .u8 (x5.tdiv 64)) >>= fun x6=>
nn (x5.tmod 64) >>= fun _x16=>
some ((iand .u64 (shrI .u64 x6 (x5.tmod 64)) 1)==1)
def F_61(N:Nat)(x1:Zc)(x2:Int)(x3:Int)(x4:Int)(x5:Int)(x6:(Zc×Int))(x7:Int)(x8:Zc)(x9:Int):Option ((Zc×Int) ⊕ Zc):=
if(decide (x9≥0))=true then(
((((if(decide (x9<(x1.length:Int)))=true then(
idx x1 x9 >>= fun x10=>
F_75 N x2 x3 x4 x5 x10 >>= fun x11=>
some x11)
else(
some false)):Option Bool) >>= fun x12=>
((if x12=true then(
F_78 N x8 x7 (w64 (x9+1)) >>= fun(x13,_x1288)=>
some x13)
else(
some x8)):Option Zc) >>= fun x14=>
some x14):Option Zc) >>= fun x15=>
F_26 N x6 x9 >>= fun x16=>
some (.inl (x15,x16)))
else(
some (.inr x8))
def F_33(N:Nat)(x1:Zc)(_x4:Int)(x2:Int)(x3:Int)(x4:Int)(x5:Int)(_x10:(List Nd))(_x12:Int)(_x13:Int)(_x14:BA)(x6:(Zc×Int)):Option (Zc×Int):=
F_80 N x1 >>= fun(x7,x8)=>
F_26 N x6 (-1) >>= fun x9=>
((iterO N (fun s=>F_61 N x1 x2 x3 x4 x5 x6 x8 s.1 s.2) (x7,x9)):Option Zc) >>= fun x10=>
some (x10,x8)
def F_117(_N:Nat)(x1:Int)(_x2:Int)(_x3:Int)(_x4:Int)(_x5:Int)(_x7:(List Nd))(x2:Int)(x3:Int)(_x11:BA):Option Bool:=
((if(x1==4)=true then(
if(x2==0)=true then(
some (x3==(-1)))
else(
some false))
else(
some false)):Option Bool) >>= fun x4=>
some x4
def F_178(_N:Nat)(x:Zc):Option Zc:=app [] x
def F_143(N:Nat)(x1:(Zc×Int)):Option (Zc×Int):=
F_178 N x1.1 >>= fun x2=>
some (x2,x1.2)
def F_58(N:Nat)(x1:Int)(x2:(Zc×Int))(x3:Zc)(x4:Bool)(x5:Int):Option ((Zc×Bool×Int) ⊕ (Zc×Bool)):=
if(decide (x5≥0))=true then(
((F_78 N x3 x1 x5 >>= fun(x6,x7)=>
if x7=true then(
some (x6,true))
else(
some (x6,x4))):Option (Zc×Bool)) >>= fun(x8,x9)=>
F_26 N x2 x5 >>= fun x10=>
some (.inl (x8,x9,x10)))
else(
some (.inr (x3,x4)))
def F_30(N:Nat)(x1:Zc)(x2:Int)(x3:(Zc×Int)):Option (Zc×Bool):=
F_26 N x3 (-1) >>= fun x4=>
((iterO N (fun s=>F_58 N x2 x3 s.1 s.2.1 s.2.2) (x1,false,x4)):Option (Zc×Bool)) >>= fun(x5,x6)=>
some (x5,x6)
def F_79(N:Nat)(x1:Int)(x2:Int)(x3:Int)(x4:Int)(x5:Int)(x6:(List Nd))(x7:Int)(x8:Int)(x9:BA):Option ((Int×Int×Int×Int×Int×(List Nd)×Int×Int×BA) ⊕ (Int×Int×Int×Int×Int×(List Nd)×Int×Int×BA)):=
((F_117 N x1 x2 x3 x4 x5 x6 x7 x8 x9 >>= fun x10=>
if x10=true then(
idx x6 0 >>= fun x11=>
F_117 N x11.un.1 x11.un.2.1.1 x11.un.2.1.2.1 x11.un.2.1.2.2.1 x11.un.2.1.2.2.2 x11.un.2.2.1 x11.un.2.2.2.1 x11.un.2.2.2.2.1 x11.un.2.2.2.2.2 >>= fun x12=>
some x12)
else(
some false)):Option Bool) >>= fun x13=>
if x13=true then(
idx x6 0 >>= fun x14=>
some (.inl (x14.un.1,x14.un.2.1.1,x14.un.2.1.2.1,x14.un.2.1.2.2.1,x14.un.2.1.2.2.2,x14.un.2.2.1,x14.un.2.2.2.1,x14.un.2.2.2.2.1,x14.un.2.2.2.2.2)))
else(
some (.inr (x1,x2,x3,x4,x5,x6,x7,x8,x9)))
def F_67(_N:Nat)(self_:Zc→Int→Int→Int→Int→Int→(List Nd)→Int→Int→BA→(Zc×Int)→Option (Zc×Int))(x1:Zc)(x2:(List Nd))(x3:Int)(x4:Int)(x5:(Zc×Int)):Option ((Int×(Zc×Int)) ⊕ (Zc×Int)):=
if(decide (x4<x3))=true then(
idx x2 0 >>= fun x6=>
self_ x1 x6.un.1 x6.un.2.1.1 x6.un.2.1.2.1 x6.un.2.1.2.2.1 x6.un.2.1.2.2.2 x6.un.2.2.1 x6.un.2.2.2.1 x6.un.2.2.2.2.1 x6.un.2.2.2.2.2 x5 >>= fun x7=>
some (.inl (w64 (x4+1),x7)))
else(
some (.inr x5))
def F_68(N:Nat)(self_:Zc→Int→Int→Int→Int→Int→(List Nd)→Int→Int→BA→(Zc×Int)→Option (Zc×Int))(x1:Zc)(x2:(List Nd))(x3:Int)(x4:Int)(x5:(Zc×Int))(x6:Zc)(x7:Int):Option (((Zc×Int)×Zc×Int) ⊕ Zc):=
((if(x3==(-1))=true then(
some true)
else(
some (decide (x7<x3)))):Option Bool) >>= fun x8=>
if x8=true then(
idx x2 0 >>= fun x9=>
self_ x1 x9.un.1 x9.un.2.1.1 x9.un.2.1.2.1 x9.un.2.1.2.2.1 x9.un.2.1.2.2.2 x9.un.2.2.1 x9.un.2.2.2.1 x9.un.2.2.2.2.1 x9.un.2.2.2.2.2 x5 >>= fun x10=>
F_30 N x6 x4 x10 >>= fun(x11,x12)=>
if(!x12)=true then(
some (.inr x11))
else(
some (.inl (x10,x11,w64 (x7+1)))))
else(
some (.inr x6))
def F_11(N:Nat)(self_:Zc→Int→Int→Int→Int→Int→(List Nd)→Int→Int→BA→(Zc×Int)→Option (Zc×Int))(x1:Zc)(x2:Int)(x3:Int)(x4:Int)(x5:Int)(x6:Int)(x7:(List Nd))(x8:Int)(x9:Int)(x10:BA)(x11:(Zc×Int)):Option (Zc×Int):=
((iterO N (fun s=>F_79 N s.1 s.2.1 s.2.2.1 s.2.2.2.1 s.2.2.2.2.1 s.2.2.2.2.2.1 s.2.2.2.2.2.2.1 s.2.2.2.2.2.2.2.1 s.2.2.2.2.2.2.2.2) (x2,x3,x4,x5,x6,x7,x8,x9,x10)):Option (Int×Int×Int×Int×Int×(List Nd)×Int×Int×BA)) >>= fun(_x2589,_x2590,_x2591,_x2592,_x2593,x12,x13,x14,_x2599)=>
((iterO N (fun s=>F_67 N self_ x1 x12 x13 s.1 s.2) (0,x11)):Option (Zc×Int)) >>= fun x15=>
F_143 N x15 >>= fun(x16,x17)=>
((iterO N (fun s=>F_68 N self_ x1 x12 x14 x17 s.1 s.2.1 s.2.2) (x15,x16,x13)):Option Zc) >>= fun x18=>
some (x18,x17)
def F_69(_N:Nat)(self_:Zc→Int→Int→Int→Int→Int→(List Nd)→Int→Int→BA→(Zc×Int)→Option (Zc×Int))(x1:Zc)(x2:(List Nd))(x3:(Zc×Int))(x4:Int):Option (((Zc×Int)×Int) ⊕ (Zc×Int)):=
if(decide (x4<(x2.length:Int)))=true then(
idx x2 x4 >>= fun x5=>
self_ x1 x5.un.1 x5.un.2.1.1 x5.un.2.1.2.1 x5.un.2.1.2.2.1 x5.un.2.1.2.2.2 x5.un.2.2.1 x5.un.2.2.2.1 x5.un.2.2.2.2.1 x5.un.2.2.2.2.2 x3 >>= fun x6=>
some (.inl (x6,w64 (x4+1))))
else(
some (.inr x3))
def F_70(N:Nat)(self_:Zc→Int→Int→Int→Int→Int→(List Nd)→Int→Int→BA→(Zc×Int)→Option (Zc×Int))(x1:Zc)(x2:(List Nd))(x3:(Zc×Int))(x4:Int)(x5:Int)(x6:Zc):Option ((Int×Zc) ⊕ Zc):=
if(decide (x5<(x2.length:Int)))=true then(
idx x2 x5 >>= fun x7=>
self_ x1 x7.un.1 x7.un.2.1.1 x7.un.2.1.2.1 x7.un.2.1.2.2.1 x7.un.2.1.2.2.2 x7.un.2.2.1 x7.un.2.2.2.1 x7.un.2.2.2.2.1 x7.un.2.2.2.2.2 x3 >>= fun x8=>
F_30 N x6 x4 x8 >>= fun(x9,_x2377)=>
some (.inl (w64 (x5+1),x9)))
else(
some (.inr x6))
def F_8:(N:Nat)→(x1:Zc)→(x2:Int)→(x3:Int)→(x4:Int)→(x5:Int)→(x6:Int)→(x7:(List Nd))→(x8:Int)→(x9:Int)→(x10:BA)→(x11:(Zc×Int))→Option (Zc×Int)
|0,_,_,_,_,_,_,_,_,_,_,_=>none
|N+1,x1,x2,x3,x4,x5,x6,x7,x8,x9,x10,x11=>
if(x2==1)=true then(
F_33 N x1 x2 x3 x4 x5 x6 x7 x8 x9 x10 x11 >>= fun(x12,x13)=>
some (x12,x13))
else(
if(x2==2)=true then(
((iterO N (fun s=>F_69 N (F_8 N) x1 x7 s.1 s.2) (x11,0)):Option (Zc×Int)) >>= fun x14=>
some x14)
else(
if(x2==3)=true then(
F_80 N x1 >>= fun(x15,x16)=>
((iterO N (fun s=>F_70 N (F_8 N) x1 x7 x11 x16 s.1 s.2) (0,x15)):Option Zc) >>= fun x17=>
some (x17,x16))
else(
if(x2==4)=true then(
F_11 N (F_8 N) x1 x2 x3 x4 x5 x6 x7 x8 x9 x10 x11 >>= fun(x18,x19)=>
some (x18,x19))
else(
F_80 N x1 >>= fun(x20,x21)=>
some (x20,x21)))))
def F_93(N:Nat)(x1:(Zc×Int))(x2:Zc)(x3:Int):Option ((Zc×Int) ⊕ Zc):=
if(decide (x3≥0))=true then(
app x2 ([x3]) >>= fun x4=>
F_26 N x1 x3 >>= fun x5=>
some (.inl (x4,x5)))
else(
some (.inr x2))
def F_40(N:Nat)(x1:(Zc×Int)):Option Zc:=
F_26 N x1 (-1) >>= fun x2=>
((iterO N (fun s=>F_93 N x1 s.1 s.2) ([],x2)):Option Zc) >>= fun x3=>
some x3
def F_146(N:Nat)(x1:Int)(x2:Int)(x3:Int)(x4:Int)(x5:Int)(x6:(List Nd))(x7:Int)(x8:Int)(x9:BA)(x10:Zc)(x11:Int):Option Zc:=
((if(decide (x11<0))=true then(
some true)
else(
if(decide (x11>(x10.length:Int)))=true then(
some true)
else(
if(decide ((x10.length:Int)>4096))=true then(
some true)
else(
F_24 N x1 x2 x3 x4 x5 x6 x7 x8 x9 >>= fun x12=>
if(!x12)=true then(
some true)
else(
F_105 N x1 x2 x3 x4 x5 x6 x7 x8 x9 >>= fun x13=>
some (decide (x13>4000))))))):Option Bool) >>= fun x14=>
if x14=true then(
some ([]))
else(
F_80 N x10 >>= fun(x15,x16)=>
F_78 N x15 x16 x11 >>= fun(x17,_x128)=>
F_8 N x10 x1 x2 x3 x4 x5 x6 x7 x8 x9 (x17,x16) >>= fun x18=>
F_40 N x18 >>= fun x19=>
some x19)
def F_60(_N:Nat)(x1:Int)(x2:Int)(x3:Zc)(x4:Int)(x5:Int):Option ((Int×Int) ⊕ Int):=
if(decide (x4<(x3.length:Int)))=true then(
((idx x3 x4 >>= fun x6=>
((if(decide ((w64 (x6-x1))≤x2))=true then(
some (imax x5 (w64 (x6-x1))))
else(
some x5)):Option Int) >>= fun x7=>
some x7):Option Int) >>= fun x8=>
some (.inl (w64 (x4+1),x8)))
else(
some (.inr x5))
def F_32(N:Nat)(x1:Int)(x2:Int)(x3:Int)(x4:Int)(x5:Int)(x6:(List Nd))(x7:Int)(x8:Int)(x9:BA)(x10:Zc)(x11:Int)(x12:Int):Option Int:=
F_146 N x1 x2 x3 x4 x5 x6 x7 x8 x9 x10 x11 >>= fun x13=>
((iterO N (fun s=>F_60 N x11 x12 x13 s.1 s.2) (0,0)):Option Int) >>= fun x14=>
some x14
def F_59(N:Nat)(x1:(List Nd))(x2:Zc)(x3:Int)(x4:Int)(x5:Int)(x6:Int)(x7:Int):Option ((Int×Int×Int) ⊕ (Int×Int)):=
if(decide (x7<(x1.length:Int)))=true then(
((idx x1 x7 >>= fun x8=>
F_32 N x8.un.1 x8.un.2.1.1 x8.un.2.1.2.1 x8.un.2.1.2.2.1 x8.un.2.1.2.2.2 x8.un.2.2.1 x8.un.2.2.2.1 x8.un.2.2.2.2.1 x8.un.2.2.2.2.2 x2 x3 x4 >>= fun x9=>
((if(decide (x9>x5))=true then(
some (x9,x7))
else(
some (x5,x6))):Option (Int×Int)) >>= fun(x10,x11)=>
some (x10,x11)):Option (Int×Int)) >>= fun(x12,x13)=>
some (.inl (x12,x13,w64 (x7+1))))
else(
some (.inr (x5,x6)))
def F_31(N:Nat)(x1:(List Nd))(x2:Zc)(x3:Int)(x4:Int):Option ((List Nd)×Int×Int):=
((iterO N (fun s=>F_59 N x1 x2 x3 x4 s.1 s.2.1 s.2.2) (0,(-1),0)):Option (Int×Int)) >>= fun(x5,x6)=>
some (x1,x5,x6)
def F_163(N:Nat)(x1:(List BA))(x2:(List BA))(x3:(List (Zc×Nd×Int×Int)))(x4:Int)(x5:Zc)(x6:Int)(x7:Int):Option (Int×Int):=
F_35 N x1 x2 x3 x4 >>= fun x8=>
F_36 N x1 x2 x3 x8 >>= fun x9=>
F_31 N x9 x5 x6 x7 >>= fun(_x73,x10,x11)=>
if(decide (x11<0))=true then(
some (0,(-1)))
else(
idx x8 x11 >>= fun x12=>
some (x10,x12))
def F_95(N:Nat)(x1:(List BA))(x2:(List BA))(x3:(List (Zc×Nd×Int×Int)))(x4:Int)(x5:Zc)(x6:Int)(x7:Int):Option (Int×Int):=
((if(decide (x6<0))=true then(
some true)
else(
some (decide (x6≥(x5.length:Int))))):Option Bool) >>= fun x8=>
if x8=true then(
some (0,(-1)))
else(
F_163 N x1 x2 x3 x4 x5 x6 x7 >>= fun(x9,x10)=>
if(decide (x9>0))=true then(
some (x9,x10))
else(
some (1,(-1))))
def F_148(_N:Nat)(_x2:(List BA))(_x5:(List BA))(x1:(List (Zc×Nd×Int×Int)))(x2:Int)(x3:Int):Option Int:=
((if(decide (x3<0))=true then(
some true)
else(
if(decide (x3≥(x1.length:Int)))=true then(
some true)
else(
idx x1 x3 >>= fun x4=>
some (x4.2.2.2==(-1))))):Option Bool) >>= fun x5=>
if x5=true then(
some x2)
else(
idx x1 x3 >>= fun x6=>
some x6.2.2.2)
def F_96(N:Nat)(x1:Zc)(x2:Int)(x3:(List (Int×((List BA)×(List BA)×(List (Zc×Nd×Int×Int))))))(x4:(List (Int×Int×Int×BA)))(x5:Int)(x6:Int)(x7:(List BA))(x8:(List BA))(x9:(List (Zc×Nd×Int×Int))):Option (((List (Int×((List BA)×(List BA)×(List (Zc×Nd×Int×Int)))))×(List (Int×Int×Int×BA))×Int×Int×(List BA)×(List BA)×(List (Zc×Nd×Int×Int))) ⊕ (List (Int×Int×Int×BA))):=
if(decide (x6<(x1.length:Int)))=true then(
((((if(decide ((x3.length:Int)>0))=true then(
idx x3 0 >>= fun x10=>
some (x10.1==(x4.length:Int)))
else(
some false)):Option Bool) >>= fun x11=>
((if x11=true then(
idx x3 0 >>= fun x12=>
F_234 N x7 x8 x9 x12.2.1 x12.2.2.1 x12.2.2.2 x5 >>= fun x13=>
((idx x3 0 >>= fun x14=>
slc x3 1 (x3.length:Int) >>= fun x15=>
some (x15,x14.2.1,x14.2.2.1,x14.2.2.2)):Option ((List (Int×((List BA)×(List BA)×(List (Zc×Nd×Int×Int)))))×(List BA)×(List BA)×(List (Zc×Nd×Int×Int)))) >>= fun(x16,x17,x18,x19)=>
some (x16,x13,x17,x18,x19))
else(
some (x3,x5,x7,x8,x9))):Option ((List (Int×((List BA)×(List BA)×(List (Zc×Nd×Int×Int)))))×Int×(List BA)×(List BA)×(List (Zc×Nd×Int×Int)))) >>= fun(x20,x21,x22,x23,x24)=>
F_95 N x22 x23 x24 x21 x1 x6 x2 >>= fun(x25,x26)=>
F_119 N x22 x23 x24 x21 >>= fun x27=>
app x4 ([(x6,x25,x26,x27)]) >>= fun x28=>
F_148 N x22 x23 x24 x21 x26 >>= fun x29=>
some (x20,x28,x29,w64 (x6+x25),x22,x23,x24)):Option ((List (Int×((List BA)×(List BA)×(List (Zc×Nd×Int×Int)))))×(List (Int×Int×Int×BA))×Int×Int×(List BA)×(List BA)×(List (Zc×Nd×Int×Int)))) >>= fun(x30,x31,x32,x33,x34,x35,x36)=>
some (.inl (x30,x31,x32,x33,x34,x35,x36)))
else(
some (.inr x4))
def F_46(N:Nat)(x1:(List BA))(x2:(List BA))(x3:(List (Zc×Nd×Int×Int)))(x4:(List (Int×((List BA)×(List BA)×(List (Zc×Nd×Int×Int))))))(x5:Zc)(x6:Int):Option ((List (Int×Int×Int×BA))×Int):=
((if(decide (x6<1))=true then(
some true)
else(
some (decide (x6>48)))):Option Bool) >>= fun x7=>
if x7=true then(
some ([],3))
else(
F_53 N x1 x2 x3 x4 >>= fun x8=>
if(!x8)=true then(
some ([],1))
else(
((iterO N (fun s=>F_96 N x5 x6 s.1 s.2.1 s.2.2.1 s.2.2.2.1 s.2.2.2.2.1 s.2.2.2.2.2.1 s.2.2.2.2.2.2) (x4,[],0,0,x1,x2,x3)):Option (List (Int×Int×Int×BA))) >>= fun x9=>
some (x9,0)))
def F_94(N:Nat)(x1:(List BA))(x2:(List BA))(x3:(List (Zc×Nd×Int×Int)))(x4:Zc)(x5:Int):Option ((List (Int×Int×Int×BA))×Int):=
F_46 N x1 x2 x3 [] x4 x5 >>= fun(x6,x7)=>
some (x6,x7)
def F_179(N:Nat):Option Bool:=
F_127 N ([111,110,32,109,97,105,110,32,47,97,43,47,32,101,109,105,116,32,120]) >>= fun(x1,x2,x3,_x183,x4)=>
F_94 N x1 x2 x3 ([97,97,98]) 48 >>= fun(x5,x6)=>
((if(!(eOk errIds x4))=true then(
if(!(eOk errIds x6))=true then(
if((x5.length:Int)==2)=true then(
idx x5 0 >>= fun x7=>
if(x7.2.1==2)=true then(
idx x5 0 >>= fun x8=>
if(x8.2.2.1==0)=true then(
idx x5 1 >>= fun x9=>
if(x9.2.1==1)=true then(
idx x5 1 >>= fun x10=>
some (x10.2.2.1==(-1)))
else(
some false))
else(
some false))
else(
some false))
else(
some false))
else(
some false))
else(
some false)):Option Bool) >>= fun x11=>
some x11
def F_140(_N:Nat)(x:Zc):Option Zc:=app [] x
def F_118(_N:Nat)(x1:Int)(x2:(List (Int×((List BA)×(List BA)×(List (Zc×Nd×Int×Int))))))(x3:(List BA))(x4:(List BA))(x5:(List (Zc×Nd×Int×Int))):Option (((List (Int×((List BA)×(List BA)×(List (Zc×Nd×Int×Int)))))×(List BA)×(List BA)×(List (Zc×Nd×Int×Int))) ⊕ ((List (Int×((List BA)×(List BA)×(List (Zc×Nd×Int×Int)))))×(List BA)×(List BA)×(List (Zc×Nd×Int×Int)))):=
((if(decide ((x2.length:Int)>0))=true then(
idx x2 0 >>= fun x6=>
some (decide (x6.1≤x1)))
else(
some false)):Option Bool) >>= fun x7=>
if x7=true then(
((idx x2 0 >>= fun x8=>
slc x2 1 (x2.length:Int) >>= fun x9=>
some (x9,x8.2.1,x8.2.2.1,x8.2.2.2)):Option ((List (Int×((List BA)×(List BA)×(List (Zc×Nd×Int×Int)))))×(List BA)×(List BA)×(List (Zc×Nd×Int×Int)))) >>= fun(x10,x11,x12,x13)=>
some (.inl (x10,x11,x12,x13)))
else(
some (.inr (x2,x3,x4,x5)))
def F_71(N:Nat)(x1:(List (Int×Int×Int×BA)))(x2:Zc)(x3:(List (Int×((List BA)×(List BA)×(List (Zc×Nd×Int×Int))))))(x4:Int)(x5:(List BA))(x6:(List BA))(x7:(List (Zc×Nd×Int×Int)))(x8:(List (Int×BA×BA×Int×Zc))):Option (((List (Int×((List BA)×(List BA)×(List (Zc×Nd×Int×Int)))))×Int×(List BA)×(List BA)×(List (Zc×Nd×Int×Int))×(List (Int×BA×BA×Int×Zc))) ⊕ (List (Int×BA×BA×Int×Zc))):=
if(decide (x4<(x1.length:Int)))=true then(
((idx x1 x4 >>= fun x9=>
((iterO N (fun s=>F_118 N x4 s.1 s.2.1 s.2.2.1 s.2.2.2) (x3,x5,x6,x7)):Option ((List (Int×((List BA)×(List BA)×(List (Zc×Nd×Int×Int)))))×(List BA)×(List BA)×(List (Zc×Nd×Int×Int)))) >>= fun(x10,x11,x12,x13)=>
((if(decide (x9.2.2.1≥0))=true then(
some (decide (x9.2.2.1<(x13.length:Int))))
else(
some false)):Option Bool) >>= fun x14=>
((if x14=true then(
idx x13 x9.2.2.1 >>= fun x15=>
((if(decide (x15.2.2.1<0))=true then(
some true)
else(
some (decide (x15.2.2.1≥(x12.length:Int))))):Option Bool) >>= fun x16=>
if x16=true then(
some (.inr (x10,x11,x12,x13,x8)))
else(
idx x12 x15.2.2.1 >>= fun x17=>
some (.inl x17)))
else(
some (.inl ByteArray.empty))):Option (BA ⊕ ((List (Int×((List BA)×(List BA)×(List (Zc×Nd×Int×Int)))))×(List BA)×(List BA)×(List (Zc×Nd×Int×Int))×(List (Int×BA×BA×Int×Zc))))) >>= fun z=>match z with
| .inr z=>some z
| .inl x18=>
((if(decide (x9.1<0))=true then(
some true)
else(
if(decide (x9.2.1<0))=true then(
some true)
else(
if(decide (x9.1>(x2.length:Int)))=true then(
some true)
else(
some (decide (x9.2.1>(w64 ((x2.length:Int)-x9.1)))))))):Option Bool) >>= fun x19=>
if x19=true then(
some (x10,x11,x12,x13,x8))
else(
((if x14=true then(
some x9.2.2.1)
else(
some (-1))):Option Int) >>= fun x20=>
((slc x2 x9.1 (w64 (x9.1+x9.2.1)) >>= fun x21=>
F_140 N x21 >>= fun x22=>
app x8 ([(x20,x18,x9.2.2.2,x9.1,x22)]) >>= fun x23=>
some x23):Option (List (Int×BA×BA×Int×Zc))) >>= fun x24=>
some (x10,x11,x12,x13,x24))):Option ((List (Int×((List BA)×(List BA)×(List (Zc×Nd×Int×Int)))))×(List BA)×(List BA)×(List (Zc×Nd×Int×Int))×(List (Int×BA×BA×Int×Zc)))) >>= fun(x25,x26,x27,x28,x29)=>
some (.inl (x25,w64 (x4+1),x26,x27,x28,x29)))
else(
some (.inr x8))
def F_19(N:Nat)(x1:(List BA))(x2:(List BA))(x3:(List (Zc×Nd×Int×Int)))(x4:(List (Int×((List BA)×(List BA)×(List (Zc×Nd×Int×Int))))))(x5:(List (Int×Int×Int×BA)))(x6:Zc):Option ((List (Int×Int×Int×BA))×(List (Int×BA×BA×Int×Zc))):=
((iterO N (fun s=>F_71 N x5 x6 s.1 s.2.1 s.2.2.1 s.2.2.2.1 s.2.2.2.2.1 s.2.2.2.2.2) (x4,0,x1,x2,x3,[])):Option (List (Int×BA×BA×Int×Zc))) >>= fun x7=>
some (x5,x7)
def F_64(_N:Nat)(x1:Zc)(x2:(List (Int×BA×BA×Int×Zc)))(x3:Int)(x4:Int):Option ((Int×Int) ⊕ (Unit ⊕ Bool)):=
if(decide (x3<(x2.length:Int)))=true then(
idx x2 x3 >>= fun x5=>
((if(decide (x5.2.2.2.1<x4))=true then(
some true)
else(
if((x5.2.2.2.2.length:Int)==0)=true then(
some true)
else(
if(decide (x5.2.2.2.1>(x1.length:Int)))=true then(
some true)
else(
if(decide ((x5.2.2.2.2.length:Int)>(w64 ((x1.length:Int)-x5.2.2.2.1))))=true then(
some true)
else(
slc x1 x5.2.2.2.1 (w64 (x5.2.2.2.1+(x5.2.2.2.2.length:Int))) >>= fun x6=>
some ((bstr x5.2.2.2.2).toList != (bstr x6).toList)))))):Option Bool) >>= fun x7=>
if x7=true then(
some (.inr (.inr false)))
else(
some (.inl (w64 (x3+1),w64 (x5.2.2.2.1+(x5.2.2.2.2.length:Int))))))
else(
some (.inr (.inl ())))
def F_29(N:Nat)(x1:Zc)(x2:Zc)(x3:Int):Option Bool:=
F_179 N >>= fun x4=>
if(!x4)=true then(
some false)
else(
((if(decide ((x1.length:Int)>300))=true then(
some true)
else(
some (decide ((x2.length:Int)>12)))):Option Bool) >>= fun x5=>
if x5=true then(
some true)
else(
F_127 N x1 >>= fun(x6,x7,x8,_x482,x9)=>
if(eOk errIds x9)=true then(
some true)
else(
F_94 N x6 x7 x8 x2 48 >>= fun(x10,x11)=>
((if(eOk errIds x11)=true then(
some true)
else(
some ((x10.length:Int)==0))):Option Bool) >>= fun x12=>
if x12=true then(
((if(!(eOk errIds x11))=true then(
some ((x2.length:Int)==0))
else(
some false)):Option Bool) >>= fun x13=>
some x13)
else(
nz (IntKind.wrap .u64 (x10.length:Int)) >>= fun _x513=>
idx x10 (IntKind.wrap .i64 ((IntKind.wrap .u64 x3).tmod (IntKind.wrap .u64 (x10.length:Int)))) >>= fun x14=>
((if(decide (x14.1<0))=true then(
some true)
else(
some (decide (x14.1>(x2.length:Int))))):Option Bool) >>= fun x15=>
if x15=true then(
some false)
else(
slc x2 x14.1 (x2.length:Int) >>= fun x16=>
F_72 N x6 x7 x8 x14.2.2.2 >>= fun x17=>
F_95 N x6 x7 x8 x17 x16 0 48 >>= fun(x18,x19)=>
((if(x18 != x14.2.1)=true then(
some true)
else(
some (x19 != x14.2.2.1))):Option Bool) >>= fun x20=>
if x20=true then(
some false)
else(
F_19 N x6 x7 x8 [] x10 x2 >>= fun(x21,x22)=>
((iterO N (fun s=>F_64 N x2 x22 s.1 s.2) (0,0)):Option (Unit ⊕ Bool)) >>= fun z=>match z with
| .inr z=>some z
| .inl _=>
some (decide ((x22.length:Int)≤(x21.length:Int)))))))))
abbrev eV(gV:Nat→Value)(x:Int):Value:=errV errIds gV x
abbrev GE(ρ:View)(gV:Nat→Value):Prop:=GErrs ρ 383 errIds gV
end Go.Proofs.YtnkednnnkifenaaGreatDoor
