import Derived.Test.YtchjfkdljnmmgaaGreatDoorCanonOfE2
namespace Go.Proofs.YtchjfkdljnmmgaaGreatDoor
open Go Go.Eng
set_option maxRecDepth 100000
abbrev Za:=List ((List Int)×(Int×Int×Int×Int)×Int×Int)
abbrev Zb:=List (List Int)
abbrev Zc:=List Int
abbrev Ze:=List (List Bool)
abbrev Zf:=List Bool
abbrev Zg:=List (ByteArray×Int)
abbrev Zd:=Int×Int×Int×Int
def tab_math_bits_deBruijn64tab:List Int:=[0,1,56,2,57,49,28,3,61,58,42,50,38,29,17,4,62,47,59,36,45,43,51,22,53,39,33,30,24,18,12,5,63,55,48,27,60,41,37,16,46,35,44,21,52,32,23,11,54,26,40,15,34,20,31,10,25,14,19,9,13,8,7,6]
def errIds:List Nat:=[0,1,2,3,4,5,6,7,8,9,10,11,12,13,14,15,16,17]
def F_204(_N:Nat)(x1:Int)(x2:Int):Option Bool:=
((if(decide (x1<0))=true then(
some true)
else(
some (decide (x1≥x2)))):Option Bool) >>= fun x3=>
some x3
def F_190(N:Nat)(x1:Zc)(x2:Int)(x3:Int):Option (Int ⊕ (Unit ⊕ Int)):=
if(decide (x3<(x1.length:Int)))=true then(
idx x1 x3 >>= fun x4=>
F_204 N x4 x2 >>= fun x5=>
if x5=true then(
some (.inr (.inr x3)))
else(
some (.inl (w64 (x3+1)))))
else(
some (.inr (.inl ())))
def F_3(N:Nat)(x1:Zc)(x2:Int):Option Int:=
((iterO N (fun s=>F_190 N x1 x2 s) 0):Option (Unit ⊕ Int)) >>= fun z=>match z with
| .inr z=>some z
| .inl _=>
some (-1)
def F_23(N:Nat)(x1:Zc)(x2:Int):Option Bool:=
F_3 N x1 x2 >>= fun x3=>
some (decide (x3≥0))
def F_205(_N:Nat)(x1:Int):Option Bool:=
((if(decide (x1<(-1)))=true then(
some true)
else(
some (decide (x1≥48)))):Option Bool) >>= fun x2=>
some x2
def F_187(N:Nat)(x1:Zc)(x2:Int):Option (Int ⊕ (Unit ⊕ Int)):=
if(decide (x2<(x1.length:Int)))=true then(
idx x1 x2 >>= fun x3=>
F_205 N x3 >>= fun x4=>
if x4=true then(
some (.inr (.inr x2)))
else(
some (.inl (w64 (x2+1)))))
else(
some (.inr (.inl ())))
def F_64(N:Nat)(x1:Zc):Option Int:=
((iterO N (fun s=>F_187 N x1 s) 0):Option (Unit ⊕ Int)) >>= fun z=>match z with
| .inr z=>some z
| .inl _=>
some (-1)
def F_203(N:Nat)(x1:Zc):Option Bool:=
F_64 N x1 >>= fun x2=>
some (decide (x2≥0))
def F_192(N:Nat)(x1:Zb)(x2:Int):Option (Int ⊕ (Unit ⊕ Bool)):=
if(decide (x2<(x1.length:Int)))=true then(
idx x1 x2 >>= fun x3=>
F_23 N x3 (x1.length:Int) >>= fun x4=>
if x4=true then(
some (.inr (.inr false)))
else(
some (.inl (w64 (x2+1)))))
else(
some (.inr (.inl ())))
def F_25(N:Nat)(x1:Zb)(x2:Zc)(x3:Zc):Option Bool:=
((if(decide ((x1.length:Int)<1))=true then(
some true)
else(
if(decide ((x1.length:Int)>200))=true then(
some true)
else(
if((x2.length:Int) != (x1.length:Int))=true then(
some true)
else(
if(decide ((x3.length:Int)<1))=true then(
some true)
else(
some (decide ((x3.length:Int)>8))))))):Option Bool) >>= fun x4=>
if x4=true then(
some false)
else(
((iterO N (fun s=>F_192 N x1 s) 0):Option (Unit ⊕ Bool)) >>= fun z=>match z with
| .inr z=>some z
| .inl _=>
((F_203 N x2 >>= fun x5=>
if x5=true then(
some true)
else(
F_23 N x3 (x1.length:Int) >>= fun x6=>
some x6)):Option Bool) >>= fun x7=>
if x7=true then(
some false)
else(
((idx x1 0 >>= fun x8=>
if(x8==(List.replicate 256 0))=true then(
idx x2 0 >>= fun x9=>
some (x9==(-1)))
else(
some false)):Option Bool) >>= fun x10=>
some x10))
def F_148(_N:Nat)(x1:Int):Option (Unit ⊕ Zc):=
((if(decide (x1<0))=true then(
some true)
else(
some (decide (x1>65536)))):Option Bool) >>= fun x2=>
if x2=true then(
some (.inl ()))
else(
mk 0 (w64 ((w64 ((w64 (x1+64))-1)).tdiv 64)) >>= fun x3=>
some (.inr x3))
def F_43(_N:Nat)(_x3:Zc)(_x6:Int):Option Unit:=
some ()
def F_63(N:Nat)(x1:Zc)(x2:Int)(x3:Int):Option (Int×Int×Bool):=
((nn ((IntKind.wrap .u64 x3).tmod 64) >>= fun _x32=>
if(decide (x3≥0))=true then(
F_43 N x1 x2 >>= fun _=>
some (w64 (x3.tdiv 64),shlI .u64 1 ((IntKind.wrap .u64 x3).tmod 64),decide (x3<x2)))
else(
some (w64 (x3.tdiv 64),shlI .u64 1 ((IntKind.wrap .u64 x3).tmod 64),false))):Option (Int×Int×Bool)) >>= fun(x4,x5,x6)=>
some (x4,x5,x6)
def F_33(N:Nat)(x1:Zc)(x2:Int)(x3:Int):Option (Zc×Bool):=
F_63 N x1 x2 x3 >>= fun(x4,x5,x6)=>
((if(!x6)=true then(
some true)
else(
idx x1 x4 >>= fun x7=>
some ((iand .u64 x7 x5) != 0))):Option Bool) >>= fun x8=>
if x8=true then(
some (x1,false))
else(
idx x1 x4 >>= fun x9=>
idx x1 x4 >>= fun _x83=>
setI x1 x4 (ior .u64 x9 x5) >>= fun x10=>
some (x10,true))
def F_110(N:Nat)(x1:Zc)(x2:Int)(x3:Zc)(x4:Zc)(x5:Int):Option ((Zc×Zc×Int) ⊕ (Zc×Zc)):=
if(decide (x5<(x1.length:Int)))=true then(
((idx x1 x5 >>= fun x6=>
F_33 N x3 x2 x6 >>= fun(x7,x8)=>
((if x8=true then(
app x4 ([x6]) >>= fun x9=>
some x9)
else(
some x4)):Option Zc) >>= fun x10=>
some (x7,x10)):Option (Zc×Zc)) >>= fun(x11,x12)=>
some (.inl (x11,x12,w64 (x5+1))))
else(
some (.inr (x3,x4)))
def F_46(N:Nat)(x1:Zc)(x2:Zc)(x3:Int)(x4:Zc):Option (Zc×Zc):=
((iterO N (fun s=>F_110 N x1 x3 s.1 s.2.1 s.2.2) (x2,x4,0)):Option (Zc×Zc)) >>= fun(x5,x6)=>
some (x5,x6)
def F_111(N:Nat)(x1:Zb)(x2:Zc)(x3:Zc)(x4:Int):Option ((Zc×Zc×Int) ⊕ Zc):=
if(decide (x4<(x2.length:Int)))=true then(
idx x2 x4 >>= fun x5=>
idx x1 x5 >>= fun x6=>
F_46 N x6 x3 (x1.length:Int) x2 >>= fun(x7,x8)=>
some (.inl (x8,x7,w64 (x4+1))))
else(
some (.inr x2))
def F_22(N:Nat)(x1:Zb)(_x5:Zc)(x2:Zc):Option Zc:=
F_148 N (x1.length:Int) >>= fun z=>match z with
| .inl _=>(
some ([]))
| .inr x3=>(
F_33 N x3 (x1.length:Int) 0 >>= fun(x4,_x278)=>
F_46 N x2 x4 (x1.length:Int) ([0]) >>= fun(x5,x6)=>
((iterO N (fun s=>F_111 N x1 s.1 s.2.1 s.2.2) (x6,x5,1)):Option Zc) >>= fun x7=>
some x7)
def F_69(N:Nat)(x1:Zb)(x2:Zc)(x3:Zc):Option Zc:=
F_25 N x1 x2 x3 >>= fun x4=>
if(!x4)=true then(
some ([]))
else(
F_22 N x1 x2 x3 >>= fun x5=>
some x5)
def F_173(_N:Nat)(x1:Zc)(x2:Zc)(x3:Int):Option (Int ⊕ (Unit ⊕ Bool)):=
if(decide (x3<(x1.length:Int)))=true then(
idx x1 x3 >>= fun x4=>
idx x2 x3 >>= fun x5=>
if(x4 != x5)=true then(
some (.inr (.inr false)))
else(
some (.inl (w64 (x3+1)))))
else(
some (.inr (.inl ())))
def F_52(N:Nat)(x1:Zc)(x2:Zc):Option Bool:=
if((x1.length:Int) != (x2.length:Int))=true then(
some false)
else(
((iterO N (fun s=>F_173 N x1 x2 s) 0):Option (Unit ⊕ Bool)) >>= fun z=>match z with
| .inr z=>some z
| .inl _=>
some true)
def F_212(_N:Nat)(x1:Zb)(x2:Int):Option ((Zb×Int) ⊕ Zb):=
if(decide (x2<256))=true then(
idx x1 2 >>= fun x3=>
idx x3 x2 >>= fun _x282=>
setI x3 x2 1 >>= fun x4=>
setI x1 2 x4 >>= fun x5=>
some (.inl (x5,w64 (x2+1))))
else(
some (.inr x1))
def F_74(N:Nat):Option Bool:=
mk (List.replicate 256 0) 3 >>= fun x1=>
((iterO N (fun s=>F_212 N s.1 s.2) (x1,0)):Option Zb) >>= fun x2=>
F_69 N x2 ([(-1),0,(-1)]) ([2]) >>= fun x3=>
F_52 N x3 ([0,2,1]) >>= fun x4=>
some x4
def F_171(_N:Nat)(x1:Za)(x2:Int)(x3:Za):Option ((Int×Za) ⊕ (Za ⊕ (Za×Bool))):=
if(decide (x2<(x1.length:Int)))=true then(
idx x1 x2 >>= fun x4=>
if(decide ((x4.1.length:Int)>100))=true then(
some (.inr (.inr (x3,false))))
else(
app x3 ([(x4.1,(x4.2.1.1,x4.2.1.2.1,x4.2.1.2.2.1,x4.2.1.2.2.2),x4.2.2.1,x4.2.2.2)]) >>= fun x5=>
some (.inl (w64 (x2+1),x5))))
else(
some (.inr (.inl x3)))
def F_60(N:Nat)(x1:Za)(x2:Zc)(x3:Int):Option (Za×Bool):=
((if(decide ((x2.length:Int)>20))=true then(
some true)
else(
some (decide ((x1.length:Int)>x3)))):Option Bool) >>= fun x4=>
if x4=true then(
some ([],false))
else(
((iterO N (fun s=>F_171 N x1 s.1 s.2) (0,[])):Option (Za ⊕ (Za×Bool))) >>= fun z=>match z with
| .inr z=>some z
| .inl x5=>
some (x5,true))
def F_182(_N:Nat)(_x1:Int)(_x2:Int)(_x3:Int)(_x4:Int):Option Unit:=
some ()
def F_169(_N:Nat)(x1:Int)(x2:Int):Option Bool:=
((if(decide (x1<0))=true then(
some true)
else(
some (decide (x1≥x2)))):Option Bool) >>= fun x3=>
some x3
def F_188(N:Nat)(x1:Zc)(x2:Int)(x3:Int):Option (Int ⊕ (Unit ⊕ Int)):=
if(decide (x3<(x1.length:Int)))=true then(
idx x1 x3 >>= fun x4=>
F_169 N x4 x2 >>= fun x5=>
if x5=true then(
some (.inr (.inr x3)))
else(
some (.inl (w64 (x3+1)))))
else(
some (.inr (.inl ())))
def F_65(N:Nat)(x1:Zc)(x2:Int):Option Int:=
((iterO N (fun s=>F_188 N x1 x2 s) 0):Option (Unit ⊕ Int)) >>= fun z=>match z with
| .inr z=>some z
| .inl _=>
some (-1)
def F_184(N:Nat)(x1:Zc)(x2:Int):Option Bool:=
F_65 N x1 x2 >>= fun x3=>
some (decide (x3≥0))
def F_181(N:Nat)(x1:Za)(x2:Int):Option (Int ⊕ (Unit ⊕ Bool)):=
if(decide (x2<(x1.length:Int)))=true then(
idx x1 x2 >>= fun x3=>
((if(x3.2.2.1==(-1))=true then(
F_182 N x3.2.1.1 x3.2.1.2.1 x3.2.1.2.2.1 x3.2.1.2.2.2 >>= fun _=>
if(([x3.2.1.1,x3.2.1.2.1,x3.2.1.2.2.1,x3.2.1.2.2.2]:List Int)==([0,0,0,0]:List Int))=true then(
some true)
else(
F_169 N x3.2.2.1 (x1.length:Int) >>= fun x4=>
some (!x4)))
else(
F_169 N x3.2.2.1 (x1.length:Int) >>= fun x5=>
some (!x5))):Option Bool) >>= fun x6=>
((if(!x6)=true then(
some true)
else(
F_184 N x3.1 (x1.length:Int) >>= fun x7=>
if x7=true then(
some true)
else(
if(decide (x3.2.2.2<(-1)))=true then(
some true)
else(
some (decide (x3.2.2.2≥48)))))):Option Bool) >>= fun x8=>
if x8=true then(
some (.inr (.inr false)))
else(
some (.inl (w64 (x2+1)))))
else(
some (.inr (.inl ())))
def F_31(N:Nat)(x1:Za)(x2:Zc):Option Bool:=
((iterO N (fun s=>F_181 N x1 s) 0):Option (Unit ⊕ Bool)) >>= fun z=>match z with
| .inr z=>some z
| .inl _=>
((if(decide ((x2.length:Int)≥1))=true then(
some (decide ((x2.length:Int)≤8)))
else(
some false)):Option Bool) >>= fun x3=>
((if x3=true then(
if(decide ((x1.length:Int)≥1))=true then(
if(decide ((x1.length:Int)≤4000))=true then(
F_184 N x2 (x1.length:Int) >>= fun x4=>
some (!x4))
else(
some false))
else(
some false))
else(
some false)):Option Bool) >>= fun x5=>
some x5
def F_196(N:Nat)(x1:Za)(_x5:Zc):Option Zc:=
F_148 N (x1.length:Int) >>= fun z=>match z with
| .inl _=>(
none)
| .inr x2=>(
some x2)
def F_160(N:Nat)(x1:Za)(x2:Zc)(x3:Zc):Option ((Zc×Zc) ⊕ (Zc×Zc)):=
if(decide ((x2.length:Int)>0))=true then(
((idx x2 (w64 ((x2.length:Int)-1)) >>= fun x4=>
slc x2 0 (w64 ((x2.length:Int)-1)) >>= fun x5=>
F_33 N x3 (x1.length:Int) x4 >>= fun(x6,x7)=>
((if x7=true then(
idx x1 x4 >>= fun x8=>
app x5 x8.1 >>= fun x9=>
some x9)
else(
some x5)):Option Zc) >>= fun x10=>
some (x10,x6)):Option (Zc×Zc)) >>= fun(x11,x12)=>
some (.inl (x11,x12)))
else(
some (.inr (x2,x3)))
def F_45(N:Nat)(x1:Za)(x2:Zc)(x3:Zc):Option (Zc×Zc):=
F_196 N x1 x2 >>= fun x4=>
((iterO N (fun s=>F_160 N x1 s.1 s.2) (x3,x4)):Option (Zc×Zc)) >>= fun(x5,x6)=>
some (x5,x6)
def F_208(N:Nat)(x1:Za)(x2:Zc)(x3:Int):Option Zc:=
((if(decide (x3<0))=true then(
some true)
else(
some (decide (x3≥(x2.length:Int))))):Option Bool) >>= fun x4=>
if x4=true then(
F_196 N x1 x2 >>= fun x5=>
some x5)
else(
idx x2 x3 >>= fun x6=>
F_45 N x1 x2 ([x6]) >>= fun(_x76,x7)=>
some x7)
def F_194(N:Nat)(x1:Za)(x2:Zc)(x3:Int):Option Zc:=
F_31 N x1 x2 >>= fun x4=>
if(!x4)=true then(
none)
else(
F_208 N x1 x2 x3 >>= fun x5=>
some x5)
def F_58(_N:Nat)(_x3:Zc)(_x6:Int):Option Unit:=
some ()
def F_168(_N:Nat)(x1:Int):Option Int:=
if(x1==0)=true then(
some 64)
else(
idx tab_math_bits_deBruijn64tab (shrI .u64 (IntKind.wrap .u64 ((iand .u64 x1 (IntKind.wrap .u64 (0-x1)))*285870213051353865)) 58) >>= fun x2=>
some (IntKind.wrap .i64 x2))
def F_146(N:Nat)(x1:Zc)(x2:Int)(x3:Int)(x4:Int):Option (Int ⊕ (Unit ⊕ Int)):=
F_58 N x1 x2 >>= fun _=>
if(decide (x4<(x1.length:Int)))=true then(
((idx x1 x4 >>= fun x5=>
((if(x4==(w64 ((w64 ((imax x3 (-1))+1)).tdiv 64)))=true then(
nn ((w64 ((imax x3 (-1))+1)).tmod 64) >>= fun _x490=>
nn ((w64 ((imax x3 (-1))+1)).tmod 64) >>= fun _x491=>
some (shlI .u64 (shrI .u64 x5 ((w64 ((imax x3 (-1))+1)).tmod 64)) ((w64 ((imax x3 (-1))+1)).tmod 64)))
else(
some x5)):Option Int) >>= fun x6=>
if(x6 != 0)=true then(
F_168 N x6 >>= fun x7=>
some (.inr (.inr (.inr (w64 ((w64 (64*x4))+x7))))))
else(
some (.inl ()))):Option (Unit ⊕ (Int ⊕ (Unit ⊕ Int)))) >>= fun z=>match z with
| .inr z=>some z
| .inl _=>
some (.inl (w64 (x4+1))))
else(
some (.inr (.inl ())))
def F_5(N:Nat)(x1:Zc)(x2:Int)(x3:Int):Option Int:=
F_43 N x1 x2 >>= fun _=>
if(decide (x3≥x2))=true then(
some (-1))
else(
((iterO N (fun s=>F_146 N x1 x2 x3 s) (w64 ((w64 ((imax x3 (-1))+1)).tdiv 64))):Option (Unit ⊕ Int)) >>= fun z=>match z with
| .inr z=>some z
| .inl _=>
some (-1))
def F_71(N:Nat)(x1:Zc)(x2:Int)(x3:Zc)(x4:Int):Option ((Zc×Int) ⊕ Zc):=
if(decide (x4≥0))=true then(
app x3 ([x4]) >>= fun x5=>
F_5 N x1 x2 x4 >>= fun x6=>
some (.inl (x5,x6)))
else(
some (.inr x3))
def F_21(N:Nat)(x1:Zc)(x2:Int):Option Zc:=
F_5 N x1 x2 (-1) >>= fun x3=>
((iterO N (fun s=>F_71 N x1 x2 s.1 s.2) ([],x3)):Option Zc) >>= fun x4=>
some x4
def F_147(_N:Nat)(x1:Zc)(x2:Zc)(x3:Int):Option ((Zc×Int) ⊕ Zc):=
if(decide (x3<(x1.length:Int)))=true then(
idx x1 x3 >>= fun x4=>
app x2 ([IntKind.wrap .u8 (shrI .i64 x4 24),IntKind.wrap .u8 (shrI .i64 x4 16),IntKind.wrap .u8 (shrI .i64 x4 8),IntKind.wrap .u8 x4]) >>= fun x5=>
some (.inl (x5,w64 (x3+1))))
else(
some (.inr x2))
def F_48(N:Nat)(x1:Zc)(x2:Int):Option ByteArray:=
F_21 N x1 x2 >>= fun x3=>
((iterO N (fun s=>F_147 N x3 s.1 s.2) ([],0)):Option Zc) >>= fun x4=>
some (bstr x4)
def F_232(_N:Nat)(_x3:(Zc×Int)):Option Unit:=
some ()
def F_233(_N:Nat)(x1:(Zc×Int)):Option Zc:=
some x1.1
def F_214(N:Nat)(x1:(Zc×Int))(x2:Int)(x3:Int):Option (Int ⊕ (Unit ⊕ Int)):=
F_233 N x1 >>= fun x4=>
if(decide (x3<(x4.length:Int)))=true then(
((idx x1.1 x3 >>= fun x5=>
((if(x3==(w64 ((w64 ((imax x2 (-1))+1)).tdiv 64)))=true then(
nn ((w64 ((imax x2 (-1))+1)).tmod 64) >>= fun _x654=>
nn ((w64 ((imax x2 (-1))+1)).tmod 64) >>= fun _x655=>
some (shlI .u64 (shrI .u64 x5 ((w64 ((imax x2 (-1))+1)).tmod 64)) ((w64 ((imax x2 (-1))+1)).tmod 64)))
else(
some x5)):Option Int) >>= fun x6=>
if(x6 != 0)=true then(
F_168 N x6 >>= fun x7=>
some (.inr (.inr (.inr (w64 ((w64 (64*x3))+x7))))))
else(
some (.inl ()))):Option (Unit ⊕ (Int ⊕ (Unit ⊕ Int)))) >>= fun z=>match z with
| .inr z=>some z
| .inl _=>
some (.inl (w64 (x3+1))))
else(
some (.inr (.inl ())))
def F_62(N:Nat)(x1:(Zc×Int))(x2:Int):Option Int:=
F_232 N x1 >>= fun _=>
if(decide (x2≥x1.2))=true then(
some (-1))
else(
((iterO N (fun s=>F_214 N x1 x2 s) (w64 ((w64 ((imax x2 (-1))+1)).tdiv 64))):Option (Unit ⊕ Int)) >>= fun z=>match z with
| .inr z=>some z
| .inl _=>
some (-1))
def F_230(N:Nat)(x1:Za)(x2:(Zc×Int))(x3:Int)(x4:Int):Option ((Int×Int) ⊕ Int):=
((if(decide (x4≥0))=true then(
some (decide (x4<(x1.length:Int))))
else(
some false)):Option Bool) >>= fun x5=>
if x5=true then(
((idx x1 x4 >>= fun x6=>
((if(x6.2.2.2 != (-1))=true then(
if(x3==(-1))=true then(
some true)
else(
some (decide (x6.2.2.2<x3))))
else(
some false)):Option Bool) >>= fun x7=>
((if x7=true then(
some x6.2.2.2)
else(
some x3)):Option Int) >>= fun x8=>
some x8):Option Int) >>= fun x9=>
F_62 N x2 x4 >>= fun x10=>
some (.inl (x9,x10)))
else(
some (.inr x3))
def F_37(N:Nat)(x1:Za)(_x5:Zc)(x2:(Zc×Int)):Option Int:=
F_62 N x2 (-1) >>= fun x3=>
((iterO N (fun s=>F_230 N x1 x2 s.1 s.2) ((-1),x3)):Option Int) >>= fun x4=>
some x4
def F_195(N:Nat)(x1:Za)(x2:Zc)(x3:(Zc×Int)):Option Int:=
F_31 N x1 x2 >>= fun x4=>
if(!x4)=true then(
some (-1))
else(
F_37 N x1 x2 x3 >>= fun x5=>
some x5)
def F_68(N:Nat)(x1:Zb)(x2:Zc)(_x11:Zc)(x3:Za)(x4:Zc)(x5:Zg)(x6:(List (Zc×Int)))(x7:Zc)(x8:Int):Option (Zb×Zc×Zg×(List (Zc×Int))×Int×Int):=
F_48 N x7 x8 >>= fun x9=>
if((mget x5 x9).isSome)=true then(
some (x1,x2,x5,x6,0,(mget x5 x9).getD 0))
else(
if(decide ((x6.length:Int)≥200))=true then(
some (x1,x2,x5,x6,9,0))
else(
((some ()):Option Unit) >>= fun _=>
app x6 ([(x7,x8)]) >>= fun x10=>
app x1 ([(List.replicate 256 0)]) >>= fun x11=>
((F_195 N x3 x4 (x7,x8) >>= fun x12=>
app x2 ([x12]) >>= fun x13=>
some x13):Option Zc) >>= fun x14=>
some (x11,x14,(mset x5 x9 (x6.length:Int)),x10,0,w64 ((x10.length:Int)-1))))
def F_193(N:Nat)(x1:Zb)(x2:Zc)(_x11:Zc)(x3:Za)(x4:Zc)(x5:Zg)(x6:(List (Zc×Int)))(x7:Int)(x8:Zc)(x9:Int):Option (Zb×Zc×Zg×(List (Zc×Int))×Int×Int):=
F_48 N x8 x9 >>= fun x10=>
if((mget x5 x10).isSome)=true then(
some (x1,x2,x5,x6,x7,(mget x5 x10).getD 0))
else(
if(decide ((x6.length:Int)≥200))=true then(
some (x1,x2,x5,x6,9,0))
else(
((some ()):Option Unit) >>= fun _=>
app x6 ([(x8,x9)]) >>= fun x11=>
app x1 ([(List.replicate 256 0)]) >>= fun x12=>
((F_195 N x3 x4 (x8,x9) >>= fun x13=>
app x2 ([x13]) >>= fun x14=>
some x14):Option Zc) >>= fun x15=>
some (x12,x15,(mset x5 x10 (x6.length:Int)),x11,x7,w64 ((x11.length:Int)-1))))
def F_98(_N:Nat)(x1:Int)(x2:Int)(x3:Int)(x4:Int)(x5:Int):Option ((Int×Int×Int×Int×Int) ⊕ Zd):=
if(decide (x5<4))=true then(
idx [x1,x2,x3,x4] x5 >>= fun x6=>
idx [x1,x2,x3,x4] x5 >>= fun _x193=>
setI [x1,x2,x3,x4] x5 (inv .u64 x6) >>= fun x7=>
some (.inl (x7.getD 0 0,x7.getD 1 0,x7.getD 2 0,x7.getD 3 0,w64 (x5+1))))
else(
some (.inr (x1,x2,x3,x4)))
def F_39(N:Nat)(x1:Int)(x2:Int)(x3:Int)(x4:Int):Option Zd:=
((iterO N (fun s=>F_98 N s.1 s.2.1 s.2.2.1 s.2.2.2.1 s.2.2.2.2) (x1,x2,x3,x4,0)):Option Zd) >>= fun(x5,x6,x7,x8)=>
some (x5,x6,x7,x8)
def F_201(N:Nat):Option Zd:=
F_39 N 0 0 0 0 >>= fun(x1,x2,x3,x4)=>
some (x1,x2,x3,x4)
def F_96(_N:Nat)(x1:Int)(x2:Int)(x3:Int)(x4:Int)(x5:Int)(x6:Int)(x7:Int)(x8:Int)(x9:Int):Option ((Int×Int×Int×Int×Int) ⊕ Zd):=
if(decide (x9<4))=true then(
((idx [x5,x6,x7,x8] x9 >>= fun x10=>
idx [x1,x2,x3,x4] x9 >>= fun x11=>
idx [x5,x6,x7,x8] x9 >>= fun _x405=>
setI [x5,x6,x7,x8] x9 (iand .u64 x10 x11) >>= fun x12=>
some (x12.getD 0 0,x12.getD 1 0,x12.getD 2 0,x12.getD 3 0)):Option Zd) >>= fun(x13,x14,x15,x16)=>
some (.inl (x13,x14,x15,x16,w64 (x9+1))))
else(
some (.inr (x5,x6,x7,x8)))
def F_36(N:Nat)(x1:Int)(x2:Int)(x3:Int)(x4:Int)(x5:Int)(x6:Int)(x7:Int)(x8:Int):Option Zd:=
((iterO N (fun s=>F_96 N x5 x6 x7 x8 s.1 s.2.1 s.2.2.1 s.2.2.2.1 s.2.2.2.2) (x1,x2,x3,x4,0)):Option Zd) >>= fun(x9,x10,x11,x12)=>
some (x9,x10,x11,x12)
def F_202(N:Nat)(x1:Int)(x2:Int)(x3:Int)(x4:Int)(x5:Int)(x6:Int)(x7:Int)(x8:Int):Option Zd:=
((F_39 N x5 x6 x7 x8 >>= fun(x9,x10,x11,x12)=>
F_36 N x1 x2 x3 x4 x9 x10 x11 x12 >>= fun(x13,x14,x15,x16)=>
some (x13,x14,x15,x16)):Option Zd) >>= fun(x17,x18,x19,x20)=>
some (x17,x18,x19,x20)
def F_18(_N:Nat)(_x1:Int)(_x2:Int)(_x3:Int)(_x4:Int):Option Unit:=
some ()
def F_170(N:Nat){σ:Type}(Y:(Int→σ→Option (σ×Bool)))(x1:Int)(x2:σ)(x3:Int):Option ((σ×Int) ⊕ (σ ⊕ ((σ×Int) ⊕ (σ ⊕ (σ×Bool))))):=
if(x3 != 0)=true then(
F_168 N x3 >>= fun x4=>
Y (w64 ((w64 (64*x1))+x4)) x2 >>= fun q5=>
if(!q5.2)=true then(
some (.inr (.inr (.inr (.inr (q5.1,false))))))
else(
some (.inl (q5.1,iand .u64 x3 (IntKind.wrap .u64 (x3-1))))))
else(
some (.inr (.inl x2)))
def F_100(N:Nat){σ:Type}(Y:(Int→σ→Option (σ×Bool)))(x1:Int)(x2:Int)(x3:Int)(x4:Int)(x5:σ)(x6:Int):Option ((σ×Int) ⊕ (σ ⊕ (σ×Bool))):=
if(decide (x6<4))=true then(
idx [x1,x2,x3,x4] x6 >>= fun x7=>
((iterO N (fun s=>F_170 N Y x6 s.1 s.2) (x5,x7)):Option (σ ⊕ ((σ×Int) ⊕ (σ ⊕ (σ×Bool))))) >>= fun z=>match z with
| .inr z=>some z
| .inl x8=>
some (.inl (x8,w64 (x6+1))))
else(
some (.inr (.inl x5)))
def F_30(N:Nat){σ:Type}(Y:Int→σ→Option (σ×Bool))(s0:σ)(x1:Int)(x2:Int)(x3:Int)(x4:Int):Option (σ×Bool):=
((iterO N (fun s=>F_100 N Y x1 x2 x3 x4 s.1 s.2) (s0,0)):Option (σ ⊕ (σ×Bool))) >>= fun z=>match z with
| .inr z=>some z
| .inl x5=>
some (x5,true)
def F_220(_N:Nat)(x1:Int)(x2:Int):Option ((Int ⊕ Int)×Bool):=
if(x2==0)=true then(
some (.inr x1,false))
else(
some (.inl (w64 (x2-1)),true))
def F_99(N:Nat)(x1:Int)(x2:Int)(x3:Int)(x4:Int)(x5:Int):Option Int:=
((if(decide (x5<0))=true then(
some true)
else(
some (decide (x5≥256)))):Option Bool) >>= fun x6=>
if x6=true then(
some (-1))
else(
F_18 N x1 x2 x3 x4 >>= fun _=>
F_30 N (YS (σ1:=Int) (σ2:=Int) (fun x s=>F_220 N x s)) (.inl x5) x1 x2 x3 x4 >>= fun z=>match z with
|(.inl _x60,true)=>(
some (-1))
|(.inr x7,false)=>(
some x7)
|_=>none)
def F_150(N:Nat)(x1:Int)(x2:Int)(x3:Int)(x4:Int):Option Int:=
F_99 N x1 x2 x3 x4 0 >>= fun x5=>
some x5
def F_112(_N:Nat)(_x1:Int):Option Unit:=
some ()
def F_198(N:Nat)(x1:Int)(x2:Int):Option Int:=
F_112 N x1 >>= fun _=>
F_112 N x2 >>= fun _=>
if(x1 != x1)=true then(
if(x2 != x2)=true then(
some 0)
else(
some (-1)))
else(
if(x2 != x2)=true then(
some 1)
else(
if(decide (x1<x2))=true then(
some (-1))
else(
if(decide (x1>x2))=true then(
some 1)
else(
some 0))))
def F_149(N:Nat)(x1:Int)(x2:Int)(x3:Int)(x4:Int)(x5:Int)(x6:Int)(x7:Int)(x8:Int):Option Int:=
F_150 N x1 x2 x3 x4 >>= fun x9=>
F_150 N x5 x6 x7 x8 >>= fun x10=>
F_198 N x9 x10 >>= fun x11=>
some x11
def F_95(N:Nat)(x1:Int)(x2:Int)(x3:Int)(x4:Int)(x5:Int)(x6:Int)(x7:Int)(x8:Int)(x9:Int)(x10:(List Zd)):Option ((Int×(List Zd)) ⊕ (List Zd)):=
if(decide (x9<2))=true then(
((idx [(x1,x2,x3,x4),(x5,x6,x7,x8)] x9 >>= fun x11=>
F_182 N x11.1 x11.2.1 x11.2.2.1 x11.2.2.2 >>= fun _=>
((if(!(([x11.1,x11.2.1,x11.2.2.1,x11.2.2.2]:List Int)==([0,0,0,0]:List Int)))=true then(
app x10 ([(x11.1,x11.2.1,x11.2.2.1,x11.2.2.2)]) >>= fun x12=>
some x12)
else(
some x10)):Option (List Zd)) >>= fun x13=>
some x13):Option (List Zd)) >>= fun x14=>
some (.inl (w64 (x9+1),x14)))
else(
some (.inr x10))
def F_94(N:Nat)(x1:(List Zd))(x2:(Zc×Zd×Int×Int))(x3:Int)(x4:(List Zd)):Option ((Int×(List Zd)) ⊕ (List Zd)):=
if(decide (x3<(x1.length:Int)))=true then(
idx x1 x3 >>= fun x5=>
F_36 N x5.1 x5.2.1 x5.2.2.1 x5.2.2.2 x2.2.1.1 x2.2.1.2.1 x2.2.1.2.2.1 x2.2.1.2.2.2 >>= fun(x6,x7,x8,x9)=>
F_202 N x5.1 x5.2.1 x5.2.2.1 x5.2.2.2 x2.2.1.1 x2.2.1.2.1 x2.2.1.2.2.1 x2.2.1.2.2.2 >>= fun(x10,x11,x12,x13)=>
((iterO N (fun s=>F_95 N x6 x7 x8 x9 x10 x11 x12 x13 s.1 s.2) (0,x4)):Option (List Zd)) >>= fun x14=>
some (.inl (w64 (x3+1),x14)))
else(
some (.inr x4))
def F_93(N:Nat)(x1:Za)(x2:Int)(x3:(List Zd))(x4:(List (Zc×Int))):Option ((Int×(List Zd)×(List (Zc×Int))) ⊕ (List Zd)):=
if(decide (x2<(x1.length:Int)))=true then(
((idx x1 x2 >>= fun x5=>
if(decide (((mget x4 ([x5.2.1.1,x5.2.1.2.1,x5.2.1.2.2.1,x5.2.1.2.2.2])).getD 0)>0))=true then(
some (x3,x4))
else(
((some ()):Option Unit) >>= fun _=>
((iterO N (fun s=>F_94 N x3 x5 s.1 s.2) (0,[])):Option (List Zd)) >>= fun x6=>
some (x6,(mset (mset x4 ([x5.2.1.1,x5.2.1.2.1,x5.2.1.2.2.1,x5.2.1.2.2.2]) ((mget x4 ([x5.2.1.1,x5.2.1.2.1,x5.2.1.2.2.1,x5.2.1.2.2.2])).getD 0)) ([x5.2.1.1,x5.2.1.2.1,x5.2.1.2.2.1,x5.2.1.2.2.2]) (w64 (((mget x4 ([x5.2.1.1,x5.2.1.2.1,x5.2.1.2.2.1,x5.2.1.2.2.2])).getD 0)+1)))))):Option ((List Zd)×(List (Zc×Int)))) >>= fun(x7,x8)=>
some (.inl (w64 (x2+1),x7,x8)))
else(
some (.inr x3))
noncomputable def F_6(N:Nat)(x1:Za)(x2:Zc):Option (List Zd):=
F_31 N x1 x2 >>= fun x3=>
if(!x3)=true then(
some ([]))
else(
F_201 N >>= fun(x4,x5,x6,x7)=>
((iterO N (fun s=>F_93 N x1 s.1 s.2.1 s.2.2) (0,[(x4,x5,x6,x7)],([]:List (Zc×Int)))):Option (List Zd)) >>= fun x8=>
sortF (fun a b=>F_149 N a.1 a.2.1 a.2.2.1 a.2.2.2 b.1 b.2.1 b.2.2.1 b.2.2.2) x8 >>= fun x9=>
some x9)
def F_183(_N:Nat)(x1:Int)(x2:Int)(x3:Int)(x4:Int)(x5:Int):Option Bool:=
idx [x1,x2,x3,x4] (IntKind.wrap .u8 (x5.tdiv 64)) >>= fun x6=>
nn (x5.tmod 64) >>= fun _x16=>
some ((iand .u64 (shrI .u64 x6 (x5.tmod 64)) 1)==1)
def F_231(N:Nat)(x1:Za)(x2:(Zc×Int))(x3:Int)(x4:Zc)(x5:Int):Option ((Zc×Int) ⊕ Zc):=
((if(decide (x5≥0))=true then(
some (decide (x5<(x1.length:Int))))
else(
some false)):Option Bool) >>= fun x6=>
if x6=true then(
((idx x1 x5 >>= fun x7=>
F_183 N x7.2.1.1 x7.2.1.2.1 x7.2.1.2.2.1 x7.2.1.2.2.2 x3 >>= fun x8=>
((if x8=true then(
app x4 ([x7.2.2.1]) >>= fun x9=>
some x9)
else(
some x4)):Option Zc) >>= fun x10=>
some x10):Option Zc) >>= fun x11=>
F_62 N x2 x5 >>= fun x12=>
some (.inl (x11,x12)))
else(
some (.inr x4))
def F_38(N:Nat)(x1:Za)(x2:Zc)(x3:(Zc×Int))(x4:Int):Option Zc:=
F_62 N x3 (-1) >>= fun x5=>
((iterO N (fun s=>F_231 N x1 x3 x4 s.1 s.2) ([],x5)):Option Zc) >>= fun x6=>
F_45 N x1 x2 x6 >>= fun(_x1949,x7)=>
some x7
def F_207(N:Nat)(x1:Za)(x2:Zc)(x3:(Zc×Int))(x4:Int):Option Zc:=
F_31 N x1 x2 >>= fun x5=>
if(!x5)=true then(
none)
else(
F_38 N x1 x2 x3 x4 >>= fun x6=>
some x6)
def F_97(_N:Nat)(x1:Int)(x2:Zc):Option (Zc×Bool):=
app x2 ([IntKind.wrap .u8 x1]) >>= fun x3=>
some (x3,true)
def F_44(N:Nat)(x1:Int)(x2:Int)(x3:Int)(x4:Int):Option Zc:=
F_18 N x1 x2 x3 x4 >>= fun _=>
F_30 N (fun x s=>F_97 N x s) ([]) x1 x2 x3 x4 >>= fun z=>match z with
|(x5,true)=>(
some x5)
|_=>none
def F_102(_N:Nat)(x1:Int)(x2:Int)(x3:Zc)(x4:Zb)(x5:Int):Option ((Zb×Int) ⊕ Zb):=
if(decide (x5<(x3.length:Int)))=true then(
idx x3 x5 >>= fun x6=>
idx x4 x1 >>= fun x7=>
idx x7 x6 >>= fun _x3079=>
setI x7 x6 x2 >>= fun x8=>
setI x4 x1 x8 >>= fun x9=>
some (.inl (x9,w64 (x5+1))))
else(
some (.inr x4))
def F_152(N:Nat)(x1:Zc)(x2:Za)(x3:Zc)(x4:Int)(x5:(List Zd))(x6:Zb)(x7:Zc)(x8:Zg)(x9:(List (Zc×Int)))(x10:Int)(x11:Int):Option ((Zb×Zc×Zg×(List (Zc×Int))×Int×Int) ⊕ (Zb×Zc×Zg×(List (Zc×Int))×Int)):=
if(decide (x11<(x5.length:Int)))=true then(
idx x5 x11 >>= fun x12=>
idx x9 x4 >>= fun x13=>
F_150 N x12.1 x12.2.1 x12.2.2.1 x12.2.2.2 >>= fun x14=>
F_207 N x2 x3 x13 (IntKind.wrap .u8 x14) >>= fun x15=>
F_193 N x6 x7 x1 x2 x3 x8 x9 x10 x15 (x2.length:Int) >>= fun(x16,x17,x18,x19,x20,x21)=>
F_44 N x12.1 x12.2.1 x12.2.2.1 x12.2.2.2 >>= fun x22=>
((iterO N (fun s=>F_102 N x4 x21 x22 s.1 s.2) (x16,0)):Option Zb) >>= fun x23=>
some (.inl (x23,x17,x18,x19,x20,w64 (x11+1))))
else(
some (.inr (x6,x7,x8,x9,x10)))
def F_32(N:Nat)(x1:Zb)(x2:Zc)(x3:Zc)(x4:Za)(x5:Zc)(x6:Zg)(x7:(List (Zc×Int)))(x8:Int)(x9:Int)(x10:(List Zd)):Option (Zb×Zc×Zg×(List (Zc×Int))×Int):=
((iterO N (fun s=>F_152 N x3 x4 x5 x9 x10 s.1 s.2.1 s.2.2.1 s.2.2.2.1 s.2.2.2.2.1 s.2.2.2.2.2) (x1,x2,x6,x7,x8,0)):Option (Zb×Zc×Zg×(List (Zc×Int))×Int)) >>= fun(x11,x12,x13,x14,x15)=>
some (x11,x12,x13,x14,x15)
def F_72(N:Nat)(x1:Za)(x2:Zc)(x3:Int)(x4:Zb)(x5:Zc)(x6:Zc)(x7:Zg)(x8:(List (Zc×Int)))(x9:Int):Option ((Int×Zb×Zc×Zc×Zg×(List (Zc×Int))×Int) ⊕ (Zb×Zc×Zc×Zg×(List (Zc×Int))×Int)):=
if(decide (x3<(x2.length:Int)))=true then(
((F_194 N x1 x2 x3 >>= fun x10=>
F_193 N x4 x5 x6 x1 x2 x7 x8 x9 x10 (x1.length:Int) >>= fun(x11,x12,x13,x14,x15,x16)=>
app x6 ([x16]) >>= fun x17=>
some (x11,x12,x17,x13,x14,x15)):Option (Zb×Zc×Zc×Zg×(List (Zc×Int))×Int)) >>= fun(x18,x19,x20,x21,x22,x23)=>
some (.inl (w64 (x3+1),x18,x19,x20,x21,x22,x23)))
else(
some (.inr (x4,x5,x6,x7,x8,x9)))
def F_59(N:Nat)(x1:Za)(x2:Zc)(x3:Zc)(x4:(List Zd))(x5:Zb)(x6:Zc)(x7:Zg)(x8:(List (Zc×Int)))(x9:Int)(x10:Int):Option ((Zb×Zc×Zg×(List (Zc×Int))×Int×Int) ⊕ (Zb×Zc×Zg×(List (Zc×Int))×Int)):=
((if(decide (x10<(x8.length:Int)))=true then(
some (!(eOk errIds x9)))
else(
some false)):Option Bool) >>= fun x11=>
if x11=true then(
F_32 N x5 x6 x3 x1 x2 x7 x8 x9 x10 x4 >>= fun(x12,x13,x14,x15,x16)=>
some (.inl (x12,x13,x14,x15,x16,w64 (x10+1))))
else(
some (.inr (x5,x6,x7,x8,x9)))
noncomputable def F_19(N:Nat)(x1:Za)(x2:Zc):Option (Zb×Zc×Zc×Int):=
F_31 N x1 x2 >>= fun x3=>
if(!x3)=true then(
((some ()):Option Unit) >>= fun _=>
some ([],[],[],4))
else(
F_194 N x1 x2 (-1) >>= fun x4=>
F_68 N ([]) ([]) ([]) x1 x2 ([]:List (ByteArray×Int)) ([]) x4 (x1.length:Int) >>= fun(x5,x6,x7,x8,x9,_x1934)=>
((iterO N (fun s=>F_72 N x1 x2 s.1 s.2.1 s.2.2.1 s.2.2.2.1 s.2.2.2.2.1 s.2.2.2.2.2.1 s.2.2.2.2.2.2) (0,x5,x6,([]),x7,x8,x9)):Option (Zb×Zc×Zc×Zg×(List (Zc×Int))×Int)) >>= fun(x10,x11,x12,x13,x14,x15)=>
F_6 N x1 x2 >>= fun x16=>
((iterO N (fun s=>F_59 N x1 x2 x12 x16 s.1 s.2.1 s.2.2.1 s.2.2.2.1 s.2.2.2.2.1 s.2.2.2.2.2) (x10,x11,x13,x14,x15,0)):Option (Zb×Zc×Zg×(List (Zc×Int))×Int)) >>= fun(x17,x18,_x3647,_x3650,x19)=>
if(eOk errIds x19)=true then(
((some ()):Option Unit) >>= fun _=>
some ([],[],[],x19))
else(
some (x17,x18,x12,0)))
def F_159(N:Nat)(x1:Zb)(x2:Zc)(x3:Int)(x4:Zc):Option ((Int×Zc) ⊕ Zc):=
if(decide (x3<(x2.length:Int)))=true then(
idx x2 x3 >>= fun x5=>
F_33 N x4 (x1.length:Int) x5 >>= fun(x6,_x276)=>
some (.inl (w64 (x3+1),x6)))
else(
some (.inr x4))
def F_50(N:Nat)(x1:Zb)(_x5:Zc)(_x8:Zc)(x2:Zc):Option (Unit ⊕ Zc):=
F_148 N (x1.length:Int) >>= fun z=>match z with
| .inl _=>(
some (.inl ()))
| .inr x3=>(
((iterO N (fun s=>F_159 N x1 x2 s.1 s.2) (0,x3)):Option Zc) >>= fun x4=>
some (.inr x4))
def F_197(_N:Nat)(x:Zc):Option Zc:=app [] x
def F_218(_N:Nat):Option Unit:=
some ()
def F_219(N:Nat)(x1:Int):Option (Int×Int×Bool):=
((nn ((IntKind.wrap .u64 x1).tmod 64) >>= fun _x26=>
if(decide (x1≥0))=true then(
F_218 N >>= fun _=>
some (w64 (x1.tdiv 64),shlI .u64 1 ((IntKind.wrap .u64 x1).tmod 64),decide (x1<0)))
else(
some (w64 (x1.tdiv 64),shlI .u64 1 ((IntKind.wrap .u64 x1).tmod 64),false))):Option (Int×Int×Bool)) >>= fun(x2,x3,x4)=>
some (x2,x3,x4)
def F_217(N:Nat)(x1:Int):Option Unit:=
F_219 N x1 >>= fun(_x12,_x13,x2)=>
((if(!x2)=true then(
some ())
else(
none)):Option Unit) >>= fun _=>
some ()
def F_229(N:Nat)(x1:Zc):Option (Zc ⊕ Unit):=
if(decide ((x1.length:Int)>0))=true then(
((idx x1 0 >>= fun x2=>
slc x1 1 (x1.length:Int) >>= fun x3=>
F_217 N x2 >>= fun _=>
((some ()):Option Unit) >>= fun _=>
some x3):Option Zc) >>= fun x4=>
some (.inl x4))
else(
some (.inr ()))
def F_106(N:Nat)(x1:Zb)(x2:Zc)(x3:Zc):Option ((Zc×Zc) ⊕ Zc):=
if(decide ((x3.length:Int)>0))=true then(
((idx x3 0 >>= fun x4=>
slc x3 1 (x3.length:Int) >>= fun x5=>
F_33 N x2 (x1.length:Int) x4 >>= fun(x6,x7)=>
((if x7=true then(
idx x1 x4 >>= fun x8=>
app x5 x8 >>= fun x9=>
some x9)
else(
some x5)):Option Zc) >>= fun x10=>
some (x6,x10)):Option (Zc×Zc)) >>= fun(x11,x12)=>
some (.inl (x11,x12)))
else(
some (.inr x2))
def F_34(N:Nat)(x1:Zb)(x2:Zc)(x3:Zc):Option (Unit ⊕ Zc):=
F_50 N x1 x2 x3 ([0]) >>= fun z=>match z with
| .inl _=>(
F_197 N x3 >>= fun x4=>
((iterO N (fun s=>F_229 N s) x4):Option Unit) >>= fun _=>
some (.inl ()))
| .inr x5=>(
F_197 N x3 >>= fun x6=>
((iterO N (fun s=>F_106 N x1 s.1 s.2) (x5,x6)):Option Zc) >>= fun x7=>
some (.inr x7))
def F_42(N:Nat)(x1:Int):Option Unit:=
F_219 N x1 >>= fun(_x12,_x13,x2)=>
((if x2=true then(
none)
else(
some ())):Option Unit) >>= fun _=>
some ()
def F_157(N:Nat)(x1:Int):Option Unit:=
F_42 N x1 >>= fun _=>
some ()
def F_221(N:Nat)(x1:Zc)(x2:Int):Option (Int ⊕ Unit):=
if(decide (x2<(x1.length:Int)))=true then(
idx x1 x2 >>= fun x3=>
F_157 N x3 >>= fun _=>
some (.inl (w64 (x2+1))))
else(
some (.inr ()))
def F_151(N:Nat)(x1:Zc):Option Unit:=
((iterO N (fun s=>F_221 N x1 s) 0):Option Unit) >>= fun _=>
some ()
def F_235(N:Nat)(x1:Zc):Option Unit:=
F_151 N x1 >>= fun _=>
some ()
def F_91(N:Nat)(x1:Zc)(x2:Int)(x3:Int):Option Bool:=
F_63 N x1 x2 x3 >>= fun(x4,x5,x6)=>
((if x6=true then(
idx x1 x4 >>= fun x7=>
some ((iand .u64 x7 x5) != 0))
else(
some false)):Option Bool) >>= fun x8=>
some x8
def F_225(N:Nat)(x1:Int)(x2:Zc)(x3:Int):Option Bool:=
F_91 N x2 x3 x1 >>= fun x4=>
some x4
def F_189(N:Nat)(x1:Zc)(x2:Zc)(x3:Int)(x4:Int):Option (Int ⊕ (Unit ⊕ Int)):=
if(decide (x4<(x1.length:Int)))=true then(
idx x1 x4 >>= fun x5=>
F_225 N x5 x2 x3 >>= fun x6=>
if x6=true then(
some (.inr (.inr x4)))
else(
some (.inl (w64 (x4+1)))))
else(
some (.inr (.inl ())))
def F_66(N:Nat)(x1:Zc)(x2:Zc)(x3:Int):Option Int:=
((iterO N (fun s=>F_189 N x1 x2 x3 s) 0):Option (Unit ⊕ Int)) >>= fun z=>match z with
| .inr z=>some z
| .inl _=>
some (-1)
def F_185(N:Nat)(x1:Zc)(x2:Zc)(x3:Int):Option Bool:=
F_66 N x1 x2 x3 >>= fun x4=>
some (decide (x4≥0))
def F_226(N:Nat)(x1:Zc)(x2:Int):Option (Int ⊕ Unit):=
if(decide (x2<(x1.length:Int)))=true then(
((idx x1 x2 >>= fun x3=>
((if(x3 != (-1))=true then(
F_217 N x2 >>= fun _=>
some ())
else(
some ())):Option Unit) >>= fun _=>
some ()):Option Unit) >>= fun _=>
some (.inl (w64 (x2+1))))
else(
some (.inr ()))
def F_228(N:Nat)(x1:Zb)(x2:Int):Option (Int ⊕ Unit):=
if(decide (x2<(x1.length:Int)))=true then(
((idx x1 x2 >>= fun x3=>
((F_42 N x2 >>= fun _=>
F_235 N x3 >>= fun _=>
some ()):Option Unit) >>= fun _=>
((some ()):Option Unit) >>= fun _=>
some x3):Option Zc) >>= fun _x9323=>
some (.inl (w64 (x2+1))))
else(
some (.inr ()))
def F_227(N:Nat)(x1:Zb)(x2:Bool):Option (Bool ⊕ Unit):=
if x2=true then(
((iterO N (fun s=>F_228 N x1 s) 0):Option Unit) >>= fun _=>
some (.inl false))
else(
some (.inr ()))
def F_104(N:Nat)(x1:Zb)(x2:Zc)(x3:Int)(x4:Zc):Option ((Int×Zc) ⊕ Zc):=
if(decide (x3<(x2.length:Int)))=true then(
((idx x2 x3 >>= fun x5=>
((if(x5 != (-1))=true then(
F_33 N x4 (x1.length:Int) x3 >>= fun(x6,_x9732)=>
some x6)
else(
some x4)):Option Zc) >>= fun x7=>
some x7):Option Zc) >>= fun x8=>
some (.inl (w64 (x3+1),x8)))
else(
some (.inr x4))
def F_105(N:Nat)(x1:Zb)(x2:Zc)(x3:Int)(x4:Bool):Option ((Zc×Int×Bool) ⊕ (Zc×Bool)):=
if(decide (x3<(x1.length:Int)))=true then(
((idx x1 x3 >>= fun x5=>
((F_91 N x2 (x1.length:Int) x3 >>= fun x6=>
if(!x6)=true then(
F_185 N x5 x2 (x1.length:Int) >>= fun x7=>
some x7)
else(
some false)):Option Bool) >>= fun x8=>
((if x8=true then(
F_33 N x2 (x1.length:Int) x3 >>= fun(x9,x10)=>
some (x9,x10))
else(
some (x2,x4))):Option (Zc×Bool)) >>= fun(x11,x12)=>
some (x11,x12)):Option (Zc×Bool)) >>= fun(x13,x14)=>
some (.inl (x13,w64 (x3+1),x14)))
else(
some (.inr (x2,x4)))
def F_158(N:Nat)(x1:Zb)(x2:Zc)(x3:Bool):Option ((Zc×Bool) ⊕ Zc):=
if x3=true then(
((iterO N (fun s=>F_105 N x1 s.1 s.2.1 s.2.2) (x2,0,false)):Option (Zc×Bool)) >>= fun(x4,x5)=>
some (.inl (x4,x5)))
else(
some (.inr x2))
def F_2(N:Nat)(x1:Zb)(x2:Zc)(x3:Zc):Option (Unit ⊕ Zc):=
F_50 N x1 x2 x3 [] >>= fun z=>match z with
| .inl _=>(
((iterO N (fun s=>F_226 N x2 s) 0):Option Unit) >>= fun _=>
((iterO N (fun s=>F_227 N x1 s) true):Option Unit) >>= fun _=>
some (.inl ()))
| .inr x4=>(
((iterO N (fun s=>F_104 N x1 x2 s.1 s.2) (0,x4)):Option Zc) >>= fun x5=>
((iterO N (fun s=>F_158 N x1 s.1 s.2) (x5,true)):Option Zc) >>= fun x6=>
some (.inr x6))
def F_234(_N:Nat):Option Unit:=
some ()
def F_215(N:Nat)(_x53:Int)(x1:Int):Option ((Int×Int) ⊕ Unit):=
F_234 N >>= fun _=>
if(decide (x1<(([]:List Int).length:Int)))=true then(
none)
else(
some (.inr ()))
def F_145(N:Nat)(x1:Int):Option Unit:=
F_218 N >>= fun _=>
if(decide (x1≥0))=true then(
some ())
else(
((iterO N (fun s=>F_215 N s.1 s.2) (w64 ((imax x1 (-1))+1),w64 ((w64 ((imax x1 (-1))+1)).tdiv 64))):Option Unit) >>= fun _=>
some ())
def F_216(_N:Nat):Option (Unit ⊕ Unit):=
some (.inr ())
def F_92(N:Nat):Option Unit:=
F_145 N (-1) >>= fun _=>
((iterO N (fun s=>F_216 N) ()):Option Unit) >>= fun _=>
some ()
def F_222(N:Nat)(x1:Int):Option (Int ⊕ Unit):=
if(decide (x1<(([]:List Int).length:Int)))=true then(
((idx ([]) x1 >>= fun x2=>
((F_42 N x2 >>= fun _=>
some ()):Option Unit) >>= fun _=>
((some ()):Option Unit) >>= fun _=>
some ()):Option Unit) >>= fun _=>
some (.inl (w64 (x1+1))))
else(
some (.inr ()))
def F_223(N:Nat)(x1:Zc)(x2:Int):Option (Int ⊕ Unit):=
if(decide (x2<(x1.length:Int)))=true then(
((idx x1 x2 >>= fun x3=>
((F_42 N x3 >>= fun _=>
some ()):Option Unit) >>= fun _=>
((some ()):Option Unit) >>= fun _=>
some ()):Option Unit) >>= fun _=>
some (.inl (w64 (x2+1))))
else(
some (.inr ()))
def F_224(N:Nat)(x1:Zb)(x2:Zc)(x3:Int)(x4:Zc):Option ((Int×Zc) ⊕ Zc):=
if(decide (x3<(([]:List Int).length:Int)))=true then(
((idx ([]) x3 >>= fun x5=>
((F_91 N x2 (x1.length:Int) x5 >>= fun x6=>
if x6=true then(
some (decide (x5>0)))
else(
some false)):Option Bool) >>= fun x7=>
((if x7=true then(
app x4 ([x5]) >>= fun x8=>
some x8)
else(
some x4)):Option Zc) >>= fun x9=>
some x9):Option Zc) >>= fun x10=>
some (.inl (w64 (x3+1),x10)))
else(
some (.inr x4))
def F_156(N:Nat)(x1:Zb)(x2:Zc)(x3:Zc)(x4:Int)(x5:Zc):Option ((Int×Zc) ⊕ Zc):=
if(decide (x4<(x3.length:Int)))=true then(
((idx x3 x4 >>= fun x6=>
((F_91 N x2 (x1.length:Int) x6 >>= fun x7=>
if x7=true then(
some (decide (x6>0)))
else(
some false)):Option Bool) >>= fun x8=>
((if x8=true then(
app x5 ([x6]) >>= fun x9=>
some x9)
else(
some x5)):Option Zc) >>= fun x10=>
some x10):Option Zc) >>= fun x11=>
some (.inl (w64 (x4+1),x11)))
else(
some (.inr x5))
def F_24(N:Nat)(x1:Zb)(x2:Zc)(x3:Zc):Option Zc:=
F_34 N x1 x2 x3 >>= fun z=>match z with
| .inl _=>(
F_2 N x1 x2 x3 >>= fun z=>match z with
| .inl _=>(
F_92 N >>= fun _=>
((iterO N (fun s=>F_222 N s) 0):Option Unit) >>= fun _=>
some ([0]))
| .inr x4=>(
F_21 N x4 (x1.length:Int) >>= fun x5=>
((iterO N (fun s=>F_223 N x5 s) 0):Option Unit) >>= fun _=>
some ([0])))
| .inr x6=>(
F_2 N x1 x2 x3 >>= fun z=>match z with
| .inl _=>(
F_92 N >>= fun _=>
((iterO N (fun s=>F_224 N x1 x6 s.1 s.2) (0,[0])):Option Zc) >>= fun x7=>
some x7)
| .inr x8=>(
F_21 N x8 (x1.length:Int) >>= fun x9=>
((iterO N (fun s=>F_156 N x1 x6 x9 s.1 s.2) (0,[0])):Option Zc) >>= fun x10=>
some x10))
def F_153(_N:Nat)(x1:Zc)(x2:Int)(x3:Zc):Option ((Int×Zc) ⊕ Zc):=
if(decide (x2<(x1.length:Int)))=true then(
idx x1 x2 >>= fun x4=>
idx x3 x4 >>= fun _x1919=>
setI x3 x4 x2 >>= fun x5=>
some (.inl (w64 (x2+1),x5)))
else(
some (.inr x3))
def F_103(_N:Nat)(x1:Zc)(x2:Zc)(x3:Zc)(x4:Int):Option ((Zc×Int) ⊕ Zc):=
if(decide (x4<256))=true then(
idx x2 x4 >>= fun x5=>
idx x1 x5 >>= fun x6=>
idx x3 x4 >>= fun _x3137=>
setI x3 x4 x6 >>= fun x7=>
some (.inl (x7,w64 (x4+1))))
else(
some (.inr x3))
def F_154(N:Nat)(x1:Zb)(x2:Zc)(x3:Zc)(x4:Zc)(x5:Int)(x6:Zb)(x7:Zc):Option ((Int×Zb×Zc) ⊕ (Zb×Zc)):=
if(decide (x5<(x3.length:Int)))=true then(
idx x3 x5 >>= fun x8=>
idx x1 x8 >>= fun x9=>
((iterO N (fun s=>F_103 N x4 x9 s.1 s.2) (x9,0)):Option Zc) >>= fun x10=>
app x6 ([x10]) >>= fun x11=>
((idx x2 x8 >>= fun x12=>
app x7 ([x12]) >>= fun x13=>
some x13):Option Zc) >>= fun x14=>
some (.inl (w64 (x5+1),x11,x14)))
else(
some (.inr (x6,x7)))
def F_155(_N:Nat)(x1:Zc)(x2:Zc)(x3:Zc)(x4:Int):Option ((Zc×Int) ⊕ Zc):=
if(decide (x4<(x1.length:Int)))=true then(
idx x1 x4 >>= fun x5=>
((idx x2 x5 >>= fun x6=>
app x3 ([x6]) >>= fun x7=>
some x7):Option Zc) >>= fun x8=>
some (.inl (x8,w64 (x4+1))))
else(
some (.inr x3))
def F_9(N:Nat)(x1:Zb)(x2:Zc)(x3:Zc):Option (Zb×Zc×Zc):=
F_25 N x1 x2 x3 >>= fun x4=>
if(!x4)=true then(
some ([],[],[]))
else(
F_24 N x1 x2 x3 >>= fun x5=>
mk 0 (x1.length:Int) >>= fun x6=>
((iterO N (fun s=>F_153 N x5 s.1 s.2) (0,x6)):Option Zc) >>= fun x7=>
((iterO N (fun s=>F_154 N x1 x2 x5 x7 s.1 s.2.1 s.2.2) (0,[],[])):Option (Zb×Zc)) >>= fun(x8,x9)=>
((iterO N (fun s=>F_155 N x3 x7 s.1 s.2) ([],0)):Option Zc) >>= fun x10=>
some (x8,x9,x10))
def F_140(_N:Nat)(x1:Int)(x2:(List (Int×Int)))(x3:Int):Option (((List (Int×Int))×Int) ⊕ (List (Int×Int))):=
if(decide (x3<256))=true then(
app x2 ([(x1,IntKind.wrap .u8 x3)]) >>= fun x4=>
some (.inl (x4,w64 (x3+1))))
else(
some (.inr x2))
def F_41(N:Nat)(_x3:Zb)(_x6:Zc)(_x9:Zc)(_x13:(List Zb))(_x16:Zc)(_x21:Zb)(x1:(List (Int×Int)))(x2:Int):Option (List (Int×Int)):=
((iterO N (fun s=>F_140 N x2 s.1 s.2) (x1,0)):Option (List (Int×Int))) >>= fun x3=>
some x3
def F_138(_N:Nat)(x1:Int)(x2:Zc)(x3:(List Zb))(x4:Int):Option (((List Zb)×Int) ⊕ (List Zb)):=
if(decide (x4<256))=true then(
idx x2 x4 >>= fun x5=>
((idx x3 x5 >>= fun x6=>
idx x6 x4 >>= fun x7=>
idx x3 x5 >>= fun x8=>
app x7 ([x1]) >>= fun x9=>
setI x8 x4 x9 >>= fun x10=>
setI x3 x5 x10 >>= fun x11=>
some x11):Option (List Zb)) >>= fun x12=>
some (.inl (x12,w64 (x4+1))))
else(
some (.inr x3))
def F_89(N:Nat)(x1:Zb)(x2:Zc)(x3:(List Zb))(x4:Zc)(x5:Zb)(x6:(List (Int×Int)))(x7:Int):Option (((List Zb)×Zc×Zb×(List (Int×Int))×Int) ⊕ ((List Zb)×Zc×Zb)):=
if(decide (x7<(x1.length:Int)))=true then(
((idx x1 x7 >>= fun x8=>
((iterO N (fun s=>F_138 N x7 x8 s.1 s.2) (x3,0)):Option (List Zb)) >>= fun x9=>
idx x2 x7 >>= fun x10=>
((if(!((mget x6 x10).isSome))=true then(
idx x2 x7 >>= fun x11=>
app x5 ([[]]) >>= fun x12=>
some (x12,(mset x6 x11 (x5.length:Int)),(x5.length:Int)))
else(
some (x5,x6,(mget x6 x10).getD 0))):Option (Zb×(List (Int×Int))×Int)) >>= fun(x13,x14,x15)=>
idx x4 x7 >>= fun _x19294=>
setI x4 x7 x15 >>= fun x16=>
((idx x13 x15 >>= fun x17=>
app x17 ([x7]) >>= fun x18=>
setI x13 x15 x18 >>= fun x19=>
some x19):Option Zb) >>= fun x20=>
some (x9,x16,x20,x14)):Option ((List Zb)×Zc×Zb×(List (Int×Int)))) >>= fun(x21,x22,x23,x24)=>
some (.inl (x21,x22,x23,x24,w64 (x7+1))))
else(
some (.inr (x3,x4,x5)))
def F_139(N:Nat)(x1:Zb)(x2:Zc)(x3:Zc)(x4:(List Zb))(x5:Zc)(x6:Zb)(x7:(List (Int×Int)))(x8:Int):Option (((List (Int×Int))×Int) ⊕ (List (Int×Int))):=
if(decide (x8<(x6.length:Int)))=true then(
F_41 N x1 x2 x3 x4 x5 x6 x7 x8 >>= fun x9=>
some (.inl (x9,w64 (x8+1))))
else(
some (.inr x7))
def F_16(N:Nat)(x1:Zb)(x2:Zc)(x3:Zc)(_x13:(List Zb))(_x16:Zc)(x4:Zb)(x5:(List (Int×Int))):Option ((List Zb)×Zc×Zb×(List (Int×Int))):=
mk (List.replicate 256 []) (x1.length:Int) >>= fun x6=>
mk 0 (x1.length:Int) >>= fun x7=>
((iterO N (fun s=>F_89 N x1 x2 s.1 s.2.1 s.2.2.1 s.2.2.2.1 s.2.2.2.2) (x6,x7,x4,([]:List (Int×Int)),0)):Option ((List Zb)×Zc×Zb)) >>= fun(x8,x9,x10)=>
((iterO N (fun s=>F_139 N x1 x2 x3 x8 x9 x10 s.1 s.2) (x5,0)):Option (List (Int×Int))) >>= fun x11=>
some (x8,x9,x10,x11)
def F_191(_N:Nat)(x1:Zc)(x2:Int)(x3:Int):Option (Int ⊕ (Unit ⊕ Int)):=
if(decide (x3<(x1.length:Int)))=true then(
idx x1 x3 >>= fun x4=>
if(x2==x4)=true then(
some (.inr (.inr x3)))
else(
some (.inl (w64 (x3+1)))))
else(
some (.inr (.inl ())))
def F_67(N:Nat)(x1:Zc)(x2:Int):Option Int:=
((iterO N (fun s=>F_191 N x1 x2 s) 0):Option (Unit ⊕ Int)) >>= fun z=>match z with
| .inr z=>some z
| .inl _=>
some (-1)
def F_186(N:Nat)(x1:Zc)(x2:Int):Option Bool:=
F_67 N x1 x2 >>= fun x3=>
some (decide (x3≥0))
def F_70(N:Nat)(x1:Zc)(x2:Zc)(x3:Int)(x4:Zc)(x5:Zc):Option ((Int×Zc×Zc) ⊕ (Zc×Zc)):=
if(decide (x3<(x2.length:Int)))=true then(
((idx x2 x3 >>= fun x6=>
F_186 N x1 x6 >>= fun x7=>
((if x7=true then(
app x4 ([x6]) >>= fun x8=>
some (x8,x5))
else(
app x5 ([x6]) >>= fun x9=>
some (x4,x9))):Option (Zc×Zc)) >>= fun(x10,x11)=>
some (x10,x11)):Option (Zc×Zc)) >>= fun(x12,x13)=>
some (.inl (w64 (x3+1),x12,x13)))
else(
some (.inr (x4,x5)))
def F_90(_N:Nat)(x1:Zb)(x2:Zc)(x3:Zc)(x4:Int):Option ((Zc×Int) ⊕ Zc):=
if(decide (x4<(x2.length:Int)))=true then(
idx x2 x4 >>= fun x5=>
idx x3 x5 >>= fun _x1875=>
setI x3 x5 (x1.length:Int) >>= fun x6=>
some (.inl (x6,w64 (x4+1))))
else(
some (.inr x3))
def F_26(N:Nat)(x1:Zb)(x2:Zc)(x3:Zc)(x4:(List Zb))(x5:Zc)(x6:Zb)(x7:(List (Int×Int)))(x8:Int)(x9:Zc):Option (Zc×Zb×(List (Int×Int))):=
idx x6 x8 >>= fun x10=>
((iterO N (fun s=>F_70 N x9 x10 s.1 s.2.1 s.2.2) (0,[],[])):Option (Zc×Zc)) >>= fun(x11,x12)=>
((if((x11.length:Int)==0)=true then(
some true)
else(
some ((x12.length:Int)==0))):Option Bool) >>= fun x13=>
if x13=true then(
some (x5,x6,x7))
else(
((if(decide ((x11.length:Int)<(x12.length:Int)))=true then(
some (x12,x11))
else(
some (x11,x12))):Option (Zc×Zc)) >>= fun(x14,x15)=>
idx x6 x8 >>= fun _x1733=>
setI x6 x8 x14 >>= fun x16=>
app x16 ([x15]) >>= fun x17=>
((iterO N (fun s=>F_90 N x6 x15 s.1 s.2) (x5,0)):Option Zc) >>= fun x18=>
F_41 N x1 x2 x3 x4 x18 x17 x7 (x6.length:Int) >>= fun x19=>
some (x18,x17,x19))
def F_142(_N:Nat)(x1:(List Zb))(x2:Int)(x3:Zc)(x4:Zc)(x5:Int):Option ((Zc×Int) ⊕ Zc):=
if(decide (x5<(x3.length:Int)))=true then(
idx x3 x5 >>= fun x6=>
((idx x1 x6 >>= fun x7=>
idx x7 x2 >>= fun x8=>
app x4 x8 >>= fun x9=>
some x9):Option Zc) >>= fun x10=>
some (.inl (x10,w64 (x5+1))))
else(
some (.inr x4))
def F_143(N:Nat)(x1:Zc)(x2:Zc)(x3:Zc)(x4:Int):Option ((Zc×Int) ⊕ Zc):=
if(decide (x4<(x2.length:Int)))=true then(
((idx x2 x4 >>= fun x5=>
idx x1 x5 >>= fun x6=>
F_186 N x3 x6 >>= fun x7=>
((if(!x7)=true then(
app x3 ([x6]) >>= fun x8=>
some x8)
else(
some x3)):Option Zc) >>= fun x9=>
some x9):Option Zc) >>= fun x10=>
some (.inl (x10,w64 (x4+1))))
else(
some (.inr x3))
def F_144(N:Nat)(x1:Zb)(x2:Zc)(x3:Zc)(x4:(List Zb))(x5:Zc)(x6:Zc)(x7:Zc)(x8:Zb)(x9:(List (Int×Int)))(x10:Int):Option ((Zc×Zb×(List (Int×Int))×Int) ⊕ (Zc×Zb×(List (Int×Int)))):=
if(decide (x10<(x6.length:Int)))=true then(
idx x6 x10 >>= fun x11=>
F_26 N x1 x2 x3 x4 x7 x8 x9 x11 x5 >>= fun(x12,x13,x14)=>
some (.inl (x12,x13,x14,w64 (x10+1))))
else(
some (.inr (x7,x8,x9)))
def F_141(N:Nat)(x1:Zb)(x2:Zc)(x3:Zc)(x4:(List Zb))(x5:Zc)(x6:Zb)(x7:(List (Int×Int))):Option ((Zc×Zb×(List (Int×Int))) ⊕ (Zc×Zb×(List (Int×Int)))):=
if(decide ((x7.length:Int)>0))=true then(
((idx x7 (w64 ((x7.length:Int)-1)) >>= fun x8=>
some (x8.1,x8.2)):Option (Int×Int)) >>= fun(x9,x10)=>
((slc x7 0 (w64 ((x7.length:Int)-1)) >>= fun x11=>
some x11):Option (List (Int×Int))) >>= fun x12=>
idx x6 x9 >>= fun x13=>
((iterO N (fun s=>F_142 N x4 x10 x13 s.1 s.2) ([],0)):Option Zc) >>= fun x14=>
((iterO N (fun s=>F_143 N x5 x14 s.1 s.2) ([],0)):Option Zc) >>= fun x15=>
((iterO N (fun s=>F_144 N x1 x2 x3 x4 x14 x15 s.1 s.2.1 s.2.2.1 s.2.2.2) (x5,x6,x12,0)):Option (Zc×Zb×(List (Int×Int)))) >>= fun(x16,x17,x18)=>
some (.inl (x16,x17,x18)))
else(
some (.inr (x5,x6,x7)))
def F_10(N:Nat)(x1:Zb)(x2:Zc)(x3:Zc)(x4:(List Zb))(x5:Zc)(x6:Zb)(x7:(List (Int×Int))):Option (Zc×Zb×(List (Int×Int))):=
((iterO N (fun s=>F_141 N x1 x2 x3 x4 s.1 s.2.1 s.2.2) (x5,x6,x7)):Option (Zc×Zb×(List (Int×Int)))) >>= fun(x8,x9,x10)=>
some (x8,x9,x10)
def F_88(_N:Nat)(x1:Zc)(x2:Int)(x3:(List (Int×Int)))(x4:Zc):Option ((Int×(List (Int×Int))×Zc) ⊕ ((List (Int×Int))×Zc)):=
if(decide (x2<(x1.length:Int)))=true then(
((idx x1 x2 >>= fun x5=>
((if(!((mget x3 x5).isSome))=true then(
some (mset x3 x5 (x3.length:Int)))
else(
some x3)):Option (List (Int×Int))) >>= fun x6=>
app x4 ([(mget x6 x5).getD 0]) >>= fun x7=>
some (x6,x7)):Option ((List (Int×Int))×Zc)) >>= fun(x8,x9)=>
some (.inl (w64 (x2+1),x8,x9)))
else(
some (.inr (x3,x4)))
def F_40(N:Nat)(x1:Zb)(x2:Zc)(x3:Zc):Option (Zc×Int):=
F_16 N x1 x2 x3 ([]) ([]) ([]) ([]) >>= fun(x4,x5,x6,x7)=>
F_10 N x1 x2 x3 x4 x5 x6 x7 >>= fun(x8,_x415,_x416)=>
((iterO N (fun s=>F_88 N x8 s.1 s.2.1 s.2.2) (0,([]:List (Int×Int)),[])):Option ((List (Int×Int))×Zc)) >>= fun(x9,x10)=>
some (x10,(x9.length:Int))
def F_87(_N:Nat)(x1:Zc)(x2:Int)(x3:Zc)(x4:Int)(x5:Zb):Option ((Int×Zb) ⊕ Zb):=
if(decide (x4<256))=true then(
idx x3 x4 >>= fun x6=>
((idx x1 x6 >>= fun x7=>
idx x5 x2 >>= fun x8=>
idx x8 x4 >>= fun _x5098=>
setI x8 x4 x7 >>= fun x9=>
setI x5 x2 x9 >>= fun x10=>
some x10):Option Zb) >>= fun x11=>
some (.inl (w64 (x4+1),x11)))
else(
some (.inr x5))
def F_136(N:Nat)(x1:Zb)(x2:Zc)(x3:Zc)(x4:Int)(x5:Zb)(x6:Zc):Option ((Int×Zb×Zc) ⊕ (Zb×Zc)):=
if(decide (x4<(x3.length:Int)))=true then(
idx x3 x4 >>= fun x7=>
idx x1 x4 >>= fun x8=>
((iterO N (fun s=>F_87 N x3 x7 x8 s.1 s.2) (0,x5)):Option Zb) >>= fun x9=>
((idx x2 x4 >>= fun x10=>
idx x6 x7 >>= fun _x5135=>
setI x6 x7 x10 >>= fun x11=>
some x11):Option Zc) >>= fun x12=>
some (.inl (w64 (x4+1),x9,x12)))
else(
some (.inr (x5,x6)))
def F_137(_N:Nat)(x1:Zc)(x2:Zc)(x3:Zc)(x4:Int):Option ((Zc×Int) ⊕ Zc):=
if(decide (x4<(x1.length:Int)))=true then(
idx x1 x4 >>= fun x5=>
((idx x2 x5 >>= fun x6=>
app x3 ([x6]) >>= fun x7=>
some x7):Option Zc) >>= fun x8=>
some (.inl (x8,w64 (x4+1))))
else(
some (.inr x3))
def F_15(N:Nat)(x1:Zb)(x2:Zc)(x3:Zc):Option (Zb×Zc×Zc):=
F_25 N x1 x2 x3 >>= fun x4=>
if(!x4)=true then(
some ([],[],[]))
else(
F_40 N x1 x2 x3 >>= fun(x5,x6)=>
((mk (List.replicate 256 0) x6 >>= fun x7=>
mk 0 x6 >>= fun x8=>
some (x7,x8)):Option (Zb×Zc)) >>= fun(x9,x10)=>
((iterO N (fun s=>F_136 N x1 x2 x5 s.1 s.2.1 s.2.2) (0,x9,x10)):Option (Zb×Zc)) >>= fun(x11,x12)=>
((iterO N (fun s=>F_137 N x3 x5 s.1 s.2) ([],0)):Option Zc) >>= fun x13=>
some (x11,x12,x13))
def F_200(N:Nat)(x1:Zb)(x2:Zc)(x3:Zc):Option (Zb×Zc×Zc):=
F_9 N x1 x2 x3 >>= fun(x4,x5,x6)=>
F_15 N x4 x5 x6 >>= fun(x7,x8,x9)=>
some (x7,x8,x9)
def F_107(_N:Nat)(x1:Zc)(x2:Int)(x3:Zc):Option ((Int×Zc) ⊕ Zc):=
if(decide (x2<(x1.length:Int)))=true then(
idx x1 x2 >>= fun x4=>
idx x3 x4 >>= fun _x1912=>
setI x3 x4 x2 >>= fun x5=>
some (.inl (w64 (x2+1),x5)))
else(
some (.inr x3))
def F_73(_N:Nat)(x1:Zc)(x2:Zc)(x3:Zc)(x4:Int):Option ((Zc×Int) ⊕ Zc):=
if(decide (x4<256))=true then(
idx x2 x4 >>= fun x5=>
idx x1 x5 >>= fun x6=>
idx x3 x4 >>= fun _x3128=>
setI x3 x4 x6 >>= fun x7=>
some (.inl (x7,w64 (x4+1))))
else(
some (.inr x3))
def F_108(N:Nat)(x1:Zb)(x2:Zc)(x3:Zc)(x4:Zc)(x5:Zb)(x6:Zc)(x7:Int):Option ((Zb×Zc×Int) ⊕ (Zb×Zc)):=
if(decide (x7<(x3.length:Int)))=true then(
idx x3 x7 >>= fun x8=>
idx x1 x8 >>= fun x9=>
((iterO N (fun s=>F_73 N x4 x9 s.1 s.2) (x9,0)):Option Zc) >>= fun x10=>
app x5 ([x10]) >>= fun x11=>
((idx x2 x8 >>= fun x12=>
app x6 ([x12]) >>= fun x13=>
some x13):Option Zc) >>= fun x14=>
some (.inl (x11,x14,w64 (x7+1))))
else(
some (.inr (x5,x6)))
def F_109(_N:Nat)(x1:Zc)(x2:Zc)(x3:Zc)(x4:Int):Option ((Zc×Int) ⊕ Zc):=
if(decide (x4<(x1.length:Int)))=true then(
idx x1 x4 >>= fun x5=>
((idx x2 x5 >>= fun x6=>
app x3 ([x6]) >>= fun x7=>
some x7):Option Zc) >>= fun x8=>
some (.inl (x8,w64 (x4+1))))
else(
some (.inr x3))
def F_7(N:Nat)(x1:Zb)(x2:Zc)(x3:Zc):Option (Zb×Zc×Zc):=
F_69 N x1 x2 x3 >>= fun x4=>
mk 0 (x1.length:Int) >>= fun x5=>
((iterO N (fun s=>F_107 N x4 s.1 s.2) (0,x5)):Option Zc) >>= fun x6=>
((iterO N (fun s=>F_108 N x1 x2 x4 x6 s.1 s.2.1 s.2.2) ([],[],0)):Option (Zb×Zc)) >>= fun(x7,x8)=>
if((x4.length:Int)==0)=true then(
some (x7,x8,[]))
else(
((iterO N (fun s=>F_109 N x3 x6 s.1 s.2) ([],0)):Option Zc) >>= fun x9=>
some (x7,x8,x9))
noncomputable def F_211(N:Nat)(x1:Za)(x2:Zc):Option (Zb×Zc×Zc×Int):=
F_19 N x1 x2 >>= fun(x3,x4,x5,x6)=>
if(eOk errIds x6)=true then(
some ([],[],[],x6))
else(
F_200 N x3 x4 x5 >>= fun(x7,x8,x9)=>
F_7 N x7 x8 x9 >>= fun(x10,x11,x12)=>
some (x10,x11,x12,0))
def F_174(_N:Nat)(x1:Za)(x2:Zc)(x3:Int):Option (Int ⊕ (Unit ⊕ Bool)):=
if(decide (x3<(x2.length:Int)))=true then(
idx x2 x3 >>= fun x4=>
((if(decide (x4<0))=true then(
some true)
else(
some (decide (x4≥(x1.length:Int))))):Option Bool) >>= fun x5=>
if x5=true then(
some (.inr (.inr false)))
else(
some (.inl (w64 (x3+1)))))
else(
some (.inr (.inl ())))
def F_176(_N:Nat)(x1:Za)(x2:(Zc×Zd×Int×Int))(x3:Int):Option (Int ⊕ (Unit ⊕ (Int ⊕ (Unit ⊕ Bool)))):=
if(decide (x3<(x2.1.length:Int)))=true then(
idx x2.1 x3 >>= fun x4=>
((if(decide (x4<0))=true then(
some true)
else(
some (decide (x4≥(x1.length:Int))))):Option Bool) >>= fun x5=>
if x5=true then(
some (.inr (.inr (.inr (.inr false)))))
else(
some (.inl (w64 (x3+1)))))
else(
some (.inr (.inl ())))
def F_175(N:Nat)(x1:Za)(x2:Int):Option (Int ⊕ (Unit ⊕ Bool)):=
if(decide (x2<(x1.length:Int)))=true then(
idx x1 x2 >>= fun x3=>
((if(decide (x3.2.2.1<(-1)))=true then(
some true)
else(
if(decide (x3.2.2.1≥(x1.length:Int)))=true then(
some true)
else(
if(decide (x3.2.2.2<(-1)))=true then(
some true)
else(
if(decide (x3.2.2.2>47))=true then(
some true)
else(
if(x3.2.2.1==(-1))=true then(
some (([x3.2.1.1,x3.2.1.2.1,x3.2.1.2.2.1,x3.2.1.2.2.2]:List Int) != ([0,0,0,0]:List Int)))
else(
some false)))))):Option Bool) >>= fun x4=>
if x4=true then(
some (.inr (.inr false)))
else(
((iterO N (fun s=>F_176 N x1 x3 s) 0):Option (Unit ⊕ (Int ⊕ (Unit ⊕ Bool)))) >>= fun z=>match z with
| .inr z=>some z
| .inl _=>
some (.inl (w64 (x2+1)))))
else(
some (.inr (.inl ())))
def F_28(N:Nat)(x1:Za)(x2:Zc):Option Bool:=
((if(decide ((x1.length:Int)<1))=true then(
some true)
else(
if(decide ((x1.length:Int)>4000))=true then(
some true)
else(
if(decide ((x2.length:Int)<1))=true then(
some true)
else(
some (decide ((x2.length:Int)>8)))))):Option Bool) >>= fun x3=>
if x3=true then(
some false)
else(
((iterO N (fun s=>F_174 N x1 x2 s) 0):Option (Unit ⊕ Bool)) >>= fun z=>match z with
| .inr z=>some z
| .inl _=>
((iterO N (fun s=>F_175 N x1 s) 0):Option (Unit ⊕ Bool)) >>= fun z=>match z with
| .inr z=>some z
| .inl _=>
some true)
def F_117(_N:Nat)(x1:Int)(x2:(Zc×Zd×Int×Int))(x3:Int)(x4:Zf)(x5:Bool):Option ((Int×Zf×Bool) ⊕ (Zf×Bool)):=
if(decide (x3<(x2.1.length:Int)))=true then(
((idx x2.1 x3 >>= fun x6=>
((idx x4 x1 >>= fun x7=>
if x7=true then(
idx x4 x6 >>= fun x8=>
some (!x8))
else(
some false)):Option Bool) >>= fun x9=>
((if x9=true then(
idx x4 x6 >>= fun _x66506=>
setI x4 x6 true >>= fun x10=>
some (x10,true))
else(
some (x4,x5))):Option (Zf×Bool)) >>= fun(x11,x12)=>
some (x11,x12)):Option (Zf×Bool)) >>= fun(x13,x14)=>
some (.inl (w64 (x3+1),x13,x14)))
else(
some (.inr (x4,x5)))
def F_116(N:Nat)(x1:Za)(x2:Int)(x3:Zf)(x4:Bool):Option ((Int×Zf×Bool) ⊕ (Zf×Bool)):=
if(decide (x2<(x1.length:Int)))=true then(
idx x1 x2 >>= fun x5=>
((iterO N (fun s=>F_117 N x2 x5 s.1 s.2.1 s.2.2) (0,x3,x4)):Option (Zf×Bool)) >>= fun(x6,x7)=>
some (.inl (w64 (x2+1),x6,x7)))
else(
some (.inr (x3,x4)))
def F_164(N:Nat)(x1:Za)(x2:Zf)(x3:Bool):Option ((Zf×Bool) ⊕ Zf):=
if x3=true then(
((iterO N (fun s=>F_116 N x1 s.1 s.2.1 s.2.2) (0,x2,false)):Option (Zf×Bool)) >>= fun(x4,x5)=>
some (.inl (x4,x5)))
else(
some (.inr x2))
def F_17(N:Nat)(x1:Za)(_x5:Zc)(x2:Zf):Option Zf:=
app ([]) x2 >>= fun x3=>
((iterO N (fun s=>F_164 N x1 s.1 s.2) (x3,true)):Option Zf) >>= fun x4=>
some x4
def F_177(N:Nat)(x1:Za)(x2:Zc)(x3:Int):Option Zf:=
mk false (x1.length:Int) >>= fun x4=>
((if(decide (x3≥0))=true then(
some (decide (x3<(x2.length:Int))))
else(
some false)):Option Bool) >>= fun x5=>
((if x5=true then(
idx x2 x3 >>= fun x6=>
idx x4 x6 >>= fun _x107=>
setI x4 x6 true >>= fun x7=>
some x7)
else(
some x4)):Option Zf) >>= fun x8=>
F_17 N x1 x2 x8 >>= fun x9=>
some x9
def F_56(_N:Nat)(x1:Zf)(x2:Zf)(x3:Int):Option (Int ⊕ Bool):=
if(decide (x3<(x1.length:Int)))=true then(
idx x2 x3 >>= fun x4=>
idx x1 x3 >>= fun x5=>
if(x4 != x5)=true then(
some (.inr false))
else(
some (.inl (w64 (x3+1)))))
else(
some (.inr true))
def F_179(N:Nat)(x1:Ze)(x2:Zf)(x3:Int):Option (Int ⊕ (Unit ⊕ Int)):=
if(decide (x3<(x1.length:Int)))=true then(
idx x1 x3 >>= fun x4=>
((iterO N (fun s=>F_56 N x2 x4 s) 0):Option Bool) >>= fun x5=>
if x5=true then(
some (.inr (.inr x3)))
else(
some (.inl (w64 (x3+1)))))
else(
some (.inr (.inl ())))
def F_27(N:Nat)(x1:Ze)(x2:Zf):Option Int:=
((iterO N (fun s=>F_179 N x1 x2 s) 0):Option (Unit ⊕ Int)) >>= fun z=>match z with
| .inr z=>some z
| .inl _=>
some (x1.length:Int)
def F_119(_N:Nat)(x1:Za)(x2:Zf)(x3:Int)(x4:Int)(x5:Zf):Option ((Int×Zf) ⊕ Zf):=
if(decide (x4<(x1.length:Int)))=true then(
((idx x1 x4 >>= fun x6=>
((idx x2 x4 >>= fun x7=>
if x7=true then(
if(decide (x6.2.2.1≥0))=true then(
idx [x6.2.1.1,x6.2.1.2.1,x6.2.1.2.2.1,x6.2.1.2.2.2] (IntKind.wrap .u8 (x3.tdiv 64)) >>= fun x8=>
nn (x3.tmod 64) >>= fun _x2369=>
some (((shrI .u64 x8 (x3.tmod 64)).tmod 2)==1))
else(
some false))
else(
some false)):Option Bool) >>= fun x9=>
((if x9=true then(
idx x5 x6.2.2.1 >>= fun _x2386=>
setI x5 x6.2.2.1 true >>= fun x10=>
some x10)
else(
some x5)):Option Zf) >>= fun x11=>
some x11):Option Zf) >>= fun x12=>
some (.inl (w64 (x4+1),x12)))
else(
some (.inr x5))
def F_47(N:Nat)(x1:Za)(x2:Zc)(x3:Zf)(x4:Int):Option Zf:=
mk false (x1.length:Int) >>= fun x5=>
((iterO N (fun s=>F_119 N x1 x3 x4 s.1 s.2) (0,x5)):Option Zf) >>= fun x6=>
F_17 N x1 x2 x6 >>= fun x7=>
some x7
def F_118(_N:Nat)(x1:Za)(x2:Zf)(x3:Int)(x4:Int):Option ((Int×Int) ⊕ Int):=
if(decide (x3<(x1.length:Int)))=true then(
((idx x1 x3 >>= fun x5=>
((idx x2 x3 >>= fun x6=>
if x6=true then(
if(decide (x5.2.2.2≥0))=true then(
if(decide (x4<0))=true then(
some true)
else(
some (decide (x5.2.2.2<x4))))
else(
some false))
else(
some false)):Option Bool) >>= fun x7=>
((if x7=true then(
some x5.2.2.2)
else(
some x4)):Option Int) >>= fun x8=>
some x8):Option Int) >>= fun x9=>
some (.inl (w64 (x3+1),x9)))
else(
some (.inr x4))
def F_53(N:Nat)(x1:Za)(_x5:Zc)(x2:Zf):Option Int:=
((iterO N (fun s=>F_118 N x1 x2 s.1 s.2) (0,(-1))):Option Int) >>= fun x3=>
some x3
def F_120(N:Nat)(x1:Za)(x2:Zc)(x3:Int)(x4:Ze)(x5:Zc):Option ((Int×Ze×Zc) ⊕ (Ze×Zc)):=
if(decide (x3<(x2.length:Int)))=true then(
((F_177 N x1 x2 x3 >>= fun x6=>
F_27 N x4 x6 >>= fun x7=>
((if(x7==(x4.length:Int))=true then(
app x4 ([x6]) >>= fun x8=>
some x8)
else(
some x4)):Option Ze) >>= fun x9=>
app x5 ([x7]) >>= fun x10=>
some (x9,x10)):Option (Ze×Zc)) >>= fun(x11,x12)=>
some (.inl (w64 (x3+1),x11,x12)))
else(
some (.inr (x4,x5)))
def F_61(N:Nat)(x1:Za)(x2:Zc)(x3:Int)(x4:Zc)(x5:Int)(x6:Ze):Option ((Zc×Int×Ze) ⊕ ((Zc×Ze) ⊕ ((Ze×Zb×Zc×Int) ⊕ ((Zb×Zc) ⊕ (Zb×Zc×Zc×Int))))):=
if(decide (x5<256))=true then(
((idx x6 x3 >>= fun x7=>
F_47 N x1 x2 x7 (IntKind.wrap .u8 x5) >>= fun x8=>
F_27 N x6 x8 >>= fun x9=>
((if(x9==(x6.length:Int))=true then(
app x6 ([x8]) >>= fun x10=>
some x10)
else(
some x6)):Option Ze) >>= fun x11=>
idx x4 x5 >>= fun _x10619=>
setI x4 x5 x9 >>= fun x12=>
if(decide ((x11.length:Int)>200))=true then(
some (.inr (.inr (.inr (.inr (.inr ([],[],[],9)))))))
else(
some (.inl (x12,x11)))):Option ((Zc×Ze) ⊕ ((Zc×Int×Ze) ⊕ ((Zc×Ze) ⊕ ((Ze×Zb×Zc×Int) ⊕ ((Zb×Zc) ⊕ (Zb×Zc×Zc×Int))))))) >>= fun z=>match z with
| .inr z=>some z
| .inl (x13,x14)=>
some (.inl (x13,w64 (x5+1),x14)))
else(
some (.inr (.inl (x4,x6))))
def F_75(N:Nat)(x1:Za)(x2:Zc)(x3:Ze)(x4:Zb)(x5:Zc)(x6:Int):Option ((Ze×Zb×Zc×Int) ⊕ ((Zb×Zc) ⊕ (Zb×Zc×Zc×Int))):=
if(decide (x6<(x3.length:Int)))=true then(
((iterO N (fun s=>F_61 N x1 x2 x6 s.1 s.2.1 s.2.2) ((List.replicate 256 0),0,x3)):Option ((Zc×Ze) ⊕ ((Ze×Zb×Zc×Int) ⊕ ((Zb×Zc) ⊕ (Zb×Zc×Zc×Int))))) >>= fun z=>match z with
| .inr z=>some z
| .inl (x7,x8)=>
app x4 ([x7]) >>= fun x9=>
((idx x8 x6 >>= fun x10=>
F_53 N x1 x2 x10 >>= fun x11=>
app x5 ([x11]) >>= fun x12=>
some x12):Option Zc) >>= fun x13=>
some (.inl (x8,x9,x13,w64 (x6+1))))
else(
some (.inr (.inl (x4,x5))))
def F_11(N:Nat)(x1:Za)(x2:Zc):Option (Zb×Zc×Zc×Int):=
F_28 N x1 x2 >>= fun x3=>
if(!x3)=true then(
some ([],[],[],4))
else(
mk false (x1.length:Int) >>= fun x4=>
((iterO N (fun s=>F_120 N x1 x2 s.1 s.2.1 s.2.2) (0,[x4],[])):Option (Ze×Zc)) >>= fun(x5,x6)=>
((iterO N (fun s=>F_75 N x1 x2 s.1 s.2.1 s.2.2.1 s.2.2.2) (x5,[],[],0)):Option ((Zb×Zc) ⊕ (Zb×Zc×Zc×Int))) >>= fun z=>match z with
| .inr z=>some z
| .inl (x7,x8)=>
some (x7,x8,x6,0))
def F_123(_N:Nat)(x1:Zc)(x2:Int)(x3:Zf):Option ((Int×Zf) ⊕ Zf):=
if(decide (x2<(x1.length:Int)))=true then(
idx x1 x2 >>= fun x4=>
idx x3 x4 >>= fun _x18477=>
setI x3 x4 true >>= fun x5=>
some (.inl (w64 (x2+1),x5)))
else(
some (.inr x3))
def F_77(_N:Nat)(x1:Int)(x2:Zc)(x3:Zf)(x4:Int):Option ((Zf×Int) ⊕ Zf):=
if(decide (x4<256))=true then(
((idx x2 x4 >>= fun x5=>
idx x3 x1 >>= fun x6=>
((if x6=true then(
idx x3 x5 >>= fun _x36624=>
setI x3 x5 true >>= fun x7=>
some x7)
else(
some x3)):Option Zf) >>= fun x8=>
some x8):Option Zf) >>= fun x9=>
some (.inl (x9,w64 (x4+1))))
else(
some (.inr x3))
def F_125(N:Nat)(x1:Zb)(x2:Zf)(x3:Int):Option ((Zf×Int) ⊕ Zf):=
if(decide (x3<(x1.length:Int)))=true then(
idx x1 x3 >>= fun x4=>
((iterO N (fun s=>F_77 N x3 x4 s.1 s.2) (x2,0)):Option Zf) >>= fun x5=>
some (.inl (x5,w64 (x3+1))))
else(
some (.inr x2))
def F_124(N:Nat)(x1:Zb)(x2:Zf)(x3:Int):Option ((Zf×Int) ⊕ Zf):=
if(decide (x3<(x1.length:Int)))=true then(
((iterO N (fun s=>F_125 N x1 s.1 s.2) (x2,0)):Option Zf) >>= fun x4=>
some (.inl (x4,w64 (x3+1))))
else(
some (.inr x2))
def F_8(N:Nat)(x1:Zb)(_x5:Zc)(x2:Zc):Option Zf:=
mk false (x1.length:Int) >>= fun x3=>
idx x3 0 >>= fun _x18333=>
setI x3 0 true >>= fun x4=>
((iterO N (fun s=>F_123 N x2 s.1 s.2) (0,x4)):Option Zf) >>= fun x5=>
((iterO N (fun s=>F_124 N x1 s.1 s.2) (x5,0)):Option Zf) >>= fun x6=>
some x6
def F_76(_N:Nat)(x1:Int)(x2:Zc)(x3:Zf)(x4:Int):Option ((Zf×Int) ⊕ Zf):=
if(decide (x4<256))=true then(
idx x2 x4 >>= fun x5=>
((idx x3 x1 >>= fun x6=>
if x6=true then(
idx x3 x1 >>= fun _x43139=>
setI x3 x1 true >>= fun x7=>
some x7)
else(
idx x3 x5 >>= fun x8=>
idx x3 x1 >>= fun _x43157=>
setI x3 x1 x8 >>= fun x9=>
some x9)):Option Zf) >>= fun x10=>
some (.inl (x10,w64 (x4+1))))
else(
some (.inr x3))
def F_122(N:Nat)(x1:Zb)(x2:Zc)(x3:Int)(x4:Zf):Option ((Int×Zf) ⊕ Zf):=
if(decide (x3<(x1.length:Int)))=true then(
idx x1 x3 >>= fun x5=>
((idx x4 x3 >>= fun x6=>
if x6=true then(
idx x4 x3 >>= fun _x42635=>
setI x4 x3 true >>= fun x7=>
some x7)
else(
idx x2 x3 >>= fun x8=>
idx x4 x3 >>= fun _x42653=>
setI x4 x3 (decide (x8≥0)) >>= fun x9=>
some x9)):Option Zf) >>= fun x10=>
((iterO N (fun s=>F_76 N x3 x5 s.1 s.2) (x10,0)):Option Zf) >>= fun x11=>
some (.inl (w64 (x3+1),x11)))
else(
some (.inr x4))
def F_121(N:Nat)(x1:Zb)(x2:Zc)(x3:Int)(x4:Zf):Option ((Int×Zf) ⊕ Zf):=
if(decide (x3<(w64 ((x1.length:Int)+1))))=true then(
((iterO N (fun s=>F_122 N x1 x2 s.1 s.2) (0,x4)):Option Zf) >>= fun x5=>
some (.inl (w64 (x3+1),x5)))
else(
some (.inr x4))
def F_13(N:Nat)(x1:Zb)(x2:Zc)(_x8:Zc):Option Zf:=
mk false (x1.length:Int) >>= fun x3=>
((iterO N (fun s=>F_121 N x1 x2 s.1 s.2) (0,x3)):Option Zf) >>= fun x4=>
some x4
def F_78(_N:Nat)(x1:Zb)(x2:Zf)(x3:Zf)(x4:Zc)(x5:Int)(x6:Int):Option ((Zc×Int×Int) ⊕ Zc):=
if(decide (x6<(x1.length:Int)))=true then(
((((idx x2 x6 >>= fun x7=>
if x7=true then(
idx x3 x6 >>= fun x8=>
some x8)
else(
some false)):Option Bool) >>= fun x9=>
((if x9=true then(
idx x4 x6 >>= fun _x4550=>
setI x4 x6 x5 >>= fun x10=>
some (x10,w64 (x5+1)))
else(
some (x4,x5))):Option (Zc×Int)) >>= fun(x11,x12)=>
some (x11,x12)):Option (Zc×Int)) >>= fun(x13,x14)=>
some (.inl (x13,x14,w64 (x6+1))))
else(
some (.inr x4))
def F_80(_N:Nat)(x1:Zc)(x2:Zc)(x3:Zc)(x4:Int):Option ((Zc×Int) ⊕ Zc):=
if(decide (x4<256))=true then(
idx x2 x4 >>= fun x5=>
idx x1 x5 >>= fun x6=>
idx x3 x4 >>= fun _x7114=>
setI x3 x4 x6 >>= fun x7=>
some (.inl (x7,w64 (x4+1))))
else(
some (.inr x3))
def F_79(N:Nat)(x1:Zb)(x2:Zc)(x3:Zc)(x4:Int)(x5:Zb)(x6:Zc):Option ((Int×Zb×Zc) ⊕ (Zb×Zc)):=
if(decide (x4<(x1.length:Int)))=true then(
((idx x1 x4 >>= fun x7=>
((if(decide (x4>0))=true then(
idx x3 x4 >>= fun x8=>
some (x8==0))
else(
some false)):Option Bool) >>= fun x9=>
if x9=true then(
some (x5,x6))
else(
((iterO N (fun s=>F_80 N x3 x7 s.1 s.2) ((List.replicate 256 0),0)):Option Zc) >>= fun x10=>
app x5 ([x10]) >>= fun x11=>
((idx x2 x4 >>= fun x12=>
app x6 ([x12]) >>= fun x13=>
some x13):Option Zc) >>= fun x14=>
some (x11,x14))):Option (Zb×Zc)) >>= fun(x15,x16)=>
some (.inl (w64 (x4+1),x15,x16)))
else(
some (.inr (x5,x6)))
def F_126(_N:Nat)(x1:Zc)(x2:Zc)(x3:Zc)(x4:Int):Option ((Zc×Int) ⊕ Zc):=
if(decide (x4<(x1.length:Int)))=true then(
idx x1 x4 >>= fun x5=>
((idx x2 x5 >>= fun x6=>
app x3 ([x6]) >>= fun x7=>
some x7):Option Zc) >>= fun x8=>
some (.inl (x8,w64 (x4+1))))
else(
some (.inr x3))
def F_4(N:Nat)(x1:Zb)(x2:Zc)(x3:Zc):Option (Zb×Zc×Zc):=
F_8 N x1 x2 x3 >>= fun x4=>
F_13 N x1 x2 x3 >>= fun x5=>
mk 0 (x1.length:Int) >>= fun x6=>
((iterO N (fun s=>F_78 N x1 x4 x5 s.1 s.2.1 s.2.2) (x6,1,1)):Option Zc) >>= fun x7=>
((iterO N (fun s=>F_79 N x1 x2 x7 s.1 s.2.1 s.2.2) (0,[],[])):Option (Zb×Zc)) >>= fun(x8,x9)=>
((iterO N (fun s=>F_126 N x3 x7 s.1 s.2) ([],0)):Option Zc) >>= fun x10=>
some (x8,x9,x10)
def F_128(_N:Nat)(x1:Zb)(x2:Zc)(x3:Int)(x4:Zc)(x5:Int):Option ((Zc×Int) ⊕ Zc):=
if(decide (x5<(x1.length:Int)))=true then(
((idx x4 x5 >>= fun _x265146=>
setI x4 x5 (-1) >>= fun x6=>
idx x2 x3 >>= fun x7=>
idx x2 x5 >>= fun x8=>
((if(x7 != x8)=true then(
idx x6 x5 >>= fun _x265186=>
setI x6 x5 0 >>= fun x9=>
some x9)
else(
some x6)):Option Zc) >>= fun x10=>
some x10):Option Zc) >>= fun x11=>
some (.inl (x11,w64 (x5+1))))
else(
some (.inr x4))
def F_127(N:Nat)(x1:Zb)(x2:Zc)(x3:Zb)(x4:Int):Option ((Zb×Int) ⊕ Zb):=
if(decide (x4<(x1.length:Int)))=true then(
mk 0 (x1.length:Int) >>= fun x5=>
((iterO N (fun s=>F_128 N x1 x2 x4 s.1 s.2) (x5,0)):Option Zc) >>= fun x6=>
app x3 ([x6]) >>= fun x7=>
some (.inl (x7,w64 (x4+1))))
else(
some (.inr x3))
def F_81(_N:Nat)(x1:Zb)(x2:Int)(x3:Int)(x4:Int)(x5:Int)(x6:Zb)(x7:Bool):Option ((Int×Zb×Bool) ⊕ (Zb×Bool)):=
((if(decide (x5<256))=true then(
idx x6 x3 >>= fun x8=>
idx x8 x4 >>= fun x9=>
some (decide (x9<0)))
else(
some false)):Option Bool) >>= fun x10=>
if x10=true then(
((idx x1 x3 >>= fun x11=>
idx x11 x5 >>= fun x12=>
idx x6 x12 >>= fun x13=>
idx x1 x4 >>= fun x14=>
idx x14 x5 >>= fun x15=>
idx x13 x15 >>= fun x16=>
((if(x16==(w64 (x2-1)))=true then(
idx x6 x3 >>= fun x17=>
idx x17 x4 >>= fun _x521872=>
setI x17 x4 x2 >>= fun x18=>
setI x6 x3 x18 >>= fun x19=>
some (x19,true))
else(
some (x6,x7))):Option (Zb×Bool)) >>= fun(x20,x21)=>
some (x20,x21)):Option (Zb×Bool)) >>= fun(x22,x23)=>
some (.inl (w64 (x5+1),x22,x23)))
else(
some (.inr (x6,x7)))
def F_130(N:Nat)(x1:Zb)(x2:Int)(x3:Int)(x4:Int)(x5:Zb)(x6:Bool):Option ((Int×Zb×Bool) ⊕ (Zb×Bool)):=
if(decide (x4<(x1.length:Int)))=true then(
((iterO N (fun s=>F_81 N x1 x2 x3 x4 s.1 s.2.1 s.2.2) (0,x5,x6)):Option (Zb×Bool)) >>= fun(x7,x8)=>
some (.inl (w64 (x4+1),x7,x8)))
else(
some (.inr (x5,x6)))
def F_129(N:Nat)(x1:Zb)(x2:Int)(x3:Int)(x4:Zb)(x5:Bool):Option ((Int×Zb×Bool) ⊕ (Zb×Bool)):=
if(decide (x3<(x1.length:Int)))=true then(
((iterO N (fun s=>F_130 N x1 x2 x3 s.1 s.2.1 s.2.2) (0,x4,x5)):Option (Zb×Bool)) >>= fun(x6,x7)=>
some (.inl (w64 (x3+1),x6,x7)))
else(
some (.inr (x4,x5)))
def F_165(N:Nat)(x1:Zb)(x2:Zb)(x3:Int):Option ((Zb×Int) ⊕ Zb):=
((iterO N (fun s=>F_129 N x1 x3 s.1 s.2.1 s.2.2) (0,x2,false)):Option (Zb×Bool)) >>= fun(x4,x5)=>
if(!x5)=true then(
some (.inr x4))
else(
some (.inl (x4,w64 (x3+1))))
def F_1(N:Nat)(x1:Zb)(x2:Zc)(_x8:Zc):Option Zb:=
((iterO N (fun s=>F_127 N x1 x2 s.1 s.2) ([],0)):Option Zb) >>= fun x3=>
iterO N (fun s=>F_165 N x1 s.1 s.2) (x3,1)
def F_85(_N:Nat)(x1:Zb)(x2:Int)(x3:Zc)(x4:Int)(x5:Int):Option ((Int×Int) ⊕ Int):=
((if(decide (x5<x2))=true then(
some (decide (x4<0)))
else(
some false)):Option Bool) >>= fun x6=>
if x6=true then(
((idx x1 x2 >>= fun x7=>
idx x7 x5 >>= fun x8=>
((if(decide (x8<0))=true then(
idx x3 x5 >>= fun x9=>
some x9)
else(
some x4)):Option Int) >>= fun x10=>
some x10):Option Int) >>= fun x11=>
some (.inl (x11,w64 (x5+1))))
else(
some (.inr x4))
def F_84(N:Nat)(x1:Zb)(x2:Zb)(x3:Int)(x4:Zc)(x5:Int):Option ((Int×Zc×Int) ⊕ Zc):=
if(decide (x3<(x1.length:Int)))=true then(
((((iterO N (fun s=>F_85 N x2 x3 x4 s.1 s.2) ((-1),0)):Option Int) >>= fun x6=>
((if(decide (x6<0))=true then(
some (w64 (x5+1),x5))
else(
some (x5,x6))):Option (Int×Int)) >>= fun(x7,x8)=>
app x4 ([x8]) >>= fun x9=>
some (x9,x7)):Option (Zc×Int)) >>= fun(x10,x11)=>
some (.inl (w64 (x3+1),x10,x11)))
else(
some (.inr x4))
def F_29(N:Nat)(x1:Zb)(x2:Zc)(x3:Zc):Option Zc:=
F_1 N x1 x2 x3 >>= fun x4=>
((iterO N (fun s=>F_84 N x1 x4 s.1 s.2.1 s.2.2) (0,[],0)):Option Zc) >>= fun x5=>
some x5
def F_83(_N:Nat)(x1:Zc)(x2:Zc)(x3:Int)(x4:Zc):Option ((Int×Zc) ⊕ Zc):=
if(decide (x3<256))=true then(
idx x2 x3 >>= fun x5=>
idx x1 x5 >>= fun x6=>
idx x4 x3 >>= fun _x5327=>
setI x4 x3 x6 >>= fun x7=>
some (.inl (w64 (x3+1),x7)))
else(
some (.inr x4))
def F_82(N:Nat)(x1:Zb)(x2:Zc)(x3:Zc)(x4:Int)(x5:Zb)(x6:Zc):Option ((Int×Zb×Zc) ⊕ (Zb×Zc)):=
if(decide (x4<(x3.length:Int)))=true then(
((idx x3 x4 >>= fun x7=>
if(decide (x7<(x5.length:Int)))=true then(
some (x5,x6))
else(
idx x1 x4 >>= fun x8=>
((iterO N (fun s=>F_83 N x3 x8 s.1 s.2) (0,(List.replicate 256 0))):Option Zc) >>= fun x9=>
app x5 ([x9]) >>= fun x10=>
((idx x2 x4 >>= fun x11=>
app x6 ([x11]) >>= fun x12=>
some x12):Option Zc) >>= fun x13=>
some (x10,x13))):Option (Zb×Zc)) >>= fun(x14,x15)=>
some (.inl (w64 (x4+1),x14,x15)))
else(
some (.inr (x5,x6)))
def F_131(_N:Nat)(x1:Zc)(x2:Zc)(x3:Zc)(x4:Int):Option ((Zc×Int) ⊕ Zc):=
if(decide (x4<(x1.length:Int)))=true then(
idx x1 x4 >>= fun x5=>
((idx x2 x5 >>= fun x6=>
app x3 ([x6]) >>= fun x7=>
some x7):Option Zc) >>= fun x8=>
some (.inl (x8,w64 (x4+1))))
else(
some (.inr x3))
def F_12(N:Nat)(x1:Zb)(x2:Zc)(x3:Zc):Option (Zb×Zc×Zc):=
F_29 N x1 x2 x3 >>= fun x4=>
((iterO N (fun s=>F_82 N x1 x2 x4 s.1 s.2.1 s.2.2) (0,[],[])):Option (Zb×Zc)) >>= fun(x5,x6)=>
((iterO N (fun s=>F_131 N x3 x4 s.1 s.2) ([],0)):Option Zc) >>= fun x7=>
some (x5,x6,x7)
def F_172(_N:Nat)(x1:Zc)(x2:Int)(x3:Int):Option (Int ⊕ (Unit ⊕ Bool)):=
if(decide (x3<(x1.length:Int)))=true then(
idx x1 x3 >>= fun x4=>
if(x4==x2)=true then(
some (.inr (.inr true)))
else(
some (.inl (w64 (x3+1)))))
else(
some (.inr (.inl ())))
def F_54(N:Nat)(x1:Zc)(x2:Int):Option Bool:=
((iterO N (fun s=>F_172 N x1 x2 s) 0):Option (Unit ⊕ Bool)) >>= fun z=>match z with
| .inr z=>some z
| .inl _=>
some false
def F_134(N:Nat)(x1:Zc)(x2:Int)(x3:Zc):Option ((Int×Zc) ⊕ Zc):=
if(decide (x2<(x1.length:Int)))=true then(
((idx x1 x2 >>= fun x4=>
F_54 N x3 x4 >>= fun x5=>
((if(!x5)=true then(
app x3 ([x4]) >>= fun x6=>
some x6)
else(
some x3)):Option Zc) >>= fun x7=>
some x7):Option Zc) >>= fun x8=>
some (.inl (w64 (x2+1),x8)))
else(
some (.inr x3))
def F_135(N:Nat)(x1:Zb)(x2:Int)(x3:Zc)(x4:Int):Option ((Zc×Int) ⊕ Zc):=
if(decide (x4<256))=true then(
((idx x3 x2 >>= fun x5=>
idx x1 x5 >>= fun x6=>
idx x6 x4 >>= fun x7=>
F_54 N x3 x7 >>= fun x8=>
((if(!x8)=true then(
app x3 ([x7]) >>= fun x9=>
some x9)
else(
some x3)):Option Zc) >>= fun x10=>
some x10):Option Zc) >>= fun x11=>
some (.inl (x11,w64 (x4+1))))
else(
some (.inr x3))
def F_166(N:Nat)(x1:Zb)(x2:Zc)(x3:Int):Option ((Zc×Int) ⊕ Zc):=
if(decide (x3<(x2.length:Int)))=true then(
((iterO N (fun s=>F_135 N x1 x3 s.1 s.2) (x2,0)):Option Zc) >>= fun x4=>
some (.inl (x4,w64 (x3+1))))
else(
some (.inr x2))
def F_20(N:Nat)(x1:Zb)(_x5:Zc)(x2:Zc):Option Zc:=
((iterO N (fun s=>F_134 N x2 s.1 s.2) (0,[0])):Option Zc) >>= fun x3=>
((iterO N (fun s=>F_166 N x1 s.1 s.2) (x3,1)):Option Zc) >>= fun x4=>
some x4
def F_180(_N:Nat)(x1:Zc)(x2:Int)(x3:Int):Option (Int ⊕ (Unit ⊕ Int)):=
if(decide (x3<(x1.length:Int)))=true then(
idx x1 x3 >>= fun x4=>
if(x4==x2)=true then(
some (.inr (.inr x3)))
else(
some (.inl (w64 (x3+1)))))
else(
some (.inr (.inl ())))
def F_57(N:Nat)(x1:Zc)(x2:Int):Option Int:=
((iterO N (fun s=>F_180 N x1 x2 s) 0):Option (Unit ⊕ Int)) >>= fun z=>match z with
| .inr z=>some z
| .inl _=>
some 0
def F_86(N:Nat)(x1:Zb)(x2:Zc)(x3:Int)(x4:Zc)(x5:Int):Option ((Zc×Int) ⊕ Zc):=
if(decide (x5<256))=true then(
idx x1 x3 >>= fun x6=>
idx x6 x5 >>= fun x7=>
F_57 N x2 x7 >>= fun x8=>
idx x4 x5 >>= fun _x3288=>
setI x4 x5 x8 >>= fun x9=>
some (.inl (x9,w64 (x5+1))))
else(
some (.inr x4))
def F_132(N:Nat)(x1:Zb)(x2:Zc)(x3:Zc)(x4:Int)(x5:Zb)(x6:Zc):Option ((Int×Zb×Zc) ⊕ (Zb×Zc)):=
if(decide (x4<(x3.length:Int)))=true then(
idx x3 x4 >>= fun x7=>
((iterO N (fun s=>F_86 N x1 x3 x7 s.1 s.2) ((List.replicate 256 0),0)):Option Zc) >>= fun x8=>
app x5 ([x8]) >>= fun x9=>
((idx x2 x7 >>= fun x10=>
app x6 ([x10]) >>= fun x11=>
some x11):Option Zc) >>= fun x12=>
some (.inl (w64 (x4+1),x9,x12)))
else(
some (.inr (x5,x6)))
def F_133(N:Nat)(x1:Zc)(x2:Zc)(x3:Zc)(x4:Int):Option ((Zc×Int) ⊕ Zc):=
if(decide (x4<(x1.length:Int)))=true then(
idx x1 x4 >>= fun x5=>
((F_57 N x2 x5 >>= fun x6=>
app x3 ([x6]) >>= fun x7=>
some x7):Option Zc) >>= fun x8=>
some (.inl (x8,w64 (x4+1))))
else(
some (.inr x3))
def F_14(N:Nat)(x1:Zb)(x2:Zc)(x3:Zc):Option (Zb×Zc×Zc):=
F_20 N x1 x2 x3 >>= fun x4=>
((iterO N (fun s=>F_132 N x1 x2 x4 s.1 s.2.1 s.2.2) (0,[],[])):Option (Zb×Zc)) >>= fun(x5,x6)=>
((iterO N (fun s=>F_133 N x3 x4 s.1 s.2) ([],0)):Option Zc) >>= fun x7=>
some (x5,x6,x7)
def F_213(N:Nat)(x1:Za)(x2:Zc):Option (Zb×Zc×Zc×Int):=
F_11 N x1 x2 >>= fun(x3,x4,x5,x6)=>
if(x6 != 0)=true then(
some (x3,x4,x5,x6))
else(
F_4 N x3 x4 x5 >>= fun(x7,x8,x9)=>
F_12 N x7 x8 x9 >>= fun(x10,x11,x12)=>
F_14 N x10 x11 x12 >>= fun(x13,x14,x15)=>
some (x13,x14,x15,0))
def F_115(_N:Nat)(x1:Int)(x2:Int):Option (Int ⊕ (Unit ⊕ Int)):=
if(decide (x2<(([1,2,3,4,5,6,7,8,9,10,11,12,13,14,15,16,17,18]).length:Int)))=true then(
idx ([1,2,3,4,5,6,7,8,9,10,11,12,13,14,15,16,17,18]) x2 >>= fun x3=>
isO errIds x1 x3 >>= fun x4=>
if x4=true then(
some (.inr (.inr (w64 (x2+1)))))
else(
some (.inl (w64 (x2+1)))))
else(
some (.inr (.inl ())))
def F_35(N:Nat)(x1:Int):Option Int:=
if(!(eOk errIds x1))=true then(
some 0)
else(
((iterO N (fun s=>F_115 N x1 s) 0):Option (Unit ⊕ Int)) >>= fun z=>match z with
| .inr z=>some z
| .inl _=>
some (-1))
def F_113(_N:Nat)(x1:Zb)(x2:Int)(x3:Zb):Option ((Int×Zb) ⊕ Zb):=
if(decide (x2<(x1.length:Int)))=true then(
idx x1 x2 >>= fun x4=>
app x3 ([x4]) >>= fun x5=>
some (.inl (w64 (x2+1),x5)))
else(
some (.inr x3))
def F_51(N:Nat)(x1:Zb)(x2:Zc)(x3:Zc)(x4:Int):Option (Zb×Bool):=
((if(decide ((x1.length:Int)>x4))=true then(
some true)
else(
if(decide ((x2.length:Int)>x4))=true then(
some true)
else(
some (decide ((x3.length:Int)>20))))):Option Bool) >>= fun x5=>
if x5=true then(
some ([],false))
else(
((iterO N (fun s=>F_113 N x1 s.1 s.2) (0,[])):Option Zb) >>= fun x6=>
some (x6,true))
def F_178(_N:Nat)(x1:Zb)(x2:Zb)(x3:Int):Option (Int ⊕ (Unit ⊕ Bool)):=
if(decide (x3<(x1.length:Int)))=true then(
idx x1 x3 >>= fun x4=>
idx x2 x3 >>= fun x5=>
if(x4 != x5)=true then(
some (.inr (.inr false)))
else(
some (.inl (w64 (x3+1)))))
else(
some (.inr (.inl ())))
def F_55(N:Nat)(x1:Zb)(x2:Zc)(x3:Zc)(x4:Zb)(x5:Zc)(x6:Zc):Option Bool:=
((if((x1.length:Int) != (x4.length:Int))=true then(
some true)
else(
F_52 N x2 x5 >>= fun x7=>
if(!x7)=true then(
some true)
else(
F_52 N x3 x6 >>= fun x8=>
some (!x8)))):Option Bool) >>= fun x9=>
if x9=true then(
some false)
else(
((iterO N (fun s=>F_178 N x1 x4 s) 0):Option (Unit ⊕ Bool)) >>= fun z=>match z with
| .inr z=>some z
| .inl _=>
some true)
def F_199(N:Nat)(x1:Int)(x2:Int):Option Bool:=
((F_112 N x1 >>= fun _=>
if(x1 != x1)=true then(
F_112 N x2 >>= fun _=>
if(!(x2 != x2))=true then(
some true)
else(
some (decide (x1<x2))))
else(
some (decide (x1<x2)))):Option Bool) >>= fun x3=>
some x3
def F_101(N:Nat)(x1:Zc)(x2:Int):Option (Int ⊕ (Unit ⊕ Bool)):=
if(decide (x2>0))=true then(
idx x1 x2 >>= fun x3=>
idx x1 (w64 (x2-1)) >>= fun x4=>
F_199 N x3 x4 >>= fun x5=>
if x5=true then(
some (.inr (.inr false)))
else(
some (.inl (w64 (x2-1)))))
else(
some (.inr (.inl ())))
def F_49(N:Nat)(x1:Zc):Option Bool:=
((iterO N (fun s=>F_101 N x1 s) (w64 ((x1.length:Int)-1))):Option (Unit ⊕ Bool)) >>= fun z=>match z with
| .inr z=>some z
| .inl _=>
some true
def F_163(N:Nat)(x1:Zb)(x2:Zc)(x3:Zc):Option Bool:=
F_69 N x1 x2 x3 >>= fun x4=>
((if(decide ((x4.length:Int)>0))=true then(
if((x4.length:Int)==(x1.length:Int))=true then(
F_49 N x4 >>= fun x5=>
some x5)
else(
some false))
else(
some false)):Option Bool) >>= fun x6=>
some x6
def F_206(N:Nat)(x1:Zb)(x2:Zc)(x3:Zc):Option Bool:=
((F_25 N x1 x2 x3 >>= fun x4=>
if x4=true then(
F_24 N x1 x2 x3 >>= fun x5=>
some ((x5.length:Int)==(x1.length:Int)))
else(
some false)):Option Bool) >>= fun x6=>
some x6
def F_167(N:Nat)(x1:Zb)(x2:Zc)(x3:Zc):Option Bool:=
F_206 N x1 x2 x3 >>= fun x4=>
if(!x4)=true then(
some false)
else(
F_40 N x1 x2 x3 >>= fun(_x35,x5)=>
some (x5==(x1.length:Int)))
noncomputable def F_114(N:Nat)(x1:Za)(x2:Zc):Option Bool:=
F_74 N >>= fun x3=>
if(!x3)=true then(
some false)
else(
F_60 N x1 x2 6 >>= fun(x4,x5)=>
if(!x5)=true then(
some true)
else(
F_211 N x1 x2 >>= fun(x6,x7,x8,x9)=>
F_213 N x4 x2 >>= fun(x10,x11,x12,x13)=>
F_35 N x9 >>= fun x14=>
if(x14 != x13)=true then(
some false)
else(
F_51 N x6 x7 x8 200 >>= fun(x15,_x195)=>
((if(x13 != 0)=true then(
if((x6.length:Int)==0)=true then(
some true)
else(
if(x13==0)=true then(
F_55 N x15 x7 x8 x10 x11 x12 >>= fun x16=>
if x16=true then(
F_163 N x6 x7 x8 >>= fun x17=>
if x17=true then(
F_167 N x6 x7 x8 >>= fun x18=>
some x18)
else(
some false))
else(
some false))
else(
some false)))
else(
if(x13==0)=true then(
F_55 N x15 x7 x8 x10 x11 x12 >>= fun x19=>
if x19=true then(
F_163 N x6 x7 x8 >>= fun x20=>
if x20=true then(
F_167 N x6 x7 x8 >>= fun x21=>
some x21)
else(
some false))
else(
some false))
else(
some false))):Option Bool) >>= fun x22=>
some x22)))
end Go.Proofs.YtchjfkdljnmmgaaGreatDoor
namespace Go.Proofs.YtchjfkdljnmmgaaGreatDoor
open Go Go.Eng
set_option maxRecDepth 100000
def F_209(N:Nat)(x1:Za)(x2:Zc)(x3:Int)(x4:Int)(x5:Int):Option ((Int×Int) ⊕ Int):=
((if(decide (x5≥0))=true then(
some (decide (x5<(x1.length:Int))))
else(
some false)):Option Bool) >>= fun x6=>
if x6=true then(
((idx x1 x5 >>= fun x7=>
((if(x7.2.2.2 != (-1))=true then(
if(x4==(-1))=true then(
some true)
else(
some (decide (x7.2.2.2<x4))))
else(
some false)):Option Bool) >>= fun x8=>
((if x8=true then(
some x7.2.2.2)
else(
some x4)):Option Int) >>= fun x9=>
some x9):Option Int) >>= fun x10=>
F_5 N x2 x3 x5 >>= fun x11=>
some (.inl (x10,x11)))
else(
some (.inr x4))
def F_161(N:Nat)(x1:Za)(_x5:Zc)(x2:Zc)(x3:Int):Option Int:=
F_5 N x2 x3 (-1) >>= fun x4=>
((iterO N (fun s=>F_209 N x1 x2 x3 s.1 s.2) ((-1),x4)):Option Int) >>= fun x5=>
some x5
def F_210(N:Nat)(x1:Za)(x2:Zc)(x3:Int)(x4:Int)(x5:Zc)(x6:Int):Option ((Zc×Int) ⊕ Zc):=
((if(decide (x6≥0))=true then(
some (decide (x6<(x1.length:Int))))
else(
some false)):Option Bool) >>= fun x7=>
if x7=true then(
((idx x1 x6 >>= fun x8=>
F_183 N x8.2.1.1 x8.2.1.2.1 x8.2.1.2.2.1 x8.2.1.2.2.2 x4 >>= fun x9=>
((if x9=true then(
app x5 ([x8.2.2.1]) >>= fun x10=>
some x10)
else(
some x5)):Option Zc) >>= fun x11=>
some x11):Option Zc) >>= fun x12=>
F_5 N x2 x3 x6 >>= fun x13=>
some (.inl (x12,x13)))
else(
some (.inr x5))
def F_162(N:Nat)(x1:Za)(x2:Zc)(x3:Zc)(x4:Int)(x5:Int):Option Zc:=
F_5 N x3 x4 (-1) >>= fun x6=>
((iterO N (fun s=>F_210 N x1 x3 x4 x5 s.1 s.2) ([],x6)):Option Zc) >>= fun x7=>
F_45 N x1 x2 x7 >>= fun(_x1950,x8)=>
some x8
abbrev eV(gV:Nat→Value)(x:Int):Value:=errV errIds gV x
abbrev GE(ρ:View)(gV:Nat→Value):Prop:=GErrs ρ 373 errIds gV
abbrev GT(ρ:View):Prop:=GTab ρ 18 .u8 tab_math_bits_deBruijn64tab
end Go.Proofs.YtchjfkdljnmmgaaGreatDoor
