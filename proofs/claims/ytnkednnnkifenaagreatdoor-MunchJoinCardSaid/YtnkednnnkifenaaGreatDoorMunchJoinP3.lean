import Derived.Test.YtnkednnnkifenaaGreatDoorMunchJoinP2
namespace Go.Eng
open Go
def Ord.tk(a:Nat):Nat→Ord→Ord
 |0,o=>o
 |n+1,o=> .take a (tk (a+1) n o)
end Go.Eng
namespace Go.Dn
open Go Go.Eng
abbrev SI.w (t s n:Nat):SI:=.v t false [.p (.s s n)]
abbrev SI.x (t:Nat):SI:=.w t t 0
abbrev SI.y (t s n k:Nat):SI:=.v t false [.q (.s s n) k]
abbrev CP.li:CP:=.leaf (.int .i64)
abbrev CP.lu:CP:=.leaf (.int .u64)
abbrev SC.fi:SC:=.lf (.int .i64)
abbrev SC.fu:SC:=.lf (.int .u64)
abbrev CP.sf(n:Nat):CP:=.same (.lf n)
abbrev SC.ph(k n:Nat):SC:=.p (.b (.h k) n)
abbrev SC.ps(s n k:Nat):SC:=.p (.b (.s s n) k)
abbrev SI.kh(k:Nat)(l:List SC):SI:=.kb (.h k) l
abbrev SC.ku:SC:=.k (.int .u64 0)
abbrev SC.ki:SC:=.k (.int .i64 0)
abbrev SI.zn:List SC:=[.ki,.ku,.ku,.ku,.ku,.k (.slice none 0 0),.ki,.ki,.k (.string ByteArray.empty)]
abbrev SI.zf:List SC:=[.k (.bool false),.k (.bool false),.ki,.ki,.ki,.ku,.ku,.ku,.ku,.ku,.ku,.ku,.ku,.ku,.ku,.ku,.ku]
abbrev CP.lb:CP:=.leaf (.int .u8)
abbrev CP.lo:CP:=.leaf .bool
abbrev CP.lt:CP:=.leaf .str
abbrev CP.le:CP:=.leaf .err
abbrev SC.fo:SC:=.lf .bool
abbrev JI.zn:List CP:=[.li,.lu,.lu,.lu,.lu,.sl .nd,.li,.li,.lt]
abbrev SI.vf(t:Nat)(l:List SC):SI:=.v t false l
abbrev JI.vf(t:Nat)(l:List CP):JI:=.v t false l
abbrev Pl.bb:Pl:=.b .e .e
abbrev Pl.ro:Pl:=.r (.take 0 (.bar 1 (some 13) (.tk 2 11 (.bar 13 none (.tk 14 3 .done))))) (some 1) [[],[],[]] .bb
abbrev nt:TypeId→Option Tc:=fun _=>none
end Go.Dn
namespace Go.Proofs.YtnkednnnkifenaaGreatDoor
open Go Go.Eng Go.Dn
set_option maxRecDepth 100000
abbrev Ck (ge:Nat→Value)(f:FuncId)(s:Sig)(G:(tupT s.tin).den→Option (tupT s.tout).den):=Con (am ge) Tryz.prog f s G
abbrev u2{α0 α1 γ:Type}(f:α0→α1→γ)(x:α0×α1):γ:=f x.1 x.2
abbrev u3{α0 α1 α2 γ:Type}(f:α0→α1→α2→γ)(x:α0×α1×α2):γ:=f x.1 x.2.1 x.2.2
abbrev u4{α0 α1 α2 α3 γ:Type}(f:α0→α1→α2→α3→γ)(x:α0×α1×α2×α3):γ:=f x.1 x.2.1 x.2.2.1 x.2.2.2
abbrev u5{α0 α1 α2 α3 α4 γ:Type}(f:α0→α1→α2→α3→α4→γ)(x:α0×α1×α2×α3×α4):γ:=f x.1 x.2.1 x.2.2.1 x.2.2.2.1 x.2.2.2.2
abbrev u6{α0 α1 α2 α3 α4 α5 γ:Type}(f:α0→α1→α2→α3→α4→α5→γ)(x:α0×α1×α2×α3×α4×α5):γ:=f x.1 x.2.1 x.2.2.1 x.2.2.2.1 x.2.2.2.2.1 x.2.2.2.2.2
abbrev u8{α0 α1 α2 α3 α4 α5 α6 α7 γ:Type}(f:α0→α1→α2→α3→α4→α5→α6→α7→γ)(x:α0×α1×α2×α3×α4×α5×α6×α7):γ:=f x.1 x.2.1 x.2.2.1 x.2.2.2.1 x.2.2.2.2.1 x.2.2.2.2.2.1 x.2.2.2.2.2.2.1 x.2.2.2.2.2.2.2
abbrev u9{α0 α1 α2 α3 α4 α5 α6 α7 α8 γ:Type}(f:α0→α1→α2→α3→α4→α5→α6→α7→α8→γ)(x:α0×α1×α2×α3×α4×α5×α6×α7×α8):γ:=f x.1 x.2.1 x.2.2.1 x.2.2.2.1 x.2.2.2.2.1 x.2.2.2.2.2.1 x.2.2.2.2.2.2.1 x.2.2.2.2.2.2.2.1 x.2.2.2.2.2.2.2.2
abbrev u11{α0 α1 α2 α3 α4 α5 α6 α7 α8 α9 α10 γ:Type}(f:α0→α1→α2→α3→α4→α5→α6→α7→α8→α9→α10→γ)(x:α0×α1×α2×α3×α4×α5×α6×α7×α8×α9×α10):γ:=f x.1 x.2.1 x.2.2.1 x.2.2.2.1 x.2.2.2.2.1 x.2.2.2.2.2.1 x.2.2.2.2.2.2.1 x.2.2.2.2.2.2.2.1 x.2.2.2.2.2.2.2.2.1 x.2.2.2.2.2.2.2.2.2.1 x.2.2.2.2.2.2.2.2.2.2
abbrev u12{α0 α1 α2 α3 α4 α5 α6 α7 α8 α9 α10 α11 γ:Type}(f:α0→α1→α2→α3→α4→α5→α6→α7→α8→α9→α10→α11→γ)(x:α0×α1×α2×α3×α4×α5×α6×α7×α8×α9×α10×α11):γ:=f x.1 x.2.1 x.2.2.1 x.2.2.2.1 x.2.2.2.2.1 x.2.2.2.2.2.1 x.2.2.2.2.2.2.1 x.2.2.2.2.2.2.2.1 x.2.2.2.2.2.2.2.2.1 x.2.2.2.2.2.2.2.2.2.1 x.2.2.2.2.2.2.2.2.2.2.1 x.2.2.2.2.2.2.2.2.2.2.2
abbrev u15{α0 α1 α2 α3 α4 α5 α6 α7 α8 α9 α10 α11 α12 α13 α14 γ:Type}(f:α0→α1→α2→α3→α4→α5→α6→α7→α8→α9→α10→α11→α12→α13→α14→γ)(x:α0×α1×α2×α3×α4×α5×α6×α7×α8×α9×α10×α11×α12×α13×α14):γ:=f x.1 x.2.1 x.2.2.1 x.2.2.2.1 x.2.2.2.2.1 x.2.2.2.2.2.1 x.2.2.2.2.2.2.1 x.2.2.2.2.2.2.2.1 x.2.2.2.2.2.2.2.2.1 x.2.2.2.2.2.2.2.2.2.1 x.2.2.2.2.2.2.2.2.2.2.1 x.2.2.2.2.2.2.2.2.2.2.2.1 x.2.2.2.2.2.2.2.2.2.2.2.2.1 x.2.2.2.2.2.2.2.2.2.2.2.2.2.1 x.2.2.2.2.2.2.2.2.2.2.2.2.2.2
abbrev u19{α0 α1 α2 α3 α4 α5 α6 α7 α8 α9 α10 α11 α12 α13 α14 α15 α16 α17 α18 γ:Type}(f:α0→α1→α2→α3→α4→α5→α6→α7→α8→α9→α10→α11→α12→α13→α14→α15→α16→α17→α18→γ)(x:α0×α1×α2×α3×α4×α5×α6×α7×α8×α9×α10×α11×α12×α13×α14×α15×α16×α17×α18):γ:=f x.1 x.2.1 x.2.2.1 x.2.2.2.1 x.2.2.2.2.1 x.2.2.2.2.2.1 x.2.2.2.2.2.2.1 x.2.2.2.2.2.2.2.1 x.2.2.2.2.2.2.2.2.1 x.2.2.2.2.2.2.2.2.2.1 x.2.2.2.2.2.2.2.2.2.2.1 x.2.2.2.2.2.2.2.2.2.2.2.1 x.2.2.2.2.2.2.2.2.2.2.2.2.1 x.2.2.2.2.2.2.2.2.2.2.2.2.2.1 x.2.2.2.2.2.2.2.2.2.2.2.2.2.2.1 x.2.2.2.2.2.2.2.2.2.2.2.2.2.2.2.1 x.2.2.2.2.2.2.2.2.2.2.2.2.2.2.2.2.1 x.2.2.2.2.2.2.2.2.2.2.2.2.2.2.2.2.2.1 x.2.2.2.2.2.2.2.2.2.2.2.2.2.2.2.2.2.2
abbrev u34{α0 α1 α2 α3 α4 α5 α6 α7 α8 α9 α10 α11 α12 α13 α14 α15 α16 α17 α18 α19 α20 α21 α22 α23 α24 α25 α26 α27 α28 α29 α30 α31 α32 α33 γ:Type}(f:α0→α1→α2→α3→α4→α5→α6→α7→α8→α9→α10→α11→α12→α13→α14→α15→α16→α17→α18→α19→α20→α21→α22→α23→α24→α25→α26→α27→α28→α29→α30→α31→α32→α33→γ)(x:α0×α1×α2×α3×α4×α5×α6×α7×α8×α9×α10×α11×α12×α13×α14×α15×α16×α17×α18×α19×α20×α21×α22×α23×α24×α25×α26×α27×α28×α29×α30×α31×α32×α33):γ:=f x.1 x.2.1 x.2.2.1 x.2.2.2.1 x.2.2.2.2.1 x.2.2.2.2.2.1 x.2.2.2.2.2.2.1 x.2.2.2.2.2.2.2.1 x.2.2.2.2.2.2.2.2.1 x.2.2.2.2.2.2.2.2.2.1 x.2.2.2.2.2.2.2.2.2.2.1 x.2.2.2.2.2.2.2.2.2.2.2.1 x.2.2.2.2.2.2.2.2.2.2.2.2.1 x.2.2.2.2.2.2.2.2.2.2.2.2.2.1 x.2.2.2.2.2.2.2.2.2.2.2.2.2.2.1 x.2.2.2.2.2.2.2.2.2.2.2.2.2.2.2.1 x.2.2.2.2.2.2.2.2.2.2.2.2.2.2.2.2.1 x.2.2.2.2.2.2.2.2.2.2.2.2.2.2.2.2.2.1 x.2.2.2.2.2.2.2.2.2.2.2.2.2.2.2.2.2.2.1 x.2.2.2.2.2.2.2.2.2.2.2.2.2.2.2.2.2.2.2.1 x.2.2.2.2.2.2.2.2.2.2.2.2.2.2.2.2.2.2.2.2.1 x.2.2.2.2.2.2.2.2.2.2.2.2.2.2.2.2.2.2.2.2.2.1 x.2.2.2.2.2.2.2.2.2.2.2.2.2.2.2.2.2.2.2.2.2.2.1 x.2.2.2.2.2.2.2.2.2.2.2.2.2.2.2.2.2.2.2.2.2.2.2.1 x.2.2.2.2.2.2.2.2.2.2.2.2.2.2.2.2.2.2.2.2.2.2.2.2.1 x.2.2.2.2.2.2.2.2.2.2.2.2.2.2.2.2.2.2.2.2.2.2.2.2.2.1 x.2.2.2.2.2.2.2.2.2.2.2.2.2.2.2.2.2.2.2.2.2.2.2.2.2.2.1 x.2.2.2.2.2.2.2.2.2.2.2.2.2.2.2.2.2.2.2.2.2.2.2.2.2.2.2.1 x.2.2.2.2.2.2.2.2.2.2.2.2.2.2.2.2.2.2.2.2.2.2.2.2.2.2.2.2.1 x.2.2.2.2.2.2.2.2.2.2.2.2.2.2.2.2.2.2.2.2.2.2.2.2.2.2.2.2.2.1 x.2.2.2.2.2.2.2.2.2.2.2.2.2.2.2.2.2.2.2.2.2.2.2.2.2.2.2.2.2.2.1 x.2.2.2.2.2.2.2.2.2.2.2.2.2.2.2.2.2.2.2.2.2.2.2.2.2.2.2.2.2.2.2.1 x.2.2.2.2.2.2.2.2.2.2.2.2.2.2.2.2.2.2.2.2.2.2.2.2.2.2.2.2.2.2.2.2.1 x.2.2.2.2.2.2.2.2.2.2.2.2.2.2.2.2.2.2.2.2.2.2.2.2.2.2.2.2.2.2.2.2.2
variable {N:Nat}{rows:List Go.Eng.LI}{rule entry:Go.Eng.LI}
theorem ext0:ExtOk Tryz.prog ⟨223,253,some 148⟩:=⟨fun f h=>by obtain rfl:=oi h;exact⟨hasFn Tryz.func148 rfl rfl,fun H r hF=>c_sortI sortInts rfl H r hF⟩,⟨_,Tryz.func223,by kernel_rfl,by kernel_rfl,by kernel_rfl,by kernel_rfl⟩,⟨_,Tryz.func253,by kernel_rfl,by kernel_rfl,by kernel_rfl,by kernel_rfl⟩⟩
def Q69:Sig:=⟨2,[.vf 0 [.lt],.vf 1 [.same (.cst (.string (⟨#[35]⟩:BA)))]],1,[.vf 0 [.lo]]⟩
def Q186:Sig:=⟨2,[.vf 0 [.lt],.vf 1 [.same (.cst (.string (⟨#[35]⟩:BA)))]],1,[.vf 0 [.lo]]⟩
def Q169:Sig:=⟨1,[.bx (.slot 0 0) [.lt,.li,.li,.same (.cst (.nilIface))],.vf 0 [.pt 0 0]],1,[.kb 0 [.sf 0,.sf 1,.sf 2,.same (.cst (.nilIface))],.vf 0 [.lt]]⟩
def Q68:Sig:=⟨2,[.vf 0 [.lt],.vf 1 [.lb]],1,[.vf 0 [.li]]⟩
def Q74:Sig:=⟨2,[.vf 0 [.lt],.vf 1 [.same (.cst (.string (⟨#[32]⟩:BA)))]],1,[.vf 0 [.li]]⟩
def Q76:Sig:=⟨2,[.vf 0 [.lt],.vf 1 [.same (.cst (.string (⟨#[32]⟩:BA)))]],3,[.vf 0 [.lt],.vf 1 [.lt],.vf 2 [.lo]]⟩
def Q223:Sig:=⟨2,[.vf 0 [.lt],.vf 1 [.same (.cst (.string (⟨#[32]⟩:BA)))]],3,[.vf 0 [.lt],.vf 1 [.lt],.vf 2 [.lo]]⟩
def Q154:Sig:=⟨1,[.bx (.slot 0 0) [.lt,.li,.li,.same (.cst (.nilIface))],.vf 0 [.pt 0 0]],1,[.kb 0 [.sf 0,.sf 1,.li,.same (.cst (.nilIface))],.vf 0 [.lt]]⟩
def Q164:Sig:=⟨3,[.bx (.slot 0 0) [.lt,.li,.li,.same (.cst (.nilIface))],.vf 0 [.pt 0 0],.vf 1 [.li],.vf 2 [.same (.er 4)]],0,[.kb 0 [.sf 0,.sf 1,.sf 3,.same (.er 4)]]⟩
def Q57:Sig:=⟨2,[.vf 0 [.lt],.vf 1 [.same (.cst (.string (⟨#[32]⟩:BA)))]],1,[.vf 0 [.lo]]⟩
def Q117:Sig:=⟨2,[.vf 0 [.lt],.vf 1 [.same (.cst (.string (⟨#[32]⟩:BA)))]],1,[.vf 0 [.lo]]⟩
def Q101:Sig:=⟨3,[.bx (.slot 0 0) [.lt,.li,.li,.same (.cst (.nilIface))],.vf 0 [.pt 0 0],.vf 1 [.li],.vf 2 [.same (.er 1)]],0,[.kb 0 [.sf 0,.sf 1,.sf 3,.same (.er 1)]]⟩
def Q100:Sig:=⟨1,[.bx (.slot 0 0) [.lt,.li,.li,.same (.cst (.nilIface))],.vf 0 [.pt 0 0]],1,[.kb 0 [.sf 0,.sf 1,.li,.le],.vf 0 [.lo]]⟩
def Q109:Sig:=⟨1,[.bx (.slot 0 0) [.lt,.li,.li,.le],.vf 0 [.pt 0 0]],1,[.kb 0 [.sf 0,.sf 1,.sf 2,.sf 3],.vf 0 [.lt]]⟩
def Q85:Sig:=⟨1,[.bx (.slot 0 0) [.lt,.li,.li,.le],.vf 0 [.pt 0 0]],1,[.kb 0 [.sf 0,.sf 1,.li,.sf 3],.vf 0 [.lt]]⟩
def Q233:Sig:=⟨1,[.vf 0 [.lt]],1,[.vf 0 [.lo]]⟩
def Q95:Sig:=⟨3,[.bx (.slot 0 0) [.lt,.li,.li,.le],.vf 0 [.pt 0 0],.vf 1 [.li],.vf 2 [.same (.er 6)]],0,[.kb 0 [.sf 0,.sf 1,.li,.le]]⟩
def Q167:Sig:=⟨1,[.bx (.slot 0 0) [.lt,.li,.li,.same (.cst (.nilIface))],.vf 0 [.pt 0 0]],2,[.kb 0 [.sf 0,.sf 1,.li,.le],.vf 0 [.lt],.vf 1 [.li]]⟩
def Q83:Sig:=⟨3,[.bx (.slot 0 0) [.lt,.li,.li,.le],.vf 0 [.pt 0 0],.vf 1 [.li],.vf 2 [.same (.er 5)]],0,[.kb 0 [.sf 0,.sf 1,.li,.le]]⟩
def Q161:Sig:=⟨1,[.bx (.slot 0 0) [.lt,.li,.li,.le],.vf 0 [.pt 0 0]],0,[.kb 0 [.sf 0,.sf 1,.li,.le]]⟩
def Q73:Sig:=⟨2,[.vf 0 [.sl .str],.vf 1 [.lt]],1,[.vf 0 [.li]]⟩
def Q71:Sig:=⟨2,[.vf 0 [.sl .str],.vf 1 [.lt]],1,[.vf 0 [.lo]]⟩
def Q102:Sig:=⟨3,[.bx (.slot 0 0) [.lt,.li,.li,.le],.vf 0 [.pt 0 0],.vf 1 [.li],.vf 2 [.same (.er 7)]],0,[.kb 0 [.sf 0,.sf 1,.li,.le]]⟩
def Q84:Sig:=⟨3,[.bx (.slot 0 0) [.lt,.li,.li,.le],.vf 0 [.pt 0 0],.vf 1 [.li],.vf 2 [.same (.er 13)]],0,[.kb 0 [.sf 0,.sf 1,.li,.le]]⟩
def Q143:Sig:=⟨5,[.bx (.slot 0 0) [.lt,.li,.li,.le],.vf 0 [.pt 0 0],.vf 1 [.li],.vf 2 [.lo],.vf 3 [.li],.vf 4 [.li]],1,[.kb 0 [.sf 0,.sf 1,.li,.le],.vf 0 [.lo]]⟩
def Q158:Sig:=⟨2,[.bx (.slot 0 0) [.own .str,.own (.pair .str (.pair .nd (.int .i64))),.own (.pair (.list .str) (.pair .nd (.pair (.pair .str .str) (.int .i64))))],.vf 0 [.pt 0 0],.bx (.slot 1 0) [.lt,.li,.li,.same (.cst (.nilIface))],.vf 1 [.pt 1 0]],0,[.kb 0 [.own .str,.ar 1 (.pair .str (.pair .nd (.int .i64))),.ar 2 (.pair (.list .str) (.pair .nd (.pair (.pair .str .str) (.int .i64))))],.kb 1 [.sf 3,.sf 4,.li,.le]]⟩
def Q93:Sig:=⟨3,[.bx (.slot 0 0) [.lt,.li,.li,.le],.vf 0 [.pt 0 0],.vf 1 [.li],.vf 2 [.same (.er 4)]],0,[.kb 0 [.sf 0,.sf 1,.li,.le]]⟩
def Q97:Sig:=⟨3,[.bx (.slot 0 0) [.lt,.li,.li,.le],.vf 0 [.pt 0 0],.vf 1 [.li],.vf 2 [.same (.er 1)]],0,[.kb 0 [.sf 0,.sf 1,.li,.le]]⟩
def Q79:Sig:=⟨1,[.bx (.slot 0 0) [.lt,.li,.li,.le],.vf 0 [.pt 0 0]],1,[.kb 0 [.sf 0,.sf 1,.li,.le],.vf 0 [.lo]]⟩
def Q196:Sig:=⟨1,[.vf 0 [.lt]],1,[.vf 0 [.li]]⟩
def Q192:Sig:=⟨1,[.bx (.slot 0 0) [.lt,.li,.le],.vf 0 [.pt 0 0]],1,[.kb 0 [.sf 0,.sf 1,.sf 2],.vf 0 [.lo]]⟩
def Q52:Sig:=⟨2,[.vf 0 [.same (.cst (.string (⟨#[124,41]⟩:BA)))],.vf 1 [.lb]],1,[.vf 0 [.li]]⟩
def Q189:Sig:=⟨2,[.vf 0 [.same (.cst (.string (⟨#[124,41]⟩:BA)))],.vf 1 [.lb]],1,[.vf 0 [.li]]⟩
def Q199:Sig:=⟨2,[.bx (.slot 0 0) [.lt,.li,.le],.vf 0 [.pt 0 0],.vf 1 [.same (.cst (.string (⟨#[124,41]⟩:BA)))]],1,[.kb 0 [.sf 0,.sf 1,.sf 2],.vf 0 [.lo]]⟩
def Q66:Sig:=⟨2,[.vf 0 [.same (.cst (.string (⟨#[40]⟩:BA)))],.vf 1 [.lb]],1,[.vf 0 [.li]]⟩
def Q139:Sig:=⟨2,[.vf 0 [.same (.cst (.string (⟨#[40]⟩:BA)))],.vf 1 [.lb]],1,[.vf 0 [.li]]⟩
def Q184:Sig:=⟨2,[.bx (.slot 0 0) [.lt,.li,.le],.vf 0 [.pt 0 0],.vf 1 [.same (.cst (.string (⟨#[40]⟩:BA)))]],1,[.kb 0 [.sf 0,.sf 1,.sf 2],.vf 0 [.lo]]⟩
def Q176:Sig:=⟨2,[.bx (.slot 0 0) [.lt,.li,.le],.vf 0 [.pt 0 0],.vf 1 [.same (.cst (.string (⟨#[40]⟩:BA)))]],1,[.kb 0 [.sf 0,.li,.sf 2],.vf 0 [.lo]]⟩
def Q64:Sig:=⟨2,[.vf 0 [.same (.cst (.string (⟨#[91]⟩:BA)))],.vf 1 [.lb]],1,[.vf 0 [.li]]⟩
def Q141:Sig:=⟨2,[.vf 0 [.same (.cst (.string (⟨#[91]⟩:BA)))],.vf 1 [.lb]],1,[.vf 0 [.li]]⟩
def Q171:Sig:=⟨2,[.bx (.slot 0 0) [.lt,.li,.le],.vf 0 [.pt 0 0],.vf 1 [.same (.cst (.string (⟨#[91]⟩:BA)))]],1,[.kb 0 [.sf 0,.sf 1,.sf 2],.vf 0 [.lo]]⟩
def Q115:Sig:=⟨1,[.bx (.slot 0 0) [.lt,.li],.vf 0 [.pt 0 0]],1,[.kb 0 [.sf 0,.sf 1],.vf 0 [.lo]]⟩
def Q110:Sig:=⟨1,[.bx (.slot 0 0) [.lt,.li],.vf 0 [.pt 0 0]],1,[.kb 0 [.sf 0,.sf 1],.vf 0 [.lb]]⟩
def Q112:Sig:=⟨2,[.bx (.slot 0 0) [.lt,.li],.vf 0 [.pt 0 0],.vf 1 [.lb]],1,[.kb 0 [.sf 0,.li],.vf 0 [.lo]]⟩
def Q56:Sig:=⟨2,[.vf 0 [.same (.cst (.string (⟨#[91,93,45,47]⟩:BA)))],.vf 1 [.lb]],1,[.vf 0 [.li]]⟩
def Q135:Sig:=⟨2,[.vf 0 [.same (.cst (.string (⟨#[91,93,45,47]⟩:BA)))],.vf 1 [.lb]],1,[.vf 0 [.li]]⟩
def Q59:Sig:=⟨2,[.vf 0 [.same (.cst (.string (⟨#[110,116,114,115]⟩:BA)))],.vf 1 [.lb]],1,[.vf 0 [.li]]⟩
def Q147:Sig:=⟨2,[.vf 0 [.same (.cst (.string (⟨#[110,116,114,115]⟩:BA)))],.vf 1 [.lb]],1,[.vf 0 [.li]]⟩
def Q58:Sig:=⟨2,[.vf 0 [.same (.cst (.string (⟨#[48,49,50,51,52,53,54,55,56,57,97,98,99,100,101,102]⟩:BA)))],.vf 1 [.lb]],1,[.vf 0 [.li]]⟩
def Q149:Sig:=⟨2,[.vf 0 [.same (.cst (.string (⟨#[48,49,50,51,52,53,54,55,56,57,97,98,99,100,101,102]⟩:BA)))],.vf 1 [.lb]],1,[.vf 0 [.li]]⟩
def Q213:Sig:=⟨1,[.vf 0 [.lb]],2,[.vf 0 [.li],.vf 1 [.lo]]⟩
def Q239:Sig:=⟨2,[.vf 0 [.lt],.vf 1 [.li]],3,[.vf 0 [.lb],.vf 1 [.li],.vf 2 [.le]]⟩
def Q237:Sig:=⟨1,[.vf 0 [.lb]],1,[.vf 0 [.lo]]⟩
def Q242:Sig:=⟨2,[.vf 0 [.lt],.vf 1 [.li]],3,[.vf 0 [.lb],.vf 1 [.li],.vf 2 [.le]]⟩
def Q142:Sig:=⟨1,[.bx (.slot 0 0) [.lt,.li],.vf 0 [.pt 0 0]],2,[.kb 0 [.sf 0,.li],.vf 0 [.lb],.vf 1 [.le]]⟩
def Q253:Sig:=⟨1,[.vf 0 [.lb]],1,[.v 0 true [.lu,.lu,.lu,.lu]]⟩
def Q243:Sig:=⟨1,[.vf 0 [.li]],1,[.vf 0 [.lu]]⟩
def Q250:Sig:=⟨2,[.vf 0 [.lb],.vf 1 [.lb]],1,[.v 0 true [.lu,.lu,.lu,.lu]]⟩
def Q90:Sig:=⟨1,[.bx (.slot 0 0) [.lt,.li],.vf 0 [.pt 0 0]],2,[.kb 0 [.sf 0,.li],.v 0 true [.lu,.lu,.lu,.lu],.vf 1 [.le]]⟩
def Q220:Sig:=⟨2,[.v 0 true [.lu,.lu,.lu,.lu],.v 1 true [.lu,.lu,.lu,.lu]],1,[.v 0 true [.lu,.lu,.lu,.lu]]⟩
def Q216:Sig:=⟨1,[.v 0 true [.lu,.lu,.lu,.lu]],1,[.v 0 true [.lu,.lu,.lu,.lu]]⟩
def Q77:Sig:=⟨1,[.bx (.slot 0 0) [.lt,.li],.vf 0 [.pt 0 0]],2,[.kb 0 [.sf 0,.li],.v 0 true [.lu,.lu,.lu,.lu],.vf 1 [.le]]⟩
def Q209:Sig:=⟨2,[.vf 0 [.lt],.vf 1 [.li]],3,[.v 0 true [.lu,.lu,.lu,.lu],.vf 1 [.li],.vf 2 [.le]]⟩
def Q187:Sig:=⟨3,[.bx (.slot 0 0) [.lt,.li,.le],.vf 0 [.pt 0 0],.vf 1 [.li],.vf 2 [.le]],0,[.kb 0 [.sf 0,.li,.le]]⟩
def Q224:Sig:=⟨1,[.v 0 true [.lu,.lu,.lu,.lu]],1,[.v 0 true [.same (.cst (.int .i64 1)),.sf 0,.sf 1,.sf 2,.sf 3,.same (.cst (.slice none 0 0)),.same (.cst (.int .i64 0)),.same (.cst (.int .i64 0)),.same (.cst (.string ByteArray.empty))]]⟩
def Q54:Sig:=⟨2,[.vf 0 [.same (.cst (.string (⟨#[123]⟩:BA)))],.vf 1 [.lb]],1,[.vf 0 [.li]]⟩
def Q136:Sig:=⟨2,[.vf 0 [.same (.cst (.string (⟨#[123]⟩:BA)))],.vf 1 [.lb]],1,[.vf 0 [.li]]⟩
def Q188:Sig:=⟨2,[.bx (.slot 0 0) [.lt,.li,.le],.vf 0 [.pt 0 0],.vf 1 [.same (.cst (.string (⟨#[123]⟩:BA)))]],1,[.kb 0 [.sf 0,.sf 1,.sf 2],.vf 0 [.lo]]⟩
def Q150:Sig:=⟨2,[.vf 0 [.lt],.vf 1 [.lb]],1,[.vf 0 [.li]]⟩
def Q127:Sig:=⟨3,[.bx (.slot 0 0) [.lt,.li,.le],.vf 0 [.pt 0 0],.vf 1 [.li],.vf 2 [.same (.er 4)]],0,[.kb 0 [.sf 0,.li,.le]]⟩
def Q134:Sig:=⟨3,[.bx (.slot 0 0) [.lt,.li,.le],.vf 0 [.pt 0 0],.vf 1 [.li],.vf 2 [.same (.er 6)]],0,[.kb 0 [.sf 0,.li,.le]]⟩
def Q190:Sig:=⟨1,[.bx (.slot 0 0) [.lt,.li,.le],.vf 0 [.pt 0 0]],1,[.kb 0 [.sf 0,.li,.le],.v 0 true [.li,.same (.cst (.int .u64 0)),.same (.cst (.int .u64 0)),.same (.cst (.int .u64 0)),.same (.cst (.int .u64 0)),.same (.cst (.slice none 0 0)),.same (.cst (.int .i64 0)),.same (.cst (.int .i64 0)),.lt]]⟩
def Q62:Sig:=⟨2,[.vf 0 [.same (.cst (.string (⟨#[46]⟩:BA)))],.vf 1 [.lb]],1,[.vf 0 [.li]]⟩
def Q133:Sig:=⟨2,[.vf 0 [.same (.cst (.string (⟨#[46]⟩:BA)))],.vf 1 [.lb]],1,[.vf 0 [.li]]⟩
def Q185:Sig:=⟨2,[.bx (.slot 0 0) [.lt,.li,.le],.vf 0 [.pt 0 0],.vf 1 [.same (.cst (.string (⟨#[46]⟩:BA)))]],1,[.kb 0 [.sf 0,.sf 1,.sf 2],.vf 0 [.lo]]⟩
def Q121:Sig:=⟨2,[.bx (.slot 0 0) [.lt,.li,.le],.vf 0 [.pt 0 0],.vf 1 [.same (.cst (.string (⟨#[46]⟩:BA)))]],1,[.kb 0 [.sf 0,.li,.sf 2],.vf 0 [.lo]]⟩
def Q217:Sig:=⟨0,[],1,[.v 0 true [.lu,.lu,.lu,.lu]]⟩
def Q67:Sig:=⟨2,[.vf 0 [.same (.cst (.string (⟨#[42,43,63,93,125,47]⟩:BA)))],.vf 1 [.lb]],1,[.vf 0 [.li]]⟩
def Q140:Sig:=⟨2,[.vf 0 [.same (.cst (.string (⟨#[42,43,63,93,125,47]⟩:BA)))],.vf 1 [.lb]],1,[.vf 0 [.li]]⟩
def Q174:Sig:=⟨2,[.bx (.slot 0 0) [.lt,.li,.le],.vf 0 [.pt 0 0],.vf 1 [.same (.cst (.string (⟨#[42,43,63,93,125,47]⟩:BA)))]],1,[.kb 0 [.sf 0,.sf 1,.sf 2],.vf 0 [.lo]]⟩
def Q138:Sig:=⟨3,[.bx (.slot 0 0) [.lt,.li,.le],.vf 0 [.pt 0 0],.vf 1 [.li],.vf 2 [.same (.er 1)]],0,[.kb 0 [.sf 0,.li,.le]]⟩
def Q47:Sig:=⟨2,[.vf 0 [.same (.cst (.string (⟨#[42]⟩:BA)))],.vf 1 [.lb]],1,[.vf 0 [.li]]⟩
def Q106:Sig:=⟨2,[.vf 0 [.same (.cst (.string (⟨#[42]⟩:BA)))],.vf 1 [.lb]],1,[.vf 0 [.li]]⟩
def Q191:Sig:=⟨2,[.bx (.slot 0 0) [.lt,.li,.le],.vf 0 [.pt 0 0],.vf 1 [.same (.cst (.string (⟨#[42]⟩:BA)))]],1,[.kb 0 [.sf 0,.sf 1,.sf 2],.vf 0 [.lo]]⟩
def Q119:Sig:=⟨2,[.bx (.slot 0 0) [.lt,.li,.le],.vf 0 [.pt 0 0],.vf 1 [.same (.cst (.string (⟨#[42]⟩:BA)))]],1,[.kb 0 [.sf 0,.li,.sf 2],.vf 0 [.lo]]⟩
def Q30:Sig:=⟨2,[.vf 0 [.same (.cst (.string (⟨#[43]⟩:BA)))],.vf 1 [.lb]],1,[.vf 0 [.li]]⟩
def Q103:Sig:=⟨2,[.vf 0 [.same (.cst (.string (⟨#[43]⟩:BA)))],.vf 1 [.lb]],1,[.vf 0 [.li]]⟩
def Q173:Sig:=⟨2,[.bx (.slot 0 0) [.lt,.li,.le],.vf 0 [.pt 0 0],.vf 1 [.same (.cst (.string (⟨#[43]⟩:BA)))]],1,[.kb 0 [.sf 0,.sf 1,.sf 2],.vf 0 [.lo]]⟩
def Q148:Sig:=⟨2,[.bx (.slot 0 0) [.lt,.li,.le],.vf 0 [.pt 0 0],.vf 1 [.same (.cst (.string (⟨#[43]⟩:BA)))]],1,[.kb 0 [.sf 0,.li,.sf 2],.vf 0 [.lo]]⟩
def Q33:Sig:=⟨2,[.vf 0 [.same (.cst (.string (⟨#[63]⟩:BA)))],.vf 1 [.lb]],1,[.vf 0 [.li]]⟩
def Q105:Sig:=⟨2,[.vf 0 [.same (.cst (.string (⟨#[63]⟩:BA)))],.vf 1 [.lb]],1,[.vf 0 [.li]]⟩
def Q177:Sig:=⟨2,[.bx (.slot 0 0) [.lt,.li,.le],.vf 0 [.pt 0 0],.vf 1 [.same (.cst (.string (⟨#[63]⟩:BA)))]],1,[.kb 0 [.sf 0,.sf 1,.sf 2],.vf 0 [.lo]]⟩
def Q130:Sig:=⟨2,[.bx (.slot 0 0) [.lt,.li,.le],.vf 0 [.pt 0 0],.vf 1 [.same (.cst (.string (⟨#[63]⟩:BA)))]],1,[.kb 0 [.sf 0,.li,.sf 2],.vf 0 [.lo]]⟩
def Q48:Sig:=⟨2,[.vf 0 [.same (.cst (.string (⟨#[48,49,50,51,52,53,54,55,56,57]⟩:BA)))],.vf 1 [.lb]],1,[.vf 0 [.li]]⟩
def Q111:Sig:=⟨2,[.vf 0 [.same (.cst (.string (⟨#[48,49,50,51,52,53,54,55,56,57]⟩:BA)))],.vf 1 [.lb]],1,[.vf 0 [.li]]⟩
def Q96:Sig:=⟨1,[.bx (.slot 0 0) [.lt,.li,.le],.vf 0 [.pt 0 0]],1,[.kb 0 [.sf 0,.sf 1,.sf 2],.vf 0 [.lo]]⟩
def Q179:Sig:=⟨2,[.bx (.slot 0 0) [.lt,.li,.le],.vf 0 [.pt 0 0],.vf 1 [.same (.cst (.string (⟨#[48,49,50,51,52,53,54,55,56,57]⟩:BA)))]],1,[.kb 0 [.sf 0,.sf 1,.sf 2],.vf 0 [.lo]]⟩
def Q144:Sig:=⟨3,[.bx (.slot 0 0) [.lt,.li,.le],.vf 0 [.pt 0 0],.vf 1 [.li],.vf 2 [.same (.er 3)]],0,[.kb 0 [.sf 0,.li,.le]]⟩
def Q137:Sig:=⟨1,[.bx (.slot 0 0) [.lt,.li,.le],.vf 0 [.pt 0 0]],1,[.kb 0 [.sf 0,.li,.le],.vf 0 [.li]]⟩
def Q50:Sig:=⟨2,[.vf 0 [.same (.cst (.string (⟨#[44]⟩:BA)))],.vf 1 [.lb]],1,[.vf 0 [.li]]⟩
def Q98:Sig:=⟨2,[.vf 0 [.same (.cst (.string (⟨#[44]⟩:BA)))],.vf 1 [.lb]],1,[.vf 0 [.li]]⟩
def Q163:Sig:=⟨2,[.bx (.slot 0 0) [.lt,.li,.le],.vf 0 [.pt 0 0],.vf 1 [.same (.cst (.string (⟨#[44]⟩:BA)))]],1,[.kb 0 [.sf 0,.sf 1,.sf 2],.vf 0 [.lo]]⟩
def Q125:Sig:=⟨2,[.bx (.slot 0 0) [.lt,.li,.le],.vf 0 [.pt 0 0],.vf 1 [.same (.cst (.string (⟨#[44]⟩:BA)))]],1,[.kb 0 [.sf 0,.li,.sf 2],.vf 0 [.lo]]⟩
def Q39:Sig:=⟨2,[.vf 0 [.same (.cst (.string (⟨#[125]⟩:BA)))],.vf 1 [.lb]],1,[.vf 0 [.li]]⟩
def Q89:Sig:=⟨2,[.vf 0 [.same (.cst (.string (⟨#[125]⟩:BA)))],.vf 1 [.lb]],1,[.vf 0 [.li]]⟩
def Q157:Sig:=⟨2,[.bx (.slot 0 0) [.lt,.li,.le],.vf 0 [.pt 0 0],.vf 1 [.same (.cst (.string (⟨#[125]⟩:BA)))]],1,[.kb 0 [.sf 0,.sf 1,.sf 2],.vf 0 [.lo]]⟩
def Q123:Sig:=⟨2,[.bx (.slot 0 0) [.lt,.li,.le],.vf 0 [.pt 0 0],.vf 1 [.same (.cst (.string (⟨#[125]⟩:BA)))]],1,[.kb 0 [.sf 0,.li,.sf 2],.vf 0 [.lo]]⟩
def Q124:Sig:=⟨1,[.bx (.slot 0 0) [.lt,.li,.le],.vf 0 [.pt 0 0]],2,[.kb 0 [.sf 0,.li,.le],.vf 0 [.li],.vf 1 [.li]]⟩
def Q49:Sig:=⟨2,[.vf 0 [.same (.cst (.string (⟨#[124]⟩:BA)))],.vf 1 [.lb]],1,[.vf 0 [.li]]⟩
def Q94:Sig:=⟨2,[.vf 0 [.same (.cst (.string (⟨#[124]⟩:BA)))],.vf 1 [.lb]],1,[.vf 0 [.li]]⟩
def Q165:Sig:=⟨2,[.bx (.slot 0 0) [.lt,.li,.le],.vf 0 [.pt 0 0],.vf 1 [.same (.cst (.string (⟨#[124]⟩:BA)))]],1,[.kb 0 [.sf 0,.sf 1,.sf 2],.vf 0 [.lo]]⟩
def Q151:Sig:=⟨2,[.bx (.slot 0 0) [.lt,.li,.le],.vf 0 [.pt 0 0],.vf 1 [.same (.cst (.string (⟨#[124]⟩:BA)))]],1,[.kb 0 [.sf 0,.li,.sf 2],.vf 0 [.lo]]⟩
def Q45:Sig:=⟨2,[.vf 0 [.same (.cst (.string (⟨#[41]⟩:BA)))],.vf 1 [.lb]],1,[.vf 0 [.li]]⟩
def Q114:Sig:=⟨2,[.vf 0 [.same (.cst (.string (⟨#[41]⟩:BA)))],.vf 1 [.lb]],1,[.vf 0 [.li]]⟩
def Q170:Sig:=⟨2,[.bx (.slot 0 0) [.lt,.li,.le],.vf 0 [.pt 0 0],.vf 1 [.same (.cst (.string (⟨#[41]⟩:BA)))]],1,[.kb 0 [.sf 0,.sf 1,.sf 2],.vf 0 [.lo]]⟩
def Q126:Sig:=⟨2,[.bx (.slot 0 0) [.lt,.li,.le],.vf 0 [.pt 0 0],.vf 1 [.same (.cst (.string (⟨#[41]⟩:BA)))]],1,[.kb 0 [.sf 0,.li,.sf 2],.vf 0 [.lo]]⟩
def Q181:Sig:=⟨1,[.bx (.slot 0 0) [.lt,.li,.le],.vf 0 [.pt 0 0]],1,[.kb 0 [.sf 0,.li,.le],.v 0 true JI.zn]⟩
def Q162:Sig:=⟨1,[.bx (.slot 0 0) [.lt,.li,.le],.vf 0 [.pt 0 0]],1,[.kb 0 [.sf 0,.li,.le],.v 0 true JI.zn]⟩
def Q116:Sig:=⟨1,[.bx (.slot 0 0) [.lt,.li,.le],.vf 0 [.pt 0 0]],1,[.kb 0 [.sf 0,.li,.le],.v 0 true JI.zn]⟩
def Q78:Sig:=⟨1,[.bx (.slot 0 0) [.lt,.li,.le],.vf 0 [.pt 0 0]],1,[.kb 0 [.sf 0,.li,.le],.v 0 true JI.zn]⟩
def Q152:Sig:=⟨3,[.bx (.slot 0 0) [.lt,.li,.le],.vf 0 [.pt 0 0],.vf 1 [.li],.vf 2 [.same (.er 8)]],0,[.kb 0 [.sf 0,.li,.le]]⟩
def Q132:Sig:=⟨3,[.bx (.slot 0 0) [.lt,.li,.le],.vf 0 [.pt 0 0],.vf 1 [.li],.vf 2 [.same (.er 2)]],0,[.kb 0 [.sf 0,.li,.le]]⟩
def Q221:Sig:=⟨1,[.vf 0 [.lt]],3,[.v 0 true JI.zn,.vf 1 [.li],.vf 2 [.le]]⟩
def Q86:Sig:=⟨3,[.bx (.slot 0 0) [.lt,.li,.li,.le],.vf 0 [.pt 0 0],.vf 1 [.li],.vf 2 [.le]],0,[.kb 0 [.sf 0,.sf 1,.li,.le]]⟩
def Q75:Sig:=⟨1,[.bx (.slot 0 0) [.lt,.li,.li,.le],.vf 0 [.pt 0 0]],1,[.kb 0 [.sf 0,.sf 1,.li,.le],.v 0 true JI.zn]⟩
def Q128:Sig:=⟨2,[.v 0 true [.lt,.li,.lu,.lu,.lu,.lu,.sl .nd,.li,.li,.lt,.li],.bx (.slot 1 0) [.lt],.vf 1 [.pt 0 0]],1,[.kb 0 [.sf 11],.vf 0 [.lo]]⟩
def Q24:Sig:=⟨2,[.vf 0 [.sl (.pair .str (.pair .nd (.int .i64)))],.bx (.slot 1 0) [.lt],.fn 1 142 [.pt 0 0]],1,[.kb 0 [.sf 1],.vf 0 [.li]]⟩
def Q19:Sig:=⟨2,[.vf 0 [.sl (.pair .str (.pair .nd (.int .i64)))],.bx (.slot 1 0) [.lt],.fn 1 142 [.pt 0 0]],1,[.kb 0 [.sf 1],.vf 0 [.lo]]⟩
def Q172:Sig:=⟨2,[.bx (.slot 0 0) [.own .str,.own (.pair .str (.pair .nd (.int .i64))),.own (.pair (.list .str) (.pair .nd (.pair (.pair .str .str) (.int .i64))))],.vf 0 [.pt 0 0],.bx (.slot 1 0) [.lt,.li,.li,.same (.cst (.nilIface))],.vf 1 [.pt 1 0]],0,[.kb 0 [.ar 0 .str,.own (.pair .str (.pair .nd (.int .i64))),.ar 2 (.pair (.list .str) (.pair .nd (.pair (.pair .str .str) (.int .i64))))],.kb 1 [.sf 3,.sf 4,.li,.le]]⟩
def Q210:Sig:=⟨2,[.vf 0 [.lt],.vf 1 [.same (.cst (.string (⟨#[32]⟩:BA)))]],1,[.vf 0 [.li]]⟩
def Q197:Sig:=⟨2,[.vf 0 [.lt],.vf 1 [.same (.cst (.string (⟨#[32]⟩:BA)))]],1,[.vf 0 [.li]]⟩
def Q195:Sig:=⟨4,[.vf 0 [.lt],.vf 1 [.same (.cst (.string (⟨#[32]⟩:BA)))],.vf 2 [.li],.vf 3 [.li]],1,[.vf 0 [.own .str]]⟩
def Q208:Sig:=⟨2,[.vf 0 [.lt],.vf 1 [.same (.cst (.string (⟨#[32]⟩:BA)))]],1,[.vf 0 [.own .str]]⟩
def Q118:Sig:=⟨1,[.bx (.slot 0 0) [.own .str,.li],.vf 0 [.pt 0 0]],2,[.kb 0 [.ar 0 .str,.sf 1],.vf 0 [.lt],.vf 1 [.lo]]⟩
def Q146:Sig:=⟨1,[.bx (.slot 0 0) [.own .str,.li],.vf 0 [.pt 0 0]],0,[.kb 0 [.own .str,.li]]⟩
def Q129:Sig:=⟨1,[.bx (.slot 0 0) [.own .str,.li],.vf 0 [.pt 0 0]],2,[.kb 0 [.own .str,.li],.vf 0 [.lt],.vf 1 [.le]]⟩
def Q81:Sig:=⟨1,[.bx (.slot 0 0) [.own .str,.li],.vf 0 [.pt 0 0]],2,[.kb 0 [.own .str,.li],.v 0 true [.lt,.lt],.vf 1 [.le]]⟩
def Q211:Sig:=⟨1,[.vf 0 [.lt]],3,[.v 0 true [.lt,.lt],.vf 1 [.li],.vf 2 [.le]]⟩
def Q107:Sig:=⟨1,[.bx (.slot 0 0) [.lt,.li,.li,.le],.vf 0 [.pt 0 0]],1,[.kb 0 [.sf 0,.sf 1,.li,.le],.v 0 true [.lt,.lt]]⟩
def Q194:Sig:=⟨2,[.bx (.slot 0 0) [.own .str,.own (.pair .str (.pair .nd (.int .i64))),.own (.pair (.list .str) (.pair .nd (.pair (.pair .str .str) (.int .i64))))],.vf 0 [.pt 0 0],.bx (.slot 1 0) [.lt,.li,.li,.same (.cst (.nilIface))],.vf 1 [.pt 1 0]],0,[.kb 0 [.ar 0 .str,.ar 1 (.pair .str (.pair .nd (.int .i64))),.own (.pair (.list .str) (.pair .nd (.pair (.pair .str .str) (.int .i64))))],.kb 1 [.sf 3,.sf 4,.li,.le]]⟩
def Q156:Sig:=⟨2,[.bx (.slot 0 0) [.own .str,.own (.pair .str (.pair .nd (.int .i64))),.own (.pair (.list .str) (.pair .nd (.pair (.pair .str .str) (.int .i64))))],.vf 0 [.pt 0 0],.bx (.slot 1 0) [.lt,.li,.li,.same (.cst (.nilIface))],.vf 1 [.pt 1 0]],0,[.kb 0 [.own .str,.own (.pair .str (.pair .nd (.int .i64))),.own (.pair (.list .str) (.pair .nd (.pair (.pair .str .str) (.int .i64))))],.kb 1 [.sf 3,.sf 4,.li,.le]]⟩
def Q238:Sig:=⟨1,[.v 0 true JI.zn],1,[.vf 0 [.lo]]⟩
def Q232:Sig:=⟨1,[.v 0 true JI.zn],1,[.vf 0 [.lo]]⟩
def Q198:Sig:=⟨1,[.vf 0 [.sl .str]],1,[.vf 0 [.lo]]⟩
def Q207:Sig:=⟨1,[.vf 0 [.lt]],1,[.vf 0 [.lo]]⟩
def Q206:Sig:=⟨1,[.v 0 true [.lt,.lt]],1,[.vf 0 [.lo]]⟩
def Q202:Sig:=⟨1,[.v 0 true [.sl .str,.sl (.pair .str (.pair .nd (.int .i64))),.sl (.pair (.list .str) (.pair .nd (.pair (.pair .str .str) (.int .i64))))]],1,[.vf 0 [.lo]]⟩
def Q252:Sig:=⟨1,[.vf 0 [.sl .str]],1,[.vf 0 [.own .str]]⟩
def Q248:Sig:=⟨0,[],1,[.bx (.slot 0 0) [.same (.cst (.slice none 0 0)),.ow (.mp .nd)],.vf 0 [.pt 0 0]]⟩
def Q246:Sig:=⟨1,[.vf 0 [.sl .nd]],1,[.vf 0 [.own .nd]]⟩
def Q227:Sig:=⟨1,[.v 0 true JI.zn],1,[.v 0 true [.sf 0,.sf 1,.sf 2,.sf 3,.sf 4,.sl .nd,.sf 6,.sf 7,.sf 8]]⟩
def Q249:Sig:=⟨1,[.v 0 true JI.zn],1,[.v 0 true JI.zn]⟩
def Q205:Sig:=⟨3,[.bx (.slot 0 0) [.own .str,.ow (.mp .nd)],.vf 0 [.pt 0 0],.vf 1 [.lt],.v 2 true JI.zn],1,[.kb 0 [.own .str,.ao 1 (.mp .nd)],.vf 0 [.le]]⟩
def Q203:Sig:=⟨2,[.v 0 true [.sl .str,.sl .str,.sl (.pair (.list (.int .i64)) (.pair .nd (.pair (.int .i64) (.int .i64))))],.vf 1 [.lt]],1,[.vf 0 [.li]]⟩
def Q145:Sig:=⟨2,[.bx (.thru (.slot 0 0) 3) [.own .str,.ow (.mp .nd)],.bx (.slot 0 0) [.own .str,.own .str,.own (.pair (.list (.int .i64)) (.pair .nd (.pair (.int .i64) (.int .i64)))),.pt 0 0],.vf 0 [.pt 1 0],.vf 1 [.sl .str]],2,[.kb 1 [.ar 3 .str,.ar 4 .str,.ar 5 (.pair (.list (.int .i64)) (.pair .nd (.pair (.int .i64) (.int .i64)))),.same (.ptr 0 0)],.kb 0 [.ar 0 .str,.ao 1 (.mp .nd)],.vf 0 [.own (.int .i64)],.vf 1 [.le]]⟩
def Q92:Sig:=⟨3,[.bx (.thru (.slot 0 0) 0) [.own .str,.ow (.mp .nd)],.bx (.slot 0 0) [.pt 0 0,.li,.own .str,.le],.vf 0 [.pt 1 0],.vf 1 [.lt],.vf 2 [.li]],1,[.kb 0 [.ar 0 .str,.ao 1 (.mp .nd)],.kb 1 [.same (.ptr 0 0),.li,.own .str,.le],.v 0 true JI.zn]⟩
def Q82:Sig:=⟨3,[.bx (.thru (.slot 0 0) 0) [.own .str,.ow (.mp .nd)],.bx (.slot 0 0) [.pt 0 0,.li,.own .str,.le],.vf 0 [.pt 1 0],.v 1 true JI.zn,.vf 2 [.li]],1,[.kb 0 [.ar 0 .str,.ao 1 (.mp .nd)],.kb 1 [.same (.ptr 0 0),.li,.own .str,.le],.v 0 true JI.zn]⟩
def Q175:Sig:=⟨2,[.bx (.slot 0 0) [.own .str,.ow (.mp .nd)],.vf 0 [.pt 0 0],.v 1 true JI.zn],2,[.kb 0 [.ar 0 .str,.ao 1 (.mp .nd)],.v 0 true JI.zn,.vf 1 [.le]]⟩
def Q212:Sig:=⟨1,[.vf 0 [.li]],1,[.v 0 true [.same (.cst (.bool true)),.same (.cst (.bool false)),.same (.cst (.int .i64 (-1))),.same (.cst (.int .i64 (-1))),.sf 0,.same (.cst (.int .u64 0)),.same (.cst (.int .u64 0)),.same (.cst (.int .u64 0)),.same (.cst (.int .u64 0)),.same (.cst (.int .u64 0)),.same (.cst (.int .u64 0)),.same (.cst (.int .u64 0)),.same (.cst (.int .u64 0)),.same (.cst (.int .u64 0)),.same (.cst (.int .u64 0)),.same (.cst (.int .u64 0)),.same (.cst (.int .u64 0))]]⟩
def Q200:Sig:=⟨1,[.v 0 true [.lu,.lu,.lu,.lu]],1,[.vf 0 [.lo]]⟩
def Q219:Sig:=⟨0,[],1,[.v 0 true [.same (.cst (.bool false)),.same (.cst (.bool true)),.same (.cst (.int .i64 0)),.same (.cst (.int .i64 0)),.same (.cst (.int .i64 0)),.same (.cst (.int .u64 0)),.same (.cst (.int .u64 0)),.same (.cst (.int .u64 0)),.same (.cst (.int .u64 0)),.same (.cst (.int .u64 0)),.same (.cst (.int .u64 0)),.same (.cst (.int .u64 0)),.same (.cst (.int .u64 0)),.same (.cst (.int .u64 0)),.same (.cst (.int .u64 0)),.same (.cst (.int .u64 0)),.same (.cst (.int .u64 0))]]⟩
def Q244:Sig:=⟨2,[.vf 0 [.li],.vf 1 [.li]],1,[.vf 0 [.li]]⟩
def Q159:Sig:=⟨2,[.v 0 true [.lo,.lo,.li,.li,.li,.lu,.lu,.lu,.lu,.lu,.lu,.lu,.lu,.lu,.lu,.lu,.lu],.v 1 true [.lo,.lo,.li,.li,.li,.lu,.lu,.lu,.lu,.lu,.lu,.lu,.lu,.lu,.lu,.lu,.lu]],1,[.v 0 true [.lo,.lo,.li,.li,.same (.cst (.int .i64 0)),.lu,.lu,.lu,.lu,.lu,.lu,.lu,.lu,.lu,.lu,.lu,.lu]]⟩
def Q204:Sig:=⟨2,[.v 0 true [.lo,.lo,.li,.li,.li,.lu,.lu,.lu,.lu,.lu,.lu,.lu,.lu,.lu,.lu,.lu,.lu],.v 1 true [.lo,.lo,.li,.li,.li,.lu,.lu,.lu,.lu,.lu,.lu,.lu,.lu,.lu,.lu,.lu,.lu]],1,[.v 0 true [.lo,.lo,.li,.li,.li,.lu,.lu,.lu,.lu,.lu,.lu,.lu,.lu,.lu,.lu,.lu,.lu]]⟩
def Q236:Sig:=⟨2,[.vf 0 [.li],.vf 1 [.li]],1,[.vf 0 [.li]]⟩
def Q180:Sig:=⟨3,[.v 0 true [.lo,.lo,.li,.li,.li,.lu,.lu,.lu,.lu,.lu,.lu,.lu,.lu,.lu,.lu,.lu,.lu],.vf 1 [.li],.vf 2 [.li]],1,[.v 0 true [.lo,.lo,.li,.li,.li,.lu,.lu,.lu,.lu,.lu,.lu,.lu,.lu,.lu,.lu,.lu,.lu]]⟩
def Q234:Sig:=⟨1,[.v 0 true JI.zn],1,[.v 0 true [.lo,.lo,.li,.li,.li,.lu,.lu,.lu,.lu,.lu,.lu,.lu,.lu,.lu,.lu,.lu,.lu]]⟩
def Q251:Sig:=⟨1,[.v 0 true JI.zn],1,[.v 0 true [.lo,.lo,.li,.li,.li,.lu,.lu,.lu,.lu,.lu,.lu,.lu,.lu,.lu,.lu,.lu,.lu]]⟩
def Q214:Sig:=⟨1,[.v 0 true JI.zn],1,[.vf 0 [.li]]⟩
def Q155:Sig:=⟨2,[.bx (.thru (.slot 0 0) 3) [.own .str,.ow (.mp .nd)],.bx (.slot 0 0) [.own .str,.own .str,.own (.pair (.list (.int .i64)) (.pair .nd (.pair (.int .i64) (.int .i64)))),.pt 0 0],.vf 0 [.pt 1 0],.vf 1 [.lt]],1,[.kb 1 [.ar 3 .str,.own .str,.ar 5 (.pair (.list (.int .i64)) (.pair .nd (.pair (.int .i64) (.int .i64)))),.same (.ptr 0 0)],.kb 0 [.ar 0 .str,.ao 1 (.mp .nd)],.vf 0 [.li]]⟩
def Q160:Sig:=⟨2,[.bx (.thru (.slot 0 0) 3) [.own .str,.ow (.mp .nd)],.bx (.slot 0 0) [.own .str,.own .str,.own (.pair (.list (.int .i64)) (.pair .nd (.pair (.int .i64) (.int .i64)))),.pt 0 0],.vf 0 [.pt 1 0],.v 1 true [.sl .str,.li,.lu,.lu,.lu,.lu,.sl .nd,.li,.li,.lt,.lt,.lt,.li]],1,[.kb 1 [.ar 3 .str,.own .str,.own (.pair (.list (.int .i64)) (.pair .nd (.pair (.int .i64) (.int .i64)))),.same (.ptr 0 0)],.kb 0 [.ar 0 .str,.ao 1 (.mp .nd)],.vf 0 [.le]]⟩
def Q230:Sig:=⟨1,[.v 0 true [.sl .str,.sl (.pair .str (.pair .nd (.int .i64))),.sl (.pair (.list .str) (.pair .nd (.pair (.pair .str .str) (.int .i64))))]],3,[.v 0 true [.own .str,.own .str,.own (.pair (.list (.int .i64)) (.pair .nd (.pair (.int .i64) (.int .i64))))],.vf 1 [.li],.vf 2 [.le]]⟩
def Q241:Sig:=⟨1,[.vf 0 [.sl (.int .u8)]],3,[.v 0 true [.own .str,.own .str,.own (.pair (.list (.int .i64)) (.pair .nd (.pair (.int .i64) (.int .i64))))],.vf 1 [.li],.vf 2 [.le]]⟩
theorem h133:HasFn Tryz.prog 133:=hasFn Tryz.func133 rfl rfl
theorem q69(ge N):Ck ge 133 Q69 (fun x=>F_65 N x):=
 mkS ext0 [] nt ((.c (tagR 1) false [.vf 4 [.fo]] .bb .e)) N Tryz.func133 rfl (rv:=[.tmp 4]) J (by decide) J fun x=>by kernel_rfl
theorem h99:HasFn Tryz.prog 99:=hasFn Tryz.func99 rfl rfl
theorem q186(ge N):Ck ge 99 Q186 (fun x=>F_49 N x):=
 mkS ext0 [pr h133 (q69 ge N)] nt (.e) N Tryz.func99 rfl (rv:=[.tmp 4]) J (by decide) J fun x=>by kernel_rfl
theorem h135:HasFn Tryz.prog 135:=hasFn Tryz.func135 rfl rfl
theorem q169(ge N):Ck ge 135 Q169 (u3 (F_22 N)):=
 mkS ext0 [] nt ((.r (.tk 0 10 .done) none [[]] .e)) N Tryz.func135 rfl (rv:=[.tmp 2]) J (by decide) J fun x=>by kernel_rfl
theorem h190:HasFn Tryz.prog 190:=hasFn Tryz.func190 rfl rfl
theorem q68(ge N):Ck ge 190 Q68 (u2 (F_4 N)):=
 mkS ext0 [] nt (.e) N Tryz.func190 rfl (rv:=[.tmp 4]) J (by decide) J fun x=>by kernel_rfl
theorem h167:HasFn Tryz.prog 167:=hasFn Tryz.func167 rfl rfl
theorem q74(ge N):Ck ge 167 Q74 (fun x=>F_1 N x):=
 mkS ext0 [pr h190 (q68 ge N)] nt ((.c (tagR 2) false [.x 0,.vf 1 [.k (.string (⟨#[32]⟩:BA))],.vf 16 [.fo],.vf 5 [.k (.int .i64 1)]] .e .bb)) N Tryz.func167 rfl (rv:=[.tmp 4]) J (by decide) J fun x=>by kernel_rfl
theorem h168:HasFn Tryz.prog 168:=hasFn Tryz.func168 rfl rfl
theorem q76(ge N):Ck ge 168 Q76 (fun x=>F_141 N x):=
 mkS ext0 [pr h167 (q74 ge N)] nt ((.b (.r (.tk 0 12 .done) none [[]] .e) .e)) N Tryz.func168 rfl (rv:=[.tmp 4,.tmp 5,.tmp 6]) J (by decide) J fun x=>by kernel_rfl
theorem h134:HasFn Tryz.prog 134:=hasFn Tryz.func134 rfl rfl
theorem q223(ge N):Ck ge 134 Q223 (fun x=>F_107 N x):=
 mkS ext0 [pr h168 (q76 ge N)] nt (.e) N Tryz.func134 rfl (rv:=[.tmp 4,.tmp 5,.tmp 6]) J (by decide) J fun x=>by kernel_rfl
theorem h100:HasFn Tryz.prog 100:=hasFn Tryz.func100 rfl rfl
theorem q154(ge N):Ck ge 100 Q154 (u3 (F_48 N)):=
 mkS ext0 [pr h134 (q223 ge N),pr h135 (q169 ge N)] nt (.e) N Tryz.func100 rfl (rv:=[.tmp 2]) J (by decide) J fun x=>by kernel_rfl
theorem h104:HasFn Tryz.prog 104:=hasFn Tryz.func104 rfl rfl
theorem q164(ge N):Ck ge 104 Q164 (u4 (F_5 N)):=
 mkS ext0 [] nt ((.c (tagC (.tmp 10)) false [.kh 0 [.ph 0 0,.ph 0 1,.p (.s 1 0),.er 4]] .e .e)) N Tryz.func104 rfl (rv:=[]) J (by decide) J fun x=>by kernel_rfl
theorem q57(ge N):Ck ge 133 Q57 (fun x=>F_142 N x):=
 mkS ext0 [] nt ((.c (tagR 1) false [.vf 4 [.fo]] .bb .e)) N Tryz.func133 rfl (rv:=[.tmp 4]) J (by decide) J fun x=>by kernel_rfl
theorem q117(ge N):Ck ge 99 Q117 (fun x=>F_108 N x):=
 mkS ext0 [pr h133 (q57 ge N)] nt (.e) N Tryz.func99 rfl (rv:=[.tmp 4]) J (by decide) J fun x=>by kernel_rfl
theorem q101(ge N):Ck ge 104 Q101 (u4 (F_100 N)):=
 mkS ext0 [] nt ((.c (tagC (.tmp 10)) false [.kh 0 [.ph 0 0,.ph 0 1,.p (.s 1 0),.er 1]] .e .e)) N Tryz.func104 rfl (rv:=[]) J (by decide) J fun x=>by kernel_rfl
theorem h169:HasFn Tryz.prog 169:=hasFn Tryz.func169 rfl rfl
theorem q100(ge N):Ck ge 169 Q100 (u3 (F_43 N)):=
 mkS ext0 [pr h99 (q117 ge N),pr h104 (q164 ge N),pr h104 (q101 ge N),pr h135 (q169 ge N)] nt ((.r (.tk 0 11 .done) none [[]] (.b (.r (.tk 0 6 (.bar 6 none .done)) (some 6) [[],[]] .e) (.b (.r (.tk 0 6 (.bar 6 none .done)) (some 6) [[],[]] .e) .e)))) N Tryz.func169 rfl (rv:=[.tmp 2]) J (by decide) J fun x=>by kernel_rfl
theorem q109(ge N):Ck ge 135 Q109 (u4 (F_47 N)):=
 mkS ext0 [] nt ((.r (.tk 0 10 .done) none [[]] .e)) N Tryz.func135 rfl (rv:=[.tmp 2]) J (by decide) J fun x=>by kernel_rfl
theorem q85(ge N):Ck ge 100 Q85 (u4 (F_102 N)):=
 mkS ext0 [pr h134 (q223 ge N),pr h135 (q109 ge N)] nt (.e) N Tryz.func100 rfl (rv:=[.tmp 2]) J (by decide) J fun x=>by kernel_rfl
theorem h108:HasFn Tryz.prog 108:=hasFn Tryz.func108 rfl rfl
theorem q233(ge N):Ck ge 108 Q233 (fun x=>F_18 N x):=
 mkS ext0 [] nt ((.c (tagB 0) true [.x 0] (.l [.x 0,.x 6,.vf 7 [.fi]] (.b (.c (tagR 4) false [.x 0,.x 3,.vf 4 [.fo],.x 6,.x 7] .bb (.c (tagR 5) false [.x 0,.vf 37 [.fo],.x 6,.x 7] (.b (.b .e .bb) .e) .bb)) .e)) (.c (tagR 8) false [.vf 2 [.fo]] .bb .e))) N Tryz.func108 rfl (rv:=[.tmp 2]) J (by decide) J fun x=>by kernel_rfl
theorem q95(ge N):Ck ge 104 Q95 (u5 (F_101 N)):=
 mkS ext0 [] nt ((.c (tagC (.tmp 10)) false [.kh 0 [.ph 0 0,.ph 0 1,.fi,.lf .err]] .bb .e)) N Tryz.func104 rfl (rv:=[]) J (by decide) J fun x=>by kernel_rfl
theorem h136:HasFn Tryz.prog 136:=hasFn Tryz.func136 rfl rfl
theorem q167(ge N):Ck ge 136 Q167 (u3 (F_161 N)):=
 mkS ext0 [pr h100 (q85 ge N),pr h104 (q95 ge N),pr h108 (q233 ge N),pr h169 (q100 ge N)] nt ((.b .e (.c (tagC (.tmp 17)) false [.kh 0 [.ph 0 0,.ph 0 1,.fi,.lf .err],.x 4,.x 5] .bb .e))) N Tryz.func136 rfl (rv:=[.tmp 2,.tmp 3]) J (by decide) J fun x=>by kernel_rfl
theorem q83(ge N):Ck ge 104 Q83 (u5 (F_217 N)):=
 mkS ext0 [] nt ((.c (tagC (.tmp 10)) false [.kh 0 [.ph 0 0,.ph 0 1,.fi,.lf .err]] .bb .e)) N Tryz.func104 rfl (rv:=[]) J (by decide) J fun x=>by kernel_rfl
theorem h137:HasFn Tryz.prog 137:=hasFn Tryz.func137 rfl rfl
theorem q161(ge N):Ck ge 137 Q161 (u4 (F_162 N)):=
 mkS ext0 [pr h104 (q83 ge N)] nt ((.c (tagR 0) false [.kh 0 [.ph 0 0,.ph 0 1,.ph 0 2,.ph 0 3],.vf 0 [.q (.h 0) 0],.vf 18 [.fo]] (.r (.tk 0 17 .done) none [[]] .bb) (.c (tagC (.tmp 18)) false [.kh 0 [.ph 0 0,.ph 0 1,.fi,.lf .err]] (.b (.r (.tk 0 6 (.bar 6 none .done)) (some 6) [[],[]] .e) .e) .e))) N Tryz.func137 rfl (rv:=[]) J (by decide) J fun x=>by kernel_rfl
theorem h54:HasFn Tryz.prog 54:=hasFn Tryz.func54 rfl rfl
theorem q73(ge N):Ck ge 54 Q73 (u2 (F_23 N)):=
 mkS ext0 [] nt ((.c (tagB 0) true [] (.l [.x 0,.x 1,.x 7,.vf 8 [.fi]] (.b .bb .e)) .e)) N Tryz.func54 rfl (rv:=[.tmp 4]) J (by decide) J fun x=>by kernel_rfl
theorem h139:HasFn Tryz.prog 139:=hasFn Tryz.func139 rfl rfl
theorem q71(ge N):Ck ge 139 Q71 (u2 (F_45 N)):=
 mkS ext0 [pr h54 (q73 ge N)] nt (.e) N Tryz.func139 rfl (rv:=[.tmp 4]) J (by decide) J fun x=>by kernel_rfl
theorem q102(ge N):Ck ge 104 Q102 (u5 (F_84 N)):=
 mkS ext0 [] nt ((.c (tagC (.tmp 10)) false [.kh 0 [.ph 0 0,.ph 0 1,.fi,.lf .err]] .bb .e)) N Tryz.func104 rfl (rv:=[]) J (by decide) J fun x=>by kernel_rfl
theorem q84(ge N):Ck ge 104 Q84 (u5 (F_158 N)):=
 mkS ext0 [] nt ((.c (tagC (.tmp 10)) false [.kh 0 [.ph 0 0,.ph 0 1,.fi,.lf .err]] .bb .e)) N Tryz.func104 rfl (rv:=[]) J (by decide) J fun x=>by kernel_rfl
theorem h138:HasFn Tryz.prog 138:=hasFn Tryz.func138 rfl rfl
theorem q143(ge N):Ck ge 138 Q143 (u8 (F_85 N)):=
 mkS ext0 [pr h104 (q102 ge N),pr h104 (q84 ge N)] nt ((.c (tagB 0) false [.kh 0 [.ph 0 0,.ph 0 1,.fi,.lf .err],.vf 0 [.q (.h 0) 0]] (.c (tagC (.tmp 11)) false [.kh 0 [.ph 0 0,.ph 0 1,.fi,.lf .err],.vf 0 [.q (.h 0) 0]] (.b .e (.c (tagC (.tmp 17)) false [.kh 0 [.ph 0 0,.ph 0 1,.fi,.lf .err],.vf 0 [.q (.h 0) 0]] (.b .e (.c (tagC (.tmp 23)) false [.kh 0 [.ph 0 0,.ph 0 1,.fi,.lf .err],.vf 0 [.q (.h 0) 0]] .bb .e)) .e)) .e) .e)) N Tryz.func138 rfl (rv:=[.tmp 10]) J (by decide) J fun x=>by kernel_rfl
theorem h101:HasFn Tryz.prog 101:=hasFn Tryz.func101 rfl rfl
theorem q158(ge N):Ck ge 101 Q158 (u6 (F_213 N)):=
 mkS ext0 [pr h136 (q167 ge N),pr h137 (q161 ge N),pr h138 (q143 ge N),pr h139 (q71 ge N)] (fun t=>match t with|9=>some .str|_=>none) ((.r (.tk 0 7 (.tk 8 5 (.one 7 (.bar 13 none .done)))) (some 13) [[],[]] (.c (tagC (.tmp 26)) false [.keep (.b (.h 0) 1),.keep (.b (.h 0) 2),.kh 0 [.own .str,.ph 0 1,.ph 0 2],.kh 1 [.ph 1 0,.ph 1 1,.ph 1 2,.ph 1 3]] .bb .e))) N Tryz.func101 rfl (rv:=[]) J (by decide) J fun x=>by kernel_rfl
theorem q93(ge N):Ck ge 104 Q93 (u5 (F_159 N)):=
 mkS ext0 [] nt ((.c (tagC (.tmp 10)) false [.kh 0 [.ph 0 0,.ph 0 1,.fi,.lf .err]] .bb .e)) N Tryz.func104 rfl (rv:=[]) J (by decide) J fun x=>by kernel_rfl
theorem q97(ge N):Ck ge 104 Q97 (u5 (F_160 N)):=
 mkS ext0 [] nt ((.c (tagC (.tmp 10)) false [.kh 0 [.ph 0 0,.ph 0 1,.fi,.lf .err]] .bb .e)) N Tryz.func104 rfl (rv:=[]) J (by decide) J fun x=>by kernel_rfl
theorem q79(ge N):Ck ge 169 Q79 (u4 (F_156 N)):=
 mkS ext0 [pr h99 (q117 ge N),pr h104 (q93 ge N),pr h104 (q97 ge N),pr h135 (q109 ge N)] nt ((.b .e (.r (.tk 0 11 .done) none [[]] (.b (.r (.tk 0 6 (.bar 6 none .done)) (some 6) [[],[]] .e) (.b (.r (.tk 0 6 (.bar 6 none .done)) (some 6) [[],[]] .e) .e))))) N Tryz.func169 rfl (rv:=[.tmp 2]) J (by decide) J fun x=>by kernel_rfl
theorem h170:HasFn Tryz.prog 170:=hasFn Tryz.func170 rfl rfl
theorem q196(ge N):Ck ge 170 Q196 (fun x=>F_99 N x):=
 mkS ext0 [] nt ((.c (tagB 0) true [] (.l [.x 0,.vf 3 [.fi]] (.b (.c (tagB 1) true [.x 0,.vf 3 [.fi]] (.c (tagB 2) true [.x 0,.vf 3 [.fi]] (.c (tagC (.tmp 13)) true [.x 0,.vf 3 [.fi]] (.b .e .bb) .e) .e) .e) .e)) .e)) N Tryz.func170 rfl (rv:=[.tmp 2]) J (by decide) J fun x=>by kernel_rfl
theorem h195:HasFn Tryz.prog 195:=hasFn Tryz.func195 rfl rfl
theorem q192(ge N):Ck ge 195 Q192 (u3 (F_21 N)):=
 mkS ext0 [] nt ((.c (tagR 1) false [.kh 0 [.ph 0 0,.ph 0 1,.ph 0 2],.vf 2 [.fo]] (.r (.tk 0 18 .done) none [[]] .bb) .e)) N Tryz.func195 rfl (rv:=[.tmp 2]) J (by decide) J fun x=>by kernel_rfl
theorem q52(ge N):Ck ge 190 Q52 (fun x=>F_16 N x):=
 mkS ext0 [] nt (.e) N Tryz.func190 rfl (rv:=[.tmp 4]) J (by decide) J fun x=>by kernel_rfl
theorem h248:HasFn Tryz.prog 248:=hasFn Tryz.func248 rfl rfl
theorem q189(ge N):Ck ge 248 Q189 (fun x=>F_6 N x):=
 mkS ext0 [pr h190 (q52 ge N)] nt (.e) N Tryz.func248 rfl (rv:=[.tmp 4]) J (by decide) J fun x=>by kernel_rfl
theorem h242:HasFn Tryz.prog 242:=hasFn Tryz.func242 rfl rfl
theorem q199(ge N):Ck ge 242 Q199 (u3 (F_3 N)):=
 mkS ext0 [pr h195 (q192 ge N),pr h248 (q189 ge N)] nt ((.c (tagR 1) false [.kh 0 [.ph 0 0,.ph 0 1,.ph 0 2],.vf 4 [.fo]] Pl.ro .e)) N Tryz.func242 rfl (rv:=[.tmp 4]) J (by decide) J fun x=>by kernel_rfl
theorem q66(ge N):Ck ge 190 Q66 (fun x=>F_258 N x):=
 mkS ext0 [] nt (.e) N Tryz.func190 rfl (rv:=[.tmp 4]) J (by decide) J fun x=>by kernel_rfl
theorem q139(ge N):Ck ge 248 Q139 (fun x=>F_15 N x):=
 mkS ext0 [pr h190 (q66 ge N)] nt (.e) N Tryz.func248 rfl (rv:=[.tmp 4]) J (by decide) J fun x=>by kernel_rfl
theorem q184(ge N):Ck ge 242 Q184 (u3 (F_17 N)):=
 mkS ext0 [pr h195 (q192 ge N),pr h248 (q139 ge N)] nt ((.c (tagR 1) false [.kh 0 [.ph 0 0,.ph 0 1,.ph 0 2],.vf 4 [.fo]] Pl.ro .e)) N Tryz.func242 rfl (rv:=[.tmp 4]) J (by decide) J fun x=>by kernel_rfl
theorem h226:HasFn Tryz.prog 226:=hasFn Tryz.func226 rfl rfl
theorem q176(ge N):Ck ge 226 Q176 (u3 (F_9 N)):=
 mkS ext0 [pr h242 (q184 ge N)] nt (.bb) N Tryz.func226 rfl (rv:=[.tmp 4]) J (by decide) J fun x=>by kernel_rfl
theorem q64(ge N):Ck ge 190 Q64 (fun x=>F_259 N x):=
 mkS ext0 [] nt (.e) N Tryz.func190 rfl (rv:=[.tmp 4]) J (by decide) J fun x=>by kernel_rfl
theorem q141(ge N):Ck ge 248 Q141 (fun x=>F_280 N x):=
 mkS ext0 [pr h190 (q64 ge N)] nt (.e) N Tryz.func248 rfl (rv:=[.tmp 4]) J (by decide) J fun x=>by kernel_rfl
theorem q171(ge N):Ck ge 242 Q171 (u3 (F_199 N)):=
 mkS ext0 [pr h195 (q192 ge N),pr h248 (q141 ge N)] nt ((.c (tagR 1) false [.kh 0 [.ph 0 0,.ph 0 1,.ph 0 2],.vf 4 [.fo]] Pl.ro .e)) N Tryz.func242 rfl (rv:=[.tmp 4]) J (by decide) J fun x=>by kernel_rfl
theorem h264:HasFn Tryz.prog 264:=hasFn Tryz.func264 rfl rfl
theorem q115(ge N):Ck ge 264 Q115 (u2 (F_115 N)):=
 mkS ext0 [] nt ((.c (tagR 1) false [.kh 0 [.ph 0 0,.ph 0 1],.vf 2 [.fo]] (.r (.tk 0 18 .done) none [[]] .bb) .e)) N Tryz.func264 rfl (rv:=[.tmp 2]) J (by decide) J fun x=>by kernel_rfl
theorem h268:HasFn Tryz.prog 268:=hasFn Tryz.func268 rfl rfl
theorem q110(ge N):Ck ge 268 Q110 (u2 (F_137 N)):=
 mkS ext0 [] nt ((.c (tagR 1) false [.kh 0 [.ph 0 0,.ph 0 1],.vf 0 [.q (.h 0) 0],.vf 19 [.fo]] (.r (.tk 0 17 .done) none [[]] .bb) (.b .e (.r (.tk 0 10 .done) none [[]] .e)))) N Tryz.func268 rfl (rv:=[.tmp 2]) J (by decide) J fun x=>by kernel_rfl
theorem h265:HasFn Tryz.prog 265:=hasFn Tryz.func265 rfl rfl
theorem q112(ge N):Ck ge 265 Q112 (u3 (F_92 N)):=
 mkS ext0 [pr h264 (q115 ge N),pr h268 (q110 ge N)] nt ((.c (tagR 1) false [.kh 0 [.ph 0 0,.ph 0 1],.vf 0 [.q (.h 0) 0],.vf 12 [.fo]] .bb .bb)) N Tryz.func265 rfl (rv:=[.tmp 4]) J (by decide) J fun x=>by kernel_rfl
theorem q56(ge N):Ck ge 190 Q56 (fun x=>F_231 N x):=
 mkS ext0 [] nt (.e) N Tryz.func190 rfl (rv:=[.tmp 4]) J (by decide) J fun x=>by kernel_rfl
theorem q135(ge N):Ck ge 248 Q135 (fun x=>F_242 N x):=
 mkS ext0 [pr h190 (q56 ge N)] nt (.e) N Tryz.func248 rfl (rv:=[.tmp 4]) J (by decide) J fun x=>by kernel_rfl
theorem q59(ge N):Ck ge 190 Q59 (fun x=>F_232 N x):=
 mkS ext0 [] nt (.e) N Tryz.func190 rfl (rv:=[.tmp 4]) J (by decide) J fun x=>by kernel_rfl
theorem q147(ge N):Ck ge 248 Q147 (fun x=>F_243 N x):=
 mkS ext0 [pr h190 (q59 ge N)] nt (.e) N Tryz.func248 rfl (rv:=[.tmp 4]) J (by decide) J fun x=>by kernel_rfl
theorem q58(ge N):Ck ge 190 Q58 (fun x=>F_233 N x):=
 mkS ext0 [] nt (.e) N Tryz.func190 rfl (rv:=[.tmp 4]) J (by decide) J fun x=>by kernel_rfl
theorem q149(ge N):Ck ge 248 Q149 (fun x=>F_244 N x):=
 mkS ext0 [pr h190 (q58 ge N)] nt (.e) N Tryz.func248 rfl (rv:=[.tmp 4]) J (by decide) J fun x=>by kernel_rfl
theorem h267:HasFn Tryz.prog 267:=hasFn Tryz.func267 rfl rfl
theorem q213(ge N):Ck ge 267 Q213 (fun x=>F_223 N x):=
 mkS ext0 [pr h248 (q149 ge N)] nt ((.c (tagR 1) false [.x 0,.vf 10 [.fo]] .bb (.c (tagC (.tmp 10)) false [.vf 0 [.lf (.int .u8)]] .bb .e))) N Tryz.func267 rfl (rv:=[.tmp 2,.tmp 3]) J (by decide) J fun x=>by kernel_rfl
theorem h262:HasFn Tryz.prog 262:=hasFn Tryz.func262 rfl rfl
theorem q239(ge N):Ck ge 262 Q239 (u2 (F_106 N)):=
 mkS ext0 [pr h267 (q213 ge N)] nt ((.c (tagB 0) true [.vf 1 [.fi],.vf 7 [.fi]] (.l [.x 0,.vf 1 [.fi],.vf 10 [.fi],.vf 7 [.fi]] (.b (.b (.r (.tk 0 5 .done) none [[]] .e) (.b (.r (.tk 0 5 .done) none [[]] .e) .e)) .e)) .e)) N Tryz.func262 rfl (rv:=[.tmp 4,.tmp 5,.tmp 6]) J (by decide) J fun x=>by kernel_rfl
theorem h263:HasFn Tryz.prog 263:=hasFn Tryz.func263 rfl rfl
theorem q237(ge N):Ck ge 263 Q237 (fun x=>F_224 N x):=
 mkS ext0 [] nt ((.c (tagR 1) false [.x 0,.vf 3 [.fo]] (.b (.b .e (.b (.b .e .bb) .bb)) (.b (.b .e .bb) .bb)) (.c (tagR 2) false [.vf 2 [.fo]] (.b .bb .e) .e))) N Tryz.func263 rfl (rv:=[.tmp 2]) J (by decide) J fun x=>by kernel_rfl
theorem h258:HasFn Tryz.prog 258:=hasFn Tryz.func258 rfl rfl
theorem q242(ge N):Ck ge 258 Q242 (u2 (F_170 N)):=
 mkS ext0 [pr h248 (q147 ge N),pr h262 (q239 ge N),pr h263 (q237 ge N)] nt ((.c (tagR 1) false [.x 0,.x 1,.vf 9 [.fo]] .bb (.b (.r (.tk 0 6 .done) none [[]] .e) (.b .e (.b (.r (.tk 0 6 .done) none [[]] .e) (.b .e (.b .e (.b .e (.r (.tk 0 6 .done) none [[]] .e))))))))) N Tryz.func258 rfl (rv:=[.tmp 4,.tmp 5,.tmp 6]) J (by decide) J fun x=>by kernel_rfl
theorem h269:HasFn Tryz.prog 269:=hasFn Tryz.func269 rfl rfl
theorem q142(ge N):Ck ge 269 Q142 (u2 (F_138 N)):=
 mkS ext0 [pr h248 (q135 ge N),pr h258 (q242 ge N),pr h264 (q115 ge N),pr h268 (q110 ge N)] nt ((.c (tagR 1) false [.kh 0 [.ph 0 0,.ph 0 1],.vf 0 [.q (.h 0) 0],.vf 15 [.fo]] .bb (.b (.r (.tk 0 3 .done) none [[]] .e) (.r (.tk 0 8 (.bar 8 none (.tk 9 7 .done))) (some 8) [[],[]] .e)))) N Tryz.func269 rfl (rv:=[.tmp 2,.tmp 3]) J (by decide) J fun x=>by kernel_rfl
theorem h30:HasFn Tryz.prog 30:=hasFn Tryz.func30 rfl rfl
theorem q253(ge N):Ck ge 30 Q253 (fun x=>F_129 N x):=
 mkS ext0 [] nt (.e) N Tryz.func30 rfl (rv:=[.cell 2 83]) J (by decide) J fun x=>by kernel_rfl
theorem h271:HasFn Tryz.prog 271:=hasFn Tryz.func271 rfl rfl
theorem q243(ge N):Ck ge 271 Q243 (fun x=>F_165 N x):=
 mkS ext0 [] nt (.bb) N Tryz.func271 rfl (rv:=[.tmp 2]) J (by decide) J fun x=>by kernel_rfl
theorem h270:HasFn Tryz.prog 270:=hasFn Tryz.func270 rfl rfl
theorem q250(ge N):Ck ge 270 Q250 (u2 (F_104 N)):=
 mkS ext0 [pr h271 (q243 ge N)] nt ((.b .e (.c (tagB 0) false [.kb (.s 4 0) [.ku,.ku,.ku,.ku],.y 4 4 0 0,.kb (.s 5 0) [.fu,.fu,.fu,.fu],.y 5 5 0 0] (.l [.x 0,.x 1,.vf 11 [.fi],.kb (.s 4 0) [.ku,.ku,.ku,.ku],.y 4 4 0 0,.kb (.s 5 0) [.fu,.fu,.fu,.fu],.y 5 5 0 0] .bb) .e))) N Tryz.func270 rfl (rv:=[.cell 4 83]) J (by decide) J fun x=>by kernel_rfl
theorem h266:HasFn Tryz.prog 266:=hasFn Tryz.func266 rfl rfl
theorem q90(ge N):Ck ge 266 Q90 (u2 (F_177 N)):=
 mkS ext0 [pr h30 (q253 ge N),pr h265 (q112 ge N),pr h269 (q142 ge N),pr h270 (q250 ge N)] nt ((.c (tagR 2) false [.kh 0 [.ph 0 0,.fi],.vf 0 [.q (.h 0) 0],.kb (.s 2 0) [.ku,.ku,.ku,.ku],.y 2 2 0 0,.vf 20 [.fo],.x 4,.x 5] .bb (.b .e (.b .e (.b (.c (tagR 10) false [.kh 0 [.ph 0 0,.ph 0 1],.kb (.s 2 0) [.ku,.ku,.ku,.ku],.y 2 2 0 0,.vf 3 [.er 3]] (.r (.take 0 (.take 1 (.one 2 (.take 3 .done)))) none [[]] .e) .e) .e))))) N Tryz.func266 rfl (rv:=[.cell 2 83,.tmp 3]) J (by decide) J fun x=>by kernel_rfl
theorem h178:HasFn Tryz.prog 178:=hasFn Tryz.func178 rfl rfl
theorem q220(ge N):Ck ge 178 Q220 (u8 (F_20 N)):=
 mkS ext0 [] nt ((.c (tagB 0) false [.kb (.s 2 0) [.fu,.fu,.fu,.fu],.y 2 2 0 0,.kb (.s 4 0) [.ku,.ku,.ku,.ku],.y 4 4 0 0] (.l [.kb (.s 2 0) [.fu,.fu,.fu,.fu],.y 2 2 0 0,.kb (.s 3 0) [.ps 3 0 0,.ps 3 0 1,.ps 3 0 2,.ps 3 0 3],.y 3 3 0 0,.kb (.s 4 0) [.ku,.ku,.ku,.ku],.y 4 4 0 0,.vf 6 [.fi]] (.b (.c (tagR 4) false [.kb (.s 2 0) [.fu,.fu,.fu,.fu],.y 2 2 0 0,.kb (.s 3 0) [.ps 3 0 0,.ps 3 0 1,.ps 3 0 2,.ps 3 0 3],.y 3 3 0 0,.kb (.s 4 0) [.ku,.ku,.ku,.ku],.y 4 4 0 0,.x 6] (.r (.tk 0 8 (.bar 8 none .done)) (some 8) [[],[]] .e) .e) .e)) .e)) N Tryz.func178 rfl (rv:=[.cell 4 83]) J (by decide) J fun x=>by kernel_rfl
theorem h261:HasFn Tryz.prog 261:=hasFn Tryz.func261 rfl rfl
theorem q216(ge N):Ck ge 261 Q216 (u4 (F_86 N)):=
 mkS ext0 [] nt ((.c (tagB 0) false [.kb (.s 1 0) [.fu,.fu,.fu,.fu],.y 1 1 0 0,.kb (.s 2 0) [.ku,.ku,.ku,.ku],.y 2 2 0 0] (.l [.kb (.s 1 0) [.fu,.fu,.fu,.fu],.y 1 1 0 0,.kb (.s 2 0) [.ku,.ku,.ku,.ku],.y 2 2 0 0,.vf 4 [.fi]] .bb) .e)) N Tryz.func261 rfl (rv:=[.cell 2 83]) J (by decide) J fun x=>by kernel_rfl
theorem h260:HasFn Tryz.prog 260:=hasFn Tryz.func260 rfl rfl
theorem q77(ge N):Ck ge 260 Q77 (u2 (F_114 N)):=
 mkS ext0 [pr h178 (q220 ge N),pr h261 (q216 ge N),pr h264 (q115 ge N),pr h265 (q112 ge N),pr h266 (q90 ge N)] nt ((.b (.c (tagR 3) false [.kh 0 [.ph 0 0,.ph 0 1],.kb (.s 2 0) [.ku,.ku,.ku,.ku],.y 2 2 0 0,.vf 3 [.er 4]] (.r (.take 0 (.take 1 (.one 2 (.take 3 .done)))) none [[]] .e) .e) (.b (.c (tagR 5) false [.kh 0 [.ph 0 0,.ph 0 1],.kb (.s 2 0) [.ku,.ku,.ku,.ku],.y 2 2 0 0,.vf 3 [.er 1]] (.r (.take 0 (.take 1 (.one 2 (.take 3 .done)))) none [[]] .e) .e) (.c (tagB 0) true [.kh 0 [.ph 0 0,.fi],.kb (.s 2 0) [.ku,.ku,.ku,.ku],.y 2 2 0 0,.x 4,.kb (.s 5 0) [.fu,.fu,.fu,.fu],.y 5 5 0 0] (.l [.kh 0 [.ph 0 0,.fi],.vf 0 [.q (.h 0) 0],.kb (.s 2 0) [.ku,.ku,.ku,.ku],.y 2 2 0 0,.x 4,.kb (.s 5 0) [.fu,.fu,.fu,.fu],.y 5 5 0 0,.vf 6 [.fo]] (.c (tagR 9) false [.kh 0 [.ph 0 0,.fi],.vf 0 [.q (.h 0) 0],.kb (.s 2 0) [.ku,.ku,.ku,.ku],.y 2 2 0 0,.vf 33 [.fo],.x 4,.kb (.s 5 0) [.ps 5 0 0,.ps 5 0 1,.ps 5 0 2,.ps 5 0 3],.y 5 5 0 0] .bb (.b .bb .e))) (.c (tagC (.tmp 46)) false [.kh 0 [.ph 0 0,.ph 0 1],.kb (.s 2 0) [.ku,.ku,.ku,.ku],.y 2 2 0 0,.kb (.s 5 0) [.fu,.fu,.fu,.fu],.y 5 5 0 0] .bb .e))))) N Tryz.func260 rfl (rv:=[.cell 2 83,.tmp 3]) J (by decide) J fun x=>by kernel_rfl
theorem h254:HasFn Tryz.prog 254:=hasFn Tryz.func254 rfl rfl
theorem q209(ge N):Ck ge 254 Q209 (u2 (F_176 N)):=
 mkS ext0 [pr h260 (q77 ge N)] nt ((.c (tagR 3) false [.kb (.s 4 0) [.ps 8 0 0,.ps 8 0 1,.ps 8 0 2,.ps 8 0 3],.y 4 4 0 0,.vf 5 [.ps 7 0 1],.w 6 9 0] (.r (.tk 0 6 (.one 6 (.take 7 (.take 8 .done)))) none [[(.s 4 0)]] .e) .e)) N Tryz.func254 rfl (rv:=[.cell 4 83,.tmp 5,.tmp 6]) J (by decide) J fun x=>by kernel_rfl
theorem h196:HasFn Tryz.prog 196:=hasFn Tryz.func196 rfl rfl
theorem q187(ge N):Ck ge 196 Q187 (u5 (F_10 N)):=
 mkS ext0 [] nt ((.c (tagC (.tmp 10)) false [.kh 0 [.ph 0 0,.fi,.lf .err]] .bb .e)) N Tryz.func196 rfl (rv:=[]) J (by decide) J fun x=>by kernel_rfl
theorem h255:HasFn Tryz.prog 255:=hasFn Tryz.func255 rfl rfl
theorem q224(ge N):Ck ge 255 Q224 (u4 (F_186 N)):=
 mkS ext0 [] nt (.e) N Tryz.func255 rfl (rv:=[.cell 2 97]) J (by decide) J fun x=>by kernel_rfl
theorem q54(ge N):Ck ge 190 Q54 (fun x=>F_260 N x):=
 mkS ext0 [] nt (.e) N Tryz.func190 rfl (rv:=[.tmp 4]) J (by decide) J fun x=>by kernel_rfl
theorem q136(ge N):Ck ge 248 Q136 (fun x=>F_281 N x):=
 mkS ext0 [pr h190 (q54 ge N)] nt (.e) N Tryz.func248 rfl (rv:=[.tmp 4]) J (by decide) J fun x=>by kernel_rfl
theorem q188(ge N):Ck ge 242 Q188 (u3 (F_153 N)):=
 mkS ext0 [pr h195 (q192 ge N),pr h248 (q136 ge N)] nt ((.c (tagR 1) false [.kh 0 [.ph 0 0,.ph 0 1,.ph 0 2],.vf 4 [.fo]] Pl.ro .e)) N Tryz.func242 rfl (rv:=[.tmp 4]) J (by decide) J fun x=>by kernel_rfl
theorem q150(ge N):Ck ge 248 Q150 (u2 (F_245 N)):=
 mkS ext0 [pr h190 (q68 ge N)] nt (.e) N Tryz.func248 rfl (rv:=[.tmp 4]) J (by decide) J fun x=>by kernel_rfl
theorem q127(ge N):Ck ge 196 Q127 (u4 (F_120 N)):=
 mkS ext0 [] nt ((.c (tagC (.tmp 10)) false [.kh 0 [.ph 0 0,.fi,.lf .err]] .bb .e)) N Tryz.func196 rfl (rv:=[]) J (by decide) J fun x=>by kernel_rfl
theorem q134(ge N):Ck ge 196 Q134 (u4 (F_191 N)):=
 mkS ext0 [] nt ((.c (tagC (.tmp 10)) false [.kh 0 [.ph 0 0,.fi,.lf .err]] .bb .e)) N Tryz.func196 rfl (rv:=[]) J (by decide) J fun x=>by kernel_rfl
theorem h256:HasFn Tryz.prog 256:=hasFn Tryz.func256 rfl rfl
theorem q190(ge N):Ck ge 256 Q190 (u3 (F_194 N)):=
 mkS ext0 [pr h108 (q233 ge N),pr h196 (q127 ge N),pr h196 (q134 ge N),pr h248 (q150 ge N)] nt ((.b (.r (.tk 0 7 (.bar 7 none .done)) (some 7) [[],[]] .e) .bb)) N Tryz.func256 rfl (rv:=[.cell 2 97]) J (by decide) J fun x=>by kernel_rfl
theorem q62(ge N):Ck ge 190 Q62 (fun x=>F_261 N x):=
 mkS ext0 [] nt (.e) N Tryz.func190 rfl (rv:=[.tmp 4]) J (by decide) J fun x=>by kernel_rfl
theorem q133(ge N):Ck ge 248 Q133 (fun x=>F_282 N x):=
 mkS ext0 [pr h190 (q62 ge N)] nt (.e) N Tryz.func248 rfl (rv:=[.tmp 4]) J (by decide) J fun x=>by kernel_rfl
theorem q185(ge N):Ck ge 242 Q185 (u3 (F_200 N)):=
 mkS ext0 [pr h195 (q192 ge N),pr h248 (q133 ge N)] nt ((.c (tagR 1) false [.kh 0 [.ph 0 0,.ph 0 1,.ph 0 2],.vf 4 [.fo]] Pl.ro .e)) N Tryz.func242 rfl (rv:=[.tmp 4]) J (by decide) J fun x=>by kernel_rfl
theorem q121(ge N):Ck ge 226 Q121 (u3 (F_205 N)):=
 mkS ext0 [pr h242 (q185 ge N)] nt (.bb) N Tryz.func226 rfl (rv:=[.tmp 4]) J (by decide) J fun x=>by kernel_rfl
theorem h257:HasFn Tryz.prog 257:=hasFn Tryz.func257 rfl rfl
theorem q217(ge N):Ck ge 257 Q217 (fun x=>F_229 N):=
 mkS ext0 [pr h30 (q253 ge N),pr h261 (q216 ge N)] nt (.e) N Tryz.func257 rfl (rv:=[.cell 0 83]) J (by decide) J fun x=>by kernel_rfl
theorem q67(ge N):Ck ge 190 Q67 (fun x=>F_262 N x):=
 mkS ext0 [] nt (.e) N Tryz.func190 rfl (rv:=[.tmp 4]) J (by decide) J fun x=>by kernel_rfl
theorem q140(ge N):Ck ge 248 Q140 (fun x=>F_283 N x):=
 mkS ext0 [pr h190 (q67 ge N)] nt (.e) N Tryz.func248 rfl (rv:=[.tmp 4]) J (by decide) J fun x=>by kernel_rfl
theorem q174(ge N):Ck ge 242 Q174 (u3 (F_201 N)):=
 mkS ext0 [pr h195 (q192 ge N),pr h248 (q140 ge N)] nt ((.c (tagR 1) false [.kh 0 [.ph 0 0,.ph 0 1,.ph 0 2],.vf 4 [.fo]] Pl.ro .e)) N Tryz.func242 rfl (rv:=[.tmp 4]) J (by decide) J fun x=>by kernel_rfl
theorem q138(ge N):Ck ge 196 Q138 (u4 (F_121 N)):=
 mkS ext0 [] nt ((.c (tagC (.tmp 10)) false [.kh 0 [.ph 0 0,.fi,.lf .err]] .bb .e)) N Tryz.func196 rfl (rv:=[]) J (by decide) J fun x=>by kernel_rfl
theorem q47(ge N):Ck ge 190 Q47 (fun x=>F_250 N x):=
 mkS ext0 [] nt (.e) N Tryz.func190 rfl (rv:=[.tmp 4]) J (by decide) J fun x=>by kernel_rfl
theorem q106(ge N):Ck ge 248 Q106 (fun x=>F_273 N x):=
 mkS ext0 [pr h190 (q47 ge N)] nt (.e) N Tryz.func248 rfl (rv:=[.tmp 4]) J (by decide) J fun x=>by kernel_rfl
theorem q191(ge N):Ck ge 242 Q191 (u3 (F_202 N)):=
 mkS ext0 [pr h195 (q192 ge N),pr h248 (q106 ge N)] nt ((.c (tagR 1) false [.kh 0 [.ph 0 0,.ph 0 1,.ph 0 2],.vf 4 [.fo]] Pl.ro .e)) N Tryz.func242 rfl (rv:=[.tmp 4]) J (by decide) J fun x=>by kernel_rfl
theorem q119(ge N):Ck ge 226 Q119 (u3 (F_206 N)):=
 mkS ext0 [pr h242 (q191 ge N)] nt (.bb) N Tryz.func226 rfl (rv:=[.tmp 4]) J (by decide) J fun x=>by kernel_rfl
theorem q30(ge N):Ck ge 190 Q30 (fun x=>F_251 N x):=
 mkS ext0 [] nt (.e) N Tryz.func190 rfl (rv:=[.tmp 4]) J (by decide) J fun x=>by kernel_rfl
theorem q103(ge N):Ck ge 248 Q103 (fun x=>F_274 N x):=
 mkS ext0 [pr h190 (q30 ge N)] nt (.e) N Tryz.func248 rfl (rv:=[.tmp 4]) J (by decide) J fun x=>by kernel_rfl
theorem q173(ge N):Ck ge 242 Q173 (u3 (F_203 N)):=
 mkS ext0 [pr h195 (q192 ge N),pr h248 (q103 ge N)] nt ((.c (tagR 1) false [.kh 0 [.ph 0 0,.ph 0 1,.ph 0 2],.vf 4 [.fo]] Pl.ro .e)) N Tryz.func242 rfl (rv:=[.tmp 4]) J (by decide) J fun x=>by kernel_rfl
theorem q148(ge N):Ck ge 226 Q148 (u3 (F_207 N)):=
 mkS ext0 [pr h242 (q173 ge N)] nt (.bb) N Tryz.func226 rfl (rv:=[.tmp 4]) J (by decide) J fun x=>by kernel_rfl
theorem q33(ge N):Ck ge 190 Q33 (fun x=>F_252 N x):=
 mkS ext0 [] nt (.e) N Tryz.func190 rfl (rv:=[.tmp 4]) J (by decide) J fun x=>by kernel_rfl
theorem q105(ge N):Ck ge 248 Q105 (fun x=>F_275 N x):=
 mkS ext0 [pr h190 (q33 ge N)] nt (.e) N Tryz.func248 rfl (rv:=[.tmp 4]) J (by decide) J fun x=>by kernel_rfl
theorem q177(ge N):Ck ge 242 Q177 (u3 (F_204 N)):=
 mkS ext0 [pr h195 (q192 ge N),pr h248 (q105 ge N)] nt ((.c (tagR 1) false [.kh 0 [.ph 0 0,.ph 0 1,.ph 0 2],.vf 4 [.fo]] Pl.ro .e)) N Tryz.func242 rfl (rv:=[.tmp 4]) J (by decide) J fun x=>by kernel_rfl
theorem q130(ge N):Ck ge 226 Q130 (u3 (F_208 N)):=
 mkS ext0 [pr h242 (q177 ge N)] nt (.bb) N Tryz.func226 rfl (rv:=[.tmp 4]) J (by decide) J fun x=>by kernel_rfl
theorem q48(ge N):Ck ge 190 Q48 (fun x=>F_253 N x):=
 mkS ext0 [] nt (.e) N Tryz.func190 rfl (rv:=[.tmp 4]) J (by decide) J fun x=>by kernel_rfl
theorem q111(ge N):Ck ge 248 Q111 (fun x=>F_241 N x):=
 mkS ext0 [pr h190 (q48 ge N)] nt (.e) N Tryz.func248 rfl (rv:=[.tmp 4]) J (by decide) J fun x=>by kernel_rfl
theorem h250:HasFn Tryz.prog 250:=hasFn Tryz.func250 rfl rfl
theorem q96(ge N):Ck ge 250 Q96 (u3 (F_189 N)):=
 mkS ext0 [pr h242 (q188 ge N),pr h248 (q111 ge N)] nt ((.c (tagR 1) false [.kh 0 [.ph 0 0,.ph 0 1,.ph 0 2],.vf 2 [.fo]] (.r (.take 0 (.bar 1 (some 26) (.tk 2 24 (.bar 26 none (.tk 27 3 .done))))) (some 1) [[],[],[]] (.b .bb .e)) .e)) N Tryz.func250 rfl (rv:=[.tmp 2]) J (by decide) J fun x=>by kernel_rfl
theorem q179(ge N):Ck ge 242 Q179 (u3 (F_154 N)):=
 mkS ext0 [pr h195 (q192 ge N),pr h248 (q111 ge N)] nt ((.c (tagR 1) false [.kh 0 [.ph 0 0,.ph 0 1,.ph 0 2],.vf 4 [.fo]] Pl.ro .e)) N Tryz.func242 rfl (rv:=[.tmp 4]) J (by decide) J fun x=>by kernel_rfl
theorem q144(ge N):Ck ge 196 Q144 (u4 (F_122 N)):=
 mkS ext0 [] nt ((.c (tagC (.tmp 10)) false [.kh 0 [.ph 0 0,.fi,.lf .err]] .bb .e)) N Tryz.func196 rfl (rv:=[]) J (by decide) J fun x=>by kernel_rfl
theorem h259:HasFn Tryz.prog 259:=hasFn Tryz.func259 rfl rfl
theorem q137(ge N):Ck ge 259 Q137 (u3 (F_82 N)):=
 mkS ext0 [pr h196 (q144 ge N),pr h242 (q179 ge N)] nt ((.c (tagB 0) true [.kh 0 [.ph 0 0,.fi,.ph 0 2],.vf 0 [.q (.h 0) 0],.x 3,.vf 4 [.fi]] (.l [.kh 0 [.ph 0 0,.fi,.ph 0 2],.vf 0 [.q (.h 0) 0],.x 3,.vf 4 [.fi]] (.b (.b .e (.r (.tk 0 15 .done) none [[]] .e)) .e)) (.c (tagC (.tmp 44)) false [.kh 0 [.ph 0 0,.fi,.lf .err],.x 4] .bb .e))) N Tryz.func259 rfl (rv:=[.tmp 2]) J (by decide) J fun x=>by kernel_rfl
theorem q50(ge N):Ck ge 190 Q50 (fun x=>F_254 N x):=
 mkS ext0 [] nt (.e) N Tryz.func190 rfl (rv:=[.tmp 4]) J (by decide) J fun x=>by kernel_rfl
theorem q98(ge N):Ck ge 248 Q98 (fun x=>F_276 N x):=
 mkS ext0 [pr h190 (q50 ge N)] nt (.e) N Tryz.func248 rfl (rv:=[.tmp 4]) J (by decide) J fun x=>by kernel_rfl
theorem q163(ge N):Ck ge 242 Q163 (u3 (F_195 N)):=
 mkS ext0 [pr h195 (q192 ge N),pr h248 (q98 ge N)] nt ((.c (tagR 1) false [.kh 0 [.ph 0 0,.ph 0 1,.ph 0 2],.vf 4 [.fo]] Pl.ro .e)) N Tryz.func242 rfl (rv:=[.tmp 4]) J (by decide) J fun x=>by kernel_rfl
theorem q125(ge N):Ck ge 226 Q125 (u3 (F_209 N)):=
 mkS ext0 [pr h242 (q163 ge N)] nt (.bb) N Tryz.func226 rfl (rv:=[.tmp 4]) J (by decide) J fun x=>by kernel_rfl
theorem q39(ge N):Ck ge 190 Q39 (fun x=>F_255 N x):=
 mkS ext0 [] nt (.e) N Tryz.func190 rfl (rv:=[.tmp 4]) J (by decide) J fun x=>by kernel_rfl
theorem q89(ge N):Ck ge 248 Q89 (fun x=>F_277 N x):=
 mkS ext0 [pr h190 (q39 ge N)] nt (.e) N Tryz.func248 rfl (rv:=[.tmp 4]) J (by decide) J fun x=>by kernel_rfl
theorem q157(ge N):Ck ge 242 Q157 (u3 (F_196 N)):=
 mkS ext0 [pr h195 (q192 ge N),pr h248 (q89 ge N)] nt ((.c (tagR 1) false [.kh 0 [.ph 0 0,.ph 0 1,.ph 0 2],.vf 4 [.fo]] Pl.ro .e)) N Tryz.func242 rfl (rv:=[.tmp 4]) J (by decide) J fun x=>by kernel_rfl
theorem q123(ge N):Ck ge 226 Q123 (u3 (F_210 N)):=
 mkS ext0 [pr h242 (q157 ge N)] nt (.bb) N Tryz.func226 rfl (rv:=[.tmp 4]) J (by decide) J fun x=>by kernel_rfl
theorem h251:HasFn Tryz.prog 251:=hasFn Tryz.func251 rfl rfl
theorem q124(ge N):Ck ge 251 Q124 (u3 (F_190 N)):=
 mkS ext0 [pr h195 (q192 ge N),pr h196 (q127 ge N),pr h196 (q138 ge N),pr h196 (q144 ge N),pr h226 (q125 ge N),pr h226 (q123 ge N),pr h242 (q179 ge N),pr h259 (q137 ge N)] nt ((.c (tagC (.tmp 22)) false [.kh 0 [.ph 0 0,.fi,.lf .err],.vf 0 [.q (.h 0) 0],.vf 4 [.fi],.x 5,.vf 6 [.fi]] (.b (.c (tagC (.tmp 24)) false [.kh 0 [.ph 0 0,.fi,.lf .err],.vf 0 [.q (.h 0) 0],.vf 4 [.fi],.x 5,.vf 6 [.fi]] .bb .e) .e) (.c (tagB 0) false [.kh 0 [.ph 0 0,.fi,.lf .err],.x 5,.x 6] (.c (tagR 10) false [.kh 0 [.ph 0 0,.ph 0 1,.ph 0 2],.vf 0 [.q (.h 0) 0],.vf 31 [.fo],.x 4,.x 5,.x 6] .bb (.c (tagC (.tmp 31)) false [.kh 0 [.ph 0 0,.fi,.lf .err],.x 5,.x 6] (.b (.r (.tk 0 7 (.bar 7 none .done)) (some 7) [[],[]] .e) (.c (tagC (.tmp 50)) false [.kh 0 [.ph 0 0,.fi,.lf .err],.x 5,.x 6] (.b (.r (.tk 0 6 (.bar 6 none .done)) (some 6) [[],[]] .e) (.c (tagR 14) false [.kh 0 [.ph 0 0,.ph 0 1,.ph 0 2],.vf 0 [.q (.h 0) 0],.x 4,.x 5,.x 6,.vf 61 [.fo]] (.b .bb .e) (.c (tagC (.tmp 61)) false [.kh 0 [.ph 0 0,.fi,.lf .err],.x 5,.x 6] .bb .e))) .e)) .e)) .e))) N Tryz.func251 rfl (rv:=[.tmp 2,.tmp 3]) J (by decide) J fun x=>by kernel_rfl
theorem q49(ge N):Ck ge 190 Q49 (fun x=>F_256 N x):=
 mkS ext0 [] nt (.e) N Tryz.func190 rfl (rv:=[.tmp 4]) J (by decide) J fun x=>by kernel_rfl
theorem q94(ge N):Ck ge 248 Q94 (fun x=>F_278 N x):=
 mkS ext0 [pr h190 (q49 ge N)] nt (.e) N Tryz.func248 rfl (rv:=[.tmp 4]) J (by decide) J fun x=>by kernel_rfl
theorem q165(ge N):Ck ge 242 Q165 (u3 (F_197 N)):=
 mkS ext0 [pr h195 (q192 ge N),pr h248 (q94 ge N)] nt ((.c (tagR 1) false [.kh 0 [.ph 0 0,.ph 0 1,.ph 0 2],.vf 4 [.fo]] Pl.ro .e)) N Tryz.func242 rfl (rv:=[.tmp 4]) J (by decide) J fun x=>by kernel_rfl
theorem q151(ge N):Ck ge 226 Q151 (u3 (F_211 N)):=
 mkS ext0 [pr h242 (q165 ge N)] nt (.bb) N Tryz.func226 rfl (rv:=[.tmp 4]) J (by decide) J fun x=>by kernel_rfl
theorem q45(ge N):Ck ge 190 Q45 (fun x=>F_257 N x):=
 mkS ext0 [] nt (.e) N Tryz.func190 rfl (rv:=[.tmp 4]) J (by decide) J fun x=>by kernel_rfl
theorem q114(ge N):Ck ge 248 Q114 (fun x=>F_279 N x):=
 mkS ext0 [pr h190 (q45 ge N)] nt (.e) N Tryz.func248 rfl (rv:=[.tmp 4]) J (by decide) J fun x=>by kernel_rfl
theorem q170(ge N):Ck ge 242 Q170 (u3 (F_198 N)):=
 mkS ext0 [pr h195 (q192 ge N),pr h248 (q114 ge N)] nt ((.c (tagR 1) false [.kh 0 [.ph 0 0,.ph 0 1,.ph 0 2],.vf 4 [.fo]] Pl.ro .e)) N Tryz.func242 rfl (rv:=[.tmp 4]) J (by decide) J fun x=>by kernel_rfl
theorem q126(ge N):Ck ge 226 Q126 (u3 (F_212 N)):=
 mkS ext0 [pr h242 (q170 ge N)] nt (.bb) N Tryz.func226 rfl (rv:=[.tmp 4]) J (by decide) J fun x=>by kernel_rfl
theorem h249:HasFn Tryz.prog 249:=hasFn Tryz.func249 rfl rfl
theorem h194:HasFn Tryz.prog 194:=hasFn Tryz.func194 rfl rfl
theorem q181(ge:Nat→Value)(N:Nat)(self_:BA→Int→Int→Option (Int×Int×Int×Int×Int×Int×Int×(List Nd)×Int×Int×BA))(hself:Ck ge 194 Q78 (fun x=>self_ x.1 x.2.1 x.2.2)):Ck ge 249 Q181 (fun x=>F_188 N self_ x.1 x.2.1 x.2.2):=
 mkS ext0 [pr h30 (q253 ge N),pr h194 hself,pr h196 (q187 ge N),pr h196 (q127 ge N),pr h196 (q138 ge N),pr h226 (q176 ge N),pr h226 (q121 ge N),pr h226 (q126 ge N),pr h242 (q171 ge N),pr h242 (q188 ge N),pr h242 (q174 ge N),pr h254 (q209 ge N),pr h255 (q224 ge N),pr h256 (q190 ge N),pr h257 (q217 ge N),pr h258 (q242 ge N)] nt ((.b (.c (tagR 3) false [.kh 0 [.ph 0 0,.fi,.ph 0 2],.vf 0 [.q (.h 0) 0],.kb (.s 2 0) SI.zn,.y 2 2 0 0,.vf 24 [.fo],.kb (.s 3 0) [.ps 3 0 0,.ps 3 0 1,.ps 3 0 2,.ps 3 0 3,.ps 3 0 4,.ps 3 0 5,.ps 3 0 6,.ps 3 0 7,.ps 3 0 8],.y 3 3 0 0] .bb (.c (tagC (.tmp 24)) false [.kh 0 [.ph 0 0,.fi,.lf .err],.kb (.s 2 0) SI.zn,.y 2 2 0 0,.kb (.s 3 0) [.ps 3 0 0,.ps 3 0 1,.ps 3 0 2,.ps 3 0 3,.ps 3 0 4,.ps 3 0 5,.ps 3 0 6,.ps 3 0 7,.ps 3 0 8],.y 3 3 0 0] (.b (.r (.tk 0 7 (.bar 7 none .done)) (some 7) [[],[]] .e) .e) .e)) (.b (.c (tagR 7) false [.kh 0 [.ph 0 0,.ph 0 1,.ph 0 2],.vf 0 [.q (.h 0) 0],.kb (.s 2 0) SI.zn,.y 2 2 0 0,.bx (.slot 4 0) [.fu,.fu,.fu,.fu],.vf 4 [.pt 0 0],.vf 5 [.fi],.vf 6 [.lf .err]] (.r (.tk 0 8 (.two 8 13 (.tk 9 4 (.one 13 (.one 14 (.take 15 (.take 16 .done))))) (.one 8 (.tk 9 4 (.one 14 (.take 15 (.take 16 .done))))))) none [[]] .e) (.c (tagC (.tmp 55)) false [.kh 0 [.ph 0 0,.fi,.lf .err],.kb (.s 2 0) SI.zn,.y 2 2 0 0,.kb (.s 4 0) [.ps 4 0 0,.ps 4 0 1,.ps 4 0 2,.ps 4 0 3],.y 4 4 0 0] .bb .e)) (.b .e (.b .e (.b (.r (.tk 0 6 (.bar 6 none .done)) (some 6) [[],[]] .e) (.r (.tk 0 8 (.bar 8 none (.tk 9 7 .done))) (some 8) [[],[]] (.c (tagC (.tmp 101)) false [.kh 0 [.ph 0 0,.fi,.lf .err],.kb (.s 2 0) SI.zn,.y 2 2 0 0,.x 7] .bb .e)))))))) N Tryz.func249 rfl (rv:=[.cell 2 97]) J (by decide) J fun x=>by kernel_rfl
theorem h243:HasFn Tryz.prog 243:=hasFn Tryz.func243 rfl rfl
theorem q162(ge:Nat→Value)(N:Nat)(self_:BA→Int→Int→Option (Int×Int×Int×Int×Int×Int×Int×(List Nd)×Int×Int×BA))(hself:Ck ge 194 Q78 (fun x=>self_ x.1 x.2.1 x.2.2)):Ck ge 243 Q162 (fun x=>F_83 N self_ x.1 x.2.1 x.2.2):=
 mkS ext0 [pr h226 (q119 ge N),pr h226 (q148 ge N),pr h226 (q130 ge N),pr h249 (q181 ge N self_ hself),pr h250 (q96 ge N),pr h251 (q124 ge N)] (fun t=>match t with|97=>some .nd|_=>none) ((.l [.kh 0 [.ph 0 0,.fi,.lf .err],.vf 0 [.q (.h 0) 0],.kb (.s 2 0) SI.zn,.y 2 2 0 0,.kb (.s 3 0) [.fi,.fu,.fu,.fu,.fu,.sl .nd,.fi,.fi,.lf .str],.y 3 3 0 0] (.c (tagB 1) true [.kh 0 [.ph 0 0,.fi,.lf .err],.vf 0 [.q (.h 0) 0],.kb (.s 2 0) SI.zn,.y 2 2 0 0,.kb (.s 3 0) [.k (.int .i64 4),.ku,.ku,.ku,.ku,.own .nd,.fi,.fi,.k (.string ByteArray.empty)],.y 3 3 0 0] (.c (tagB 2) true [.kh 0 [.ph 0 0,.fi,.lf .err],.vf 0 [.q (.h 0) 0],.kb (.s 2 0) SI.zn,.y 2 2 0 0,.kb (.s 3 0) [.ps 3 0 0,.ps 3 0 1,.ps 3 0 2,.ps 3 0 3,.ps 3 0 4,.ps 3 0 5,.ps 3 0 6,.ps 3 0 7,.ps 3 0 8],.y 3 3 0 0,.vf 4 [.fi],.vf 5 [.fi]] (.c (tagC (.tmp 9)) true [.kh 0 [.ph 0 0,.fi,.lf .err],.vf 0 [.q (.h 0) 0],.kb (.s 2 0) SI.zn,.y 2 2 0 0,.kb (.s 3 0) [.ps 3 0 0,.ps 3 0 1,.ps 3 0 2,.ps 3 0 3,.ps 3 0 4,.ps 3 0 5,.ps 3 0 6,.ps 3 0 7,.ps 3 0 8],.y 3 3 0 0,.vf 4 [.fi],.vf 5 [.fi]] (.b .e (.c (tagC (.tmp 12)) true [.kh 0 [.ph 0 0,.fi,.lf .err],.vf 0 [.q (.h 0) 0],.kb (.s 2 0) SI.zn,.y 2 2 0 0,.kb (.s 3 0) [.ps 3 0 0,.ps 3 0 1,.ps 3 0 2,.ps 3 0 3,.ps 3 0 4,.ps 3 0 5,.ps 3 0 6,.ps 3 0 7,.ps 3 0 8],.y 3 3 0 0,.vf 4 [.fi],.vf 5 [.fi]] (.b .e (.c (tagC (.tmp 15)) true [.kh 0 [.ph 0 0,.fi,.lf .err],.vf 0 [.q (.h 0) 0],.kb (.s 2 0) SI.zn,.y 2 2 0 0,.kb (.s 3 0) [.ps 3 0 0,.ps 3 0 1,.ps 3 0 2,.ps 3 0 3,.ps 3 0 4,.ps 3 0 5,.ps 3 0 6,.ps 3 0 7,.ps 3 0 8],.y 3 3 0 0,.vf 4 [.fi],.vf 5 [.fi]] (.b .e .bb) .e)) .e)) .e) .e) .e))) N Tryz.func243 rfl (rv:=[.cell 2 97]) J (by decide) J fun x=>by kernel_rfl
theorem h225:HasFn Tryz.prog 225:=hasFn Tryz.func225 rfl rfl
theorem q116(ge:Nat→Value)(N:Nat)(self_:BA→Int→Int→Option (Int×Int×Int×Int×Int×Int×Int×(List Nd)×Int×Int×BA))(hself:Ck ge 194 Q78 (fun x=>self_ x.1 x.2.1 x.2.2)):Ck ge 225 Q116 (fun x=>F_81 N self_ x.1 x.2.1 x.2.2):=
 mkS ext0 [pr h195 (q192 ge N),pr h242 (q199 ge N),pr h243 (q162 ge N self_ hself)] (fun t=>match t with|97=>some .nd|_=>none) ((.c (tagB 0) false [.kh 0 [.ph 0 0,.fi,.lf .err],.kb (.s 2 0) SI.zn,.y 2 2 0 0,.vf 3 [.own .nd]] (.l [.kh 0 [.ph 0 0,.fi,.lf .err],.vf 0 [.q (.h 0) 0],.kb (.s 2 0) SI.zn,.y 2 2 0 0,.vf 3 [.own .nd]] (.c (tagR 2) false [.kh 0 [.ph 0 0,.ph 0 1,.ph 0 2],.vf 0 [.q (.h 0) 0],.vf 10 [.fo],.kb (.s 2 0) SI.zn,.y 2 2 0 0,.keep (.s 3 0),.x 3] .bb .bb)) .bb)) N Tryz.func225 rfl (rv:=[.cell 2 97]) J (by decide) J fun x=>by kernel_rfl
theorem z78(ge:Nat→Value)(N:Nat)(ih:Ck ge 194 Q78 (u3 (F_38 N))):Ck ge 194 Q78 (u3 (F_38 (N+1))):=
 mkS ext0 [pr h194 ih,pr h225 (q116 ge N _ ih),pr h226 (q151 ge N)] (fun t=>match t with|97=>some .nd|_=>none) ((.c (tagB 0) false [.kh 0 [.ph 0 0,.fi,.lf .err],.kb (.s 2 0) SI.zn,.y 2 2 0 0,.vf 3 [.own .nd]] (.l [.kh 0 [.ph 0 0,.fi,.lf .err],.vf 0 [.q (.h 0) 0],.kb (.s 2 0) SI.zn,.y 2 2 0 0,.vf 3 [.own .nd]] .bb) .bb)) N Tryz.func194 rfl (rv:=[.cell 2 97]) J (by decide) J fun x=>by kernel_rfl
theorem q78(ge:Nat→Value):(N:Nat)→Ck ge 194 Q78 (u3 (F_38 N))
 |0=>Con.none
 |N+1=>z78 ge N (q78 ge N)
theorem h197:HasFn Tryz.prog 197:=hasFn Tryz.func197 rfl rfl
theorem q152(ge N):Ck ge 196 Q152 (u4 (F_192 N)):=
 mkS ext0 [] nt ((.c (tagC (.tmp 10)) false [.kh 0 [.ph 0 0,.fi,.lf .err]] .bb .e)) N Tryz.func196 rfl (rv:=[]) J (by decide) J fun x=>by kernel_rfl
theorem h198:HasFn Tryz.prog 198:=hasFn Tryz.func198 rfl rfl
theorem q132(ge N):Ck ge 196 Q132 (u4 (F_193 N)):=
 mkS ext0 [] nt ((.c (tagC (.tmp 10)) false [.kh 0 [.ph 0 0,.fi,.lf .err]] .bb .e)) N Tryz.func196 rfl (rv:=[]) J (by decide) J fun x=>by kernel_rfl
theorem h171:HasFn Tryz.prog 171:=hasFn Tryz.func171 rfl rfl
theorem q221(ge N):Ck ge 171 Q221 (fun x=>F_185 N x):=
 mkS ext0 [pr h194 (q78 ge N),pr h195 (q192 ge N),pr h196 (q138 ge N),pr h196 (q152 ge N),pr h196 (q132 ge N),pr h197 (s_tree_Depth ge N),pr h198 (s_tree_Count ge N)] nt ((.c (tagB 0) false [.x 0,.kb (.s 2 0) SI.zn,.y 2 2 0 0,.kb (.s 5 0) [.ps 5 0 0,.fi,.lf .err],.y 5 5 0 0,.kb (.s 6 0) [.ps 6 0 0,.ps 6 0 1,.ps 6 0 2,.ps 6 0 3,.ps 6 0 4,.ps 6 0 5,.ps 6 0 6,.ps 6 0 7,.ps 6 0 8],.y 6 6 0 0] (.c (tagC (.tmp 12)) false [.x 0,.kb (.s 2 0) SI.zn,.y 2 2 0 0,.kb (.s 5 0) [.ps 5 0 0,.fi,.lf .err],.y 5 5 0 0,.kb (.s 6 0) [.ps 6 0 0,.ps 6 0 1,.ps 6 0 2,.ps 6 0 3,.ps 6 0 4,.ps 6 0 5,.ps 6 0 6,.ps 6 0 7,.ps 6 0 8],.y 6 6 0 0] (.b (.r (.tk 0 6 (.bar 6 none .done)) (some 6) [[],[]] .e) (.c (tagC (.tmp 22)) false [.x 0,.kb (.s 2 0) SI.zn,.y 2 2 0 0,.kb (.s 5 0) [.ps 5 0 0,.fi,.lf .err],.y 5 5 0 0,.kb (.s 6 0) [.ps 6 0 0,.ps 6 0 1,.ps 6 0 2,.ps 6 0 3,.ps 6 0 4,.ps 6 0 5,.ps 6 0 6,.ps 6 0 7,.ps 6 0 8],.y 6 6 0 0] (.b .e (.c (tagC (.tmp 28)) false [.x 0,.kb (.s 2 0) SI.zn,.y 2 2 0 0,.kb (.s 5 0) [.ps 5 0 0,.fi,.lf .err],.y 5 5 0 0,.kb (.s 6 0) [.ps 6 0 0,.ps 6 0 1,.ps 6 0 2,.ps 6 0 3,.ps 6 0 4,.ps 6 0 5,.ps 6 0 6,.ps 6 0 7,.ps 6 0 8],.y 6 6 0 0] (.b .e (.c (tagC (.tmp 35)) false [.x 0,.kb (.s 2 0) SI.zn,.y 2 2 0 0,.kb (.s 5 0) [.ps 5 0 0,.fi,.lf .err],.y 5 5 0 0,.kb (.s 6 0) [.ps 6 0 0,.ps 6 0 1,.ps 6 0 2,.ps 6 0 3,.ps 6 0 4,.ps 6 0 5,.ps 6 0 6,.ps 6 0 7,.ps 6 0 8],.y 6 6 0 0] .bb .e)) .e)) .e)) .e) (.b (.c (tagR 11) false [.kb (.s 2 0) SI.zn,.y 2 2 0 0,.vf 3 [.ps 5 0 1],.vf 4 [.ps 5 0 2]] (.r (.tk 0 9 (.one 9 (.take 10 (.take 11 .done)))) none [[]] .e) .e) .e))) N Tryz.func171 rfl (rv:=[.cell 2 97,.tmp 3,.tmp 4]) J (by decide) J fun x=>by kernel_rfl
theorem q86(ge N):Ck ge 104 Q86 (u6 (F_124 N)):=
 mkS ext0 [] nt ((.c (tagC (.tmp 10)) false [.kh 0 [.ph 0 0,.ph 0 1,.fi,.lf .err]] .bb .e)) N Tryz.func104 rfl (rv:=[]) J (by decide) J fun x=>by kernel_rfl
theorem h140:HasFn Tryz.prog 140:=hasFn Tryz.func140 rfl rfl
theorem q75(ge N):Ck ge 140 Q75 (u4 (F_157 N)):=
 mkS ext0 [pr h104 (q93 ge N),pr h104 (q97 ge N),pr h104 (q86 ge N),pr h135 (q109 ge N),pr h169 (q79 ge N),pr h170 (q196 ge N),pr h171 (q221 ge N)] nt ((.b .e (.c (tagR 3) false [.kh 0 [.ph 0 0,.ph 0 1,.ph 0 2,.ph 0 3],.vf 0 [.q (.h 0) 0],.vf 19 [.fo],.kb (.s 2 0) SI.zn,.y 2 2 0 0] .bb (.b (.r (.tk 0 6 (.bar 6 none .done)) (some 6) [[],[]] .e) (.b (.r (.tk 0 7 (.bar 7 none .done)) (some 7) [[],[]] .e) .bb))))) N Tryz.func140 rfl (rv:=[.cell 2 97]) J (by decide) J fun x=>by kernel_rfl
theorem h142:HasFn Tryz.prog 142:=hasFn Tryz.func142 rfl rfl
theorem q128(ge N):Ck ge 142 Q128 (u12 (F_266 N)):=
 mkS ext0 [] nt (.e) N Tryz.func142 rfl (rv:=[.tmp 3]) J (by decide) J fun x=>by kernel_rfl
theorem h172:HasFn Tryz.prog 172:=hasFn Tryz.func172 rfl rfl
theorem q24(ge N):Ck ge 172 Q24 (u2 (F_131 N)):=
 mkS ext0 [pr h142 (q128 ge N)] nt ((.c (tagB 0) true [.kh 0 [.ph 0 0]] (.l [.kh 0 [.ph 0 0],.x 0,.fn 1 142 [.q (.h 0) 0],.x 7,.vf 8 [.fi]] (.b .bb .e)) .e)) N Tryz.func172 rfl (rv:=[.tmp 4]) J (by decide) J fun x=>by kernel_rfl
theorem h141:HasFn Tryz.prog 141:=hasFn Tryz.func141 rfl rfl
theorem q19(ge N):Ck ge 141 Q19 (u2 (F_222 N)):=
 mkS ext0 [pr h172 (q24 ge N)] nt (.e) N Tryz.func141 rfl (rv:=[.tmp 4]) J (by decide) J fun x=>by kernel_rfl
theorem h102:HasFn Tryz.prog 102:=hasFn Tryz.func102 rfl rfl
theorem q172(ge N):Ck ge 102 Q172 (u6 (F_97 N)):=
 mkS ext0 [pr h136 (q167 ge N),pr h137 (q161 ge N),pr h138 (q143 ge N),pr h140 (q75 ge N),pr h141 (q19 ge N)] (fun t=>match t with|158=>some (.pair .str (.pair .nd (.int .i64)))|_=>none) ((.c (tagC (.tmp 31)) false [.keep (.b (.h 0) 0),.keep (.b (.h 0) 2),.kh 0 [.ph 0 0,.own (.pair .str (.pair .nd (.int .i64))),.ph 0 2],.kh 1 [.ph 1 0,.ph 1 1,.ph 1 2,.ph 1 3]] (.b (.c (tagR 5) false [.keep (.b (.h 0) 0),.keep (.b (.h 0) 2),.kh 0 [.ph 0 0,.own (.pair .str (.pair .nd (.int .i64))),.ph 0 2],.kh 1 [.ph 1 0,.ph 1 1,.ph 1 2,.ph 1 3]] (.r (.tk 0 12 (.one 12 (.one 13 (.take 14 (.take 15 (.bar 16 none .done)))))) (some 16) [[(.b (.h 0) 1)],[]] .e) .e) .e) .e)) N Tryz.func102 rfl (rv:=[]) J (by decide) J fun x=>by kernel_rfl
theorem h132:HasFn Tryz.prog 132:=hasFn Tryz.func132 rfl rfl
theorem h143:HasFn Tryz.prog 143:=hasFn Tryz.func143 rfl rfl
theorem h245:HasFn Tryz.prog 245:=hasFn Tryz.func245 rfl rfl
theorem q210(ge N):Ck ge 245 Q210 (fun x=>F_272 N x):=
 mkS ext0 [] nt (.e) N Tryz.func245 rfl (rv:=[.tmp 4]) J (by decide) J fun x=>by kernel_rfl
theorem q197(ge N):Ck ge 132 Q197 (fun x=>F_246 N x):=
 mkS ext0 [pr h167 (q74 ge N)] nt (.e) N Tryz.func132 rfl (rv:=[.tmp 4]) J (by decide) J fun x=>by kernel_rfl
theorem h227:HasFn Tryz.prog 227:=hasFn Tryz.func227 rfl rfl
theorem q195(ge N):Ck ge 227 Q195 (u3 (F_110 N)):=
 mkS ext0 [pr h132 (q197 ge N),pr h245 (q210 ge N)] (fun t=>match t with|9=>some .str|_=>none) ((.b .e (.c (tagC (.tmp 20)) false [.x 0,.vf 1 [.k (.string (⟨#[32]⟩:BA))],.x 2,.vf 3 [.fi]] .bb (.c (tagB 0) false [.vf 0 [.lf .str],.vf 10 [.fi],.vf 9 [.ar (.s 9 0) .str]] (.l [.vf 0 [.lf .str],.vf 1 [.k (.string (⟨#[32]⟩:BA))],.vf 10 [.fi],.x 2,.x 3,.vf 9 [.ar (.s 9 0) .str]] (.b .bb .e)) .e)))) N Tryz.func227 rfl (rv:=[.tmp 8]) J (by decide) J fun x=>by kernel_rfl
theorem h199:HasFn Tryz.prog 199:=hasFn Tryz.func199 rfl rfl
theorem q208(ge N):Ck ge 199 Q208 (fun x=>F_50 N x):=
 mkS ext0 [pr h227 (q195 ge N)] nt (.e) N Tryz.func199 rfl (rv:=[.tmp 4]) J (by decide) J fun x=>by kernel_rfl
theorem h228:HasFn Tryz.prog 228:=hasFn Tryz.func228 rfl rfl
theorem q118(ge N):Ck ge 228 Q118 (u2 (F_91 N)):=
 mkS ext0 [] nt (.bb) N Tryz.func228 rfl (rv:=[.tmp 2,.tmp 3]) J (by decide) J fun x=>by kernel_rfl
theorem h229:HasFn Tryz.prog 229:=hasFn Tryz.func229 rfl rfl
theorem q146(ge N):Ck ge 229 Q146 (u2 (F_113 N)):=
 mkS ext0 [] nt ((.c (tagR 0) false [.keep (.b (.h 0) 0),.kh 0 [.ph 0 0,.fi],.vf 0 [.q (.h 0) 0]] (.r (.tk 0 14 (.bar 14 none .done)) (some 14) [[],[]] .e) (.c (tagC (.tmp 29)) false [.keep (.b (.h 0) 0),.kh 0 [.ph 0 0,.fi]] .bb .e))) N Tryz.func229 rfl (rv:=[]) J (by decide) J fun x=>by kernel_rfl
theorem h230:HasFn Tryz.prog 230:=hasFn Tryz.func230 rfl rfl
theorem q129(ge N):Ck ge 230 Q129 (u2 (F_136 N)):=
 mkS ext0 [pr h108 (q233 ge N),pr h228 (q118 ge N),pr h229 (q146 ge N)] nt ((.b (.r (.tk 0 3 .done) none [[]] .e) (.b (.r (.tk 0 3 .done) none [[]] .e) .e))) N Tryz.func230 rfl (rv:=[.tmp 2,.tmp 3]) J (by decide) J fun x=>by kernel_rfl
theorem h200:HasFn Tryz.prog 200:=hasFn Tryz.func200 rfl rfl
theorem q81(ge N):Ck ge 200 Q81 (u2 (F_175 N)):=
 mkS ext0 [pr h228 (q118 ge N),pr h229 (q146 ge N),pr h230 (q129 ge N)] nt ((.c (tagR 4) false [.keep (.b (.h 0) 0),.kh 0 [.ph 0 0,.ph 0 1],.vf 0 [.q (.h 0) 0],.kb (.s 2 0) [.k (.string ByteArray.empty),.k (.string ByteArray.empty)],.y 2 2 0 0,.vf 21 [.fo],.kb (.s 4 0) [.k (.string ByteArray.empty),.k (.string ByteArray.empty)],.y 4 4 0 0,.x 6] .bb (.b (.c (tagR 5) false [.keep (.b (.h 0) 0),.kh 0 [.ph 0 0,.ph 0 1],.kb (.s 2 0) [.k (.string ByteArray.empty),.k (.string ByteArray.empty)],.y 2 2 0 0,.vf 3 [.er 1]] (.r (.take 0 (.take 1 (.one 2 (.take 3 .done)))) none [[]] .e) .e) (.c (tagC (.tmp 27)) true [.kh 0 [.own .str,.fi],.vf 0 [.q (.h 0) 0],.kb (.s 2 0) [.k (.string ByteArray.empty),.k (.string ByteArray.empty)],.y 2 2 0 0,.kb (.s 4 0) [.lf .str,.k (.string ByteArray.empty)],.y 4 4 0 0] (.b .bb .e) (.b .e (.b (.c (tagR 15) false [.keep (.b (.h 0) 0),.kh 0 [.ph 0 0,.ph 0 1],.kb (.s 2 0) [.k (.string ByteArray.empty),.k (.string ByteArray.empty)],.y 2 2 0 0,.vf 3 [.er 1]] (.r (.take 0 (.take 1 (.one 2 (.take 3 .done)))) none [[]] .e) .e) (.b .e (.b (.c (tagR 22) false [.keep (.b (.h 0) 0),.kh 0 [.ph 0 0,.ph 0 1],.kb (.s 2 0) [.k (.string ByteArray.empty),.k (.string ByteArray.empty)],.y 2 2 0 0,.vf 3 [.er 5]] (.r (.take 0 (.take 1 (.one 2 (.take 3 .done)))) none [[]] .e) .e) .e)))))))) N Tryz.func200 rfl (rv:=[.cell 2 161,.tmp 3]) J (by decide) J fun x=>by kernel_rfl
theorem h173:HasFn Tryz.prog 173:=hasFn Tryz.func173 rfl rfl
theorem q211(ge N):Ck ge 173 Q211 (fun x=>F_173 N x):=
 mkS ext0 [pr h199 (q208 ge N),pr h200 (q81 ge N)] nt ((.c (tagR 3) false [.kb (.s 2 0) [.ps 6 0 0,.ps 6 0 1],.y 2 2 0 0,.vf 3 [.ps 5 0 1],.w 4 7 0] (.r (.tk 0 6 (.one 6 (.take 7 (.take 8 .done)))) none [[(.s 2 0)]] .e) .e)) N Tryz.func173 rfl (rv:=[.cell 2 161,.tmp 3,.tmp 4]) J (by decide) J fun x=>by kernel_rfl
theorem h144:HasFn Tryz.prog 144:=hasFn Tryz.func144 rfl rfl
theorem q107(ge N):Ck ge 144 Q107 (u4 (F_216 N)):=
 mkS ext0 [pr h104 (q86 ge N),pr h135 (q109 ge N),pr h169 (q79 ge N),pr h173 (q211 ge N)] nt ((.b .e (.c (tagC (.tmp 18)) false [.kh 0 [.ph 0 0,.ph 0 1,.fi,.lf .err],.kb (.s 2 0) [.k (.string ByteArray.empty),.k (.string ByteArray.empty)],.y 2 2 0 0,.kb (.s 3 0) [.ps 3 0 0,.ps 3 0 1],.y 3 3 0 0] .bb .e))) N Tryz.func144 rfl (rv:=[.cell 2 161]) J (by decide) J fun x=>by kernel_rfl
theorem h103:HasFn Tryz.prog 103:=hasFn Tryz.func103 rfl rfl
theorem q194(ge N):Ck ge 103 Q194 (u6 (F_214 N)):=
 mkS ext0 [pr h138 (q143 ge N),pr h140 (q75 ge N),pr h143 (s_rulefile_line_list ge N),pr h144 (q107 ge N)] (fun t=>match t with|163=>some (.pair (.list .str) (.pair .nd (.pair (.pair .str .str) (.int .i64))))|_=>none) ((.c (tagC (.tmp 19)) false [.keep (.b (.h 0) 0),.keep (.b (.h 0) 1),.kh 0 [.ph 0 0,.ph 0 1,.own (.pair (.list .str) (.pair .nd (.pair (.pair .str .str) (.int .i64))))],.kh 1 [.ph 1 0,.ph 1 1,.ph 1 2,.ph 1 3]] (.b (.c (tagR 4) false [.keep (.b (.h 0) 0),.keep (.b (.h 0) 1),.kh 0 [.ph 0 0,.ph 0 1,.own (.pair (.list .str) (.pair .nd (.pair (.pair .str .str) (.int .i64))))],.kh 1 [.ph 1 0,.ph 1 1,.ph 1 2,.ph 1 3]] (.r (.tk 0 13 (.one 13 (.one 14 (.take 15 (.take 16 (.bar 17 none .done)))))) (some 17) [[(.s 4 0),(.b (.h 0) 2)],[]] .e) .e) .e) .e)) N Tryz.func103 rfl (rv:=[]) J (by decide) J fun x=>by kernel_rfl
theorem q156(ge N):Ck ge 63 Q156 (u6 (F_155 N)):=
 mkS ext0 [pr h99 (q186 ge N),pr h100 (q154 ge N),pr h101 (q158 ge N),pr h102 (q172 ge N),pr h103 (q194 ge N),pr h104 (q101 ge N)] nt ((.c (tagR 0) false [.keep (.b (.h 0) 0),.keep (.b (.h 0) 1),.keep (.b (.h 0) 2),.kh 0 [.ph 0 0,.ph 0 1,.ph 0 2],.kh 1 [.ph 1 0,.ph 1 1,.ph 1 2,.k (.nilIface)],.vf 0 [.q (.h 0) 0],.vf 1 [.q (.h 1) 0],.vf 15 [.fo]] .bb (.b .e (.c (tagB 0) false [.kh 0 [.own .str,.own (.pair .str (.pair .nd (.int .i64))),.own (.pair (.list .str) (.pair .nd (.pair (.pair .str .str) (.int .i64))))],.kh 1 [.ph 1 0,.ph 1 1,.fi,.lf .err]] (.c (tagC (.tmp 21)) false [.kh 0 [.own .str,.own (.pair .str (.pair .nd (.int .i64))),.own (.pair (.list .str) (.pair .nd (.pair (.pair .str .str) (.int .i64))))],.kh 1 [.ph 1 0,.ph 1 1,.fi,.lf .err]] (.b .e (.c (tagC (.tmp 26)) false [.kh 0 [.ar (.b (.h 0) 0) .str,.own (.pair .str (.pair .nd (.int .i64))),.own (.pair (.list .str) (.pair .nd (.pair (.pair .str .str) (.int .i64))))],.kh 1 [.ph 1 0,.ph 1 1,.fi,.lf .err]] (.b .e (.c (tagC (.tmp 31)) false [.kh 0 [.ar (.b (.h 0) 0) .str,.ar (.b (.h 0) 1) (.pair .str (.pair .nd (.int .i64))),.own (.pair (.list .str) (.pair .nd (.pair (.pair .str .str) (.int .i64))))],.kh 1 [.ph 1 0,.ph 1 1,.fi,.lf .err]] .bb .e)) .e)) .e) .e)))) N Tryz.func63 rfl (rv:=[]) J (by decide) J fun x=>by kernel_rfl
def tcL:Tc:= .pair .str (.pair .nd (.int .i64))
def tcO:Tc:= .pair (.list .str) (.pair .nd (.pair (.pair .str .str) (.int .i64)))
theorem c_63{C:Cx}{w:World}{ρ:View}{hs:List Hl}{gV:Nat→Value}{b1:Nat}{c2:List Value}{v5:Value}{c6:List Value}{v9:Value}{c10:List Value}{v13:Value}{b14:Nat}{x3:(List BA)}{x7:(List (BA×Nd×Int))}{x11:(List ((List BA)×Nd×(BA×BA)×Int))}{x15:BA}{x16:Int}{x17:Int}(H:Hp C w ρ (Box b1 [v5,v9,v13]::Arr v5 1 c2::Arr v9 11 c6::Arr v13 13 c10::Box b14 [.string x15,.int .i64 x16,.int .i64 x17,.nilIface]::hs))(gle:GErrs ρ 383 errIds gV)(r4:rdL eS ρ x3 c2)(r8:rdL (eP eS (eP eN (eI .i64))) ρ x7 c6)(r12:rdL (eP (eL eS) (eP eN (eP (eP eS eS) (eI .i64)))) ρ x11 c10){r:((List BA)×(List (BA×Nd×Int))×(List ((List BA)×Nd×(BA×BA)×Int))×Int×Int)}(hF:F_155 N x3 x7 x11 x15 x16 x17=some r):
 Calls Tryz.prog 63 [.pointer (some ⟨b1,0,none⟩),.pointer (some ⟨b14,0,none⟩)].toArray w (Rets (fun v w'=>(∃(ρ':View) (v761:Value) (c762:(List Value)) (v765:Value) (c766:(List Value)) (v769:Value) (c770:(List Value)) (x763:(List BA)) (x767:(List (BA×Nd×Int))) (x771:(List ((List BA)×Nd×(BA×BA)×Int))) (x773:Int) (x774:Int),(x763,x767,x771,x773,x774)=r∧ .tuple [].toArray=v∧View.le ρ ρ'∧rdL eS ρ' x763 c762∧rdL (eP eS (eP eN (eI .i64))) ρ' x767 c766∧rdL (eP (eL eS) (eP eN (eP (eP eS eS) (eI .i64)))) ρ' x771 c770∧Hp C w' ρ' (Box b1 [v761,v765,v769]::Arr v761 1 c762::Arr v765 11 c766::Arr v769 13 c770::Box b14 [.string x15,.int .i64 x16,.int .i64 x773,errV errIds gV x774]::hs)))):=by
 obtain⟨y1,y2,y3,y4,y5⟩:=r
 have S:=(q156 gV N).ok (C:=C) (w:=w) (ρ:=ρ) (hs:=hs) (us:=[.pointer (some ⟨b1,0,none⟩),.pointer (some ⟨b14,0,none⟩)])
  (ls:=[⟨.list .str,x3⟩,⟨.list tcL,x7⟩,⟨.list tcO,x11⟩,⟨.str,x15⟩,⟨.int .i64,x16⟩,⟨.int .i64,x17⟩]) (κ:=[v5,v9,v13]) (γ:=[b1,b14])
  (A:=[Arr v5 1 c2,Arr v9 11 c6,Arr v13 13 c10,Box b1 [v5,v9,v13],Box b14 [.string x15,.int .i64 x16,.int .i64 x17,.nilIface]])
  (E':=[(0,.pointer (some ⟨b1,0,none⟩)),(1,.pointer (some ⟨b14,0,none⟩))]) (x:=(x3,x7,x11,x15,x16,x17)) (y:=(y1,y2,y3,y4,y5)) rfl
  ⟨rfl,rfl,rfl,(fun f hf=>nomatch hf),⟨⟨v5,c2,x3,rfl,rfl,r4,rfl⟩,⟨v9,c6,x7,rfl,rfl,r8,rfl⟩,⟨v13,c10,x11,rfl,rfl,r12,rfl⟩,⟨b1,[v5,v9,v13],rfl,⟨rfl,rfl,rfl,trivial⟩,rfl⟩,
   ⟨b14,[.string x15,.int .i64 x16,.int .i64 x17,.nilIface],rfl,⟨⟨_,rfl,rfl⟩,⟨_,rfl,rfl⟩,⟨_,rfl,rfl⟩,rfl,trivial⟩,rfl⟩,trivial⟩,⟨rfl,⟨b1,rfl,rfl⟩,rfl,⟨b14,rfl,rfl⟩,trivial⟩⟩
  (fun p hp=>by
   rcases List.mem_cons.1 hp with rfl|hp
   ·rfl
   rw[List.mem_singleton.1 hp];rfl) rfl (H.perm (List.perm_middle (l₁:=[Arr v5 1 c2,Arr v9 11 c6,Arr v13 13 c10])).symm) gle hF
 refine S.mono ?_;rintro e w' ⟨v,rfl,ρ',vs,M,κ',γ',E2,g1,rfl,g2,g3,g4,g5⟩;have B:=g5 (η:=[⟨.list .str,x3⟩,⟨.list tcL,x7⟩,⟨.list tcO,x11⟩,⟨.str,x15⟩,⟨.int .i64,x16⟩,⟨.int .i64,x17⟩]) (ι:=[v5,v9,v13]) (β:=[b1,b14]) (b:=⟨6,3,2,id,id,id⟩) ⟨rfl,rfl,rfl⟩ (fun _ _ _ h=>h) (fun _ _ _ h=>h) (fun _ _ _ h=>h);have hv:vs= []:=List.eq_nil_of_length_eq_zero g2;subst hv;have hh:=B.hx
 match M,hh,g4 with
 | [h1,h2,h3,h4,h5],hh,g4=>
   obtain⟨⟨v1,c1,z1,p1,p2,p3,rfl⟩,⟨v2,c3,z2,q1,q2,q3,rfl⟩,⟨v3,c4,z3,s1,s2,s3,rfl⟩,⟨blk,us,t1,t2,rfl⟩,⟨blk2,us2,w1,w2,rfl⟩,_⟩:=hh;have p2:some (⟨.list .str,y1⟩:Leaf)=some ⟨.list .str,z1⟩:=p2;cases oi p2;have q2:some (⟨.list tcL,y2⟩:Leaf)=some ⟨.list tcL,z2⟩:=q2;cases oi q2;have s2:some (⟨.list tcO,y3⟩:Leaf)=some ⟨.list tcO,z3⟩:=s2;cases oi s2;have t1:some b1=some blk:=t1;obtain rfl:=oi t1;have w1:some b14=some blk2:=w1;obtain rfl:=oi w1
   match us,t2 with
   | [u1,u2,u3],t2=>
     obtain⟨k1,k2,k3,_⟩:=t2;obtain rfl:=oi (p1.symm.trans k1);obtain rfl:=oi (q1.symm.trans k2);obtain rfl:=oi (s1.symm.trans k3)
     match us2,w2 with
     | [m1,m2,m3,m4],w2=>
       obtain⟨l1,l2,l3,l4,_⟩:=w2;obtain rfl:=br_leaf l1 (l:=⟨.str,x15⟩) rfl;obtain rfl:=br_leaf l2 (l:=⟨.int .i64,x16⟩) rfl;obtain rfl:=br_leaf l3 (l:=⟨.int .i64,y4⟩) rfl;obtain rfl:=br_leaf l4 (l:=⟨.err,y5⟩) rfl;exact⟨_,rfl,ρ',v1,c1,v2,c3,v3,c4,y1,y2,y3,y4,y5,rfl,rfl,g1,p3,q3,s3,g4.perm (List.perm_middle (l₁:=[Arr v1 1 c1,Arr v2 11 c3,Arr v3 13 c4]))⟩
     | [],w2=>exact w2.elim
     | [_],w2=>exact w2.2.elim
     | [_,_],w2=>exact w2.2.2.elim
     | [_,_,_],w2=>exact w2.2.2.2.elim
     |_::_::_::_::_::_,w2=>exact w2.2.2.2.2.elim
   | [],t2=>exact t2.elim
   | [_],t2=>exact t2.2.elim
   | [_,_],t2=>exact t2.2.2.elim
   |_::_::_::_::_,t2=>exact t2.2.2.2.elim
 | [],hh,_=>exact hh.elim
 | [_],hh,_=>exact hh.2.elim
 | [_,_],hh,_=>exact hh.2.2.elim
 | [_,_,_],hh,_=>exact hh.2.2.2.elim
 | [_,_,_,_],hh,_=>exact hh.2.2.2.2.elim
 |_::_::_::_::_::_::_,hh,_=>exact hh.2.2.2.2.2.elim
theorem ty90:Ty Tryz.prog 90 3 72 (.agg ([.slice none 0 0,.slice none 0 0,.slice none 0 0]).toArray) true:=⟨by kernel_rfl,by kernel_rfl⟩
theorem ty142:Ty Tryz.prog 142 1 8 (.pointer none) false:=⟨by kernel_rfl,by kernel_rfl⟩
theorem ty148:Ty Tryz.prog 148 4 48 (.agg ([.string ByteArray.empty,.int .i64 0,.int .i64 0,.nilIface]).toArray) true:=⟨by kernel_rfl,by kernel_rfl⟩
theorem st90: ∃fs,St Tryz.prog 90 fs [(0,1),(1,1),(2,1)] [.slice none 0 0,.slice none 0 0,.slice none 0 0]:=⟨_,Tryz.underlying90,by kernel_rfl,_,_,_,_,ty90,rfl⟩
theorem st148: ∃fs,St Tryz.prog 148 fs [(0,1),(1,1),(2,1),(3,1)] [.string ByteArray.empty,.int .i64 0,.int .i64 0,.nilIface]:=⟨_,Tryz.underlying148,by kernel_rfl,_,_,_,_,ty148,rfl⟩
theorem fn63:HasFn Tryz.prog 63:=⟨_,_,Tryz.func63,by kernel_rfl,rfl⟩
theorem c_98{C:Cx}{w:World}{ρ:View}{hs:List Hl}{gV:Nat→Value}{x1:BA}{x2:Int}(H:Hp C w ρ (hs))(gle:GErrs ρ 383 errIds gV){r:Unit}(hF:F_12 N x1 x2=some r):
 Calls Tryz.prog 98 [.string x1,.string (⟨#[10]⟩:BA),.int .i64 x2].toArray w (Rets (fun v w'=>(∃(b9:Nat) (b10:Nat) (b11:Nat),()=r∧ .func (.func 130) #[] [.pointer (some ⟨b9,0,none⟩),.pointer (some ⟨b10,0,none⟩),.pointer (some ⟨b11,0,none⟩)].toArray=v∧Hp C w' ρ (Box b9 [.string (⟨#[10]⟩:BA)]::Box b10 [.string x1]::Box b11 [.int .i64 x2]::hs)))):=by
 unfold F_12 at hF;have h0:Tryz.f98.body=some _:=rfl;refine fn_calls' Tryz.func98 h0 (n:=8) rfl Sm<|C_seq<|R_nd<|ne (E_box H (vs:=[.string x1]) rfl rfl) rfl rfl ?_;rintro _ wd13 ⟨b12,rfl,H⟩;refine ne (E_box H (vs:=[.string (⟨#[10]⟩:BA)]) rfl rfl) rfl rfl ?_;rintro _ wd15 ⟨b14,rfl,H⟩;refine ne (E_box H (vs:=[.int .i64 x2]) rfl rfl) rfl rfl ?_;rintro _ wd17 ⟨b16,rfl,H⟩;refine nq (Q_assign rfl) rfl rfl<|WL_nil<|x_then<|C_seq<|R_nd<|nq (v:= .func (.func 130) #[] [.pointer (some ⟨b14,0,none⟩),.pointer (some ⟨b12,0,none⟩),.pointer (some ⟨b16,0,none⟩)].toArray) (Q_func rfl) rfl rfl<|nq (Q_assign rfl) rfl rfl<|WL_nil<|x_then<|C_ret ?_;replace H:=H.f2.f2;obtain rfl:=oi hF;exact fn_ret (l:=[.tmp 6]) (vs:=[.func (.func 130) #[] [.pointer (some ⟨b14,0,none⟩),.pointer (some ⟨b12,0,none⟩),.pointer (some ⟨b16,0,none⟩)].toArray]) rfl rfl rfl ⟨b14,b12,b16,rfl,rfl,H⟩
theorem c_62{C:Cx}{w:World}{ρ:View}{hs:List Hl}{gV:Nat→Value}{x1:BA}(H:Hp C w ρ (hs))(gle:GErrs ρ 383 errIds gV){r:Unit}(hF:F_109 N x1=some r):
 Calls Tryz.prog 62 [.string x1,.string (⟨#[10]⟩:BA)].toArray w (Rets (fun v w'=>(∃(b8:Nat) (b9:Nat) (b10:Nat),()=r∧ .func (.func 130) #[] [.pointer (some ⟨b8,0,none⟩),.pointer (some ⟨b9,0,none⟩),.pointer (some ⟨b10,0,none⟩)].toArray=v∧Hp C w' ρ (Box b8 [.string (⟨#[10]⟩:BA)]::Box b9 [.string x1]::Box b10 [.int .i64 0]::hs)))):=by
 unfold F_109 at hF;have h0:Tryz.f62.body=some _:=rfl;refine fn_calls' Tryz.func62 h0 (n:=8) rfl Sm<|C_seq<|R_nd<|nq (Q_assign rfl) rfl rfl<|WL_nil<|x_then<|C_seq<|R_nd<|nq (Q_move rfl) rfl rfl<|nq (Q_move rfl) rfl rfl ?_;obtain⟨q11,hq11,hF⟩:=bnd hF;refine ne (E_call fn98 rfl (c_98 H gle hq11)) rfl rfl ?_;rintro _ wd16 ⟨b13,b14,b15,rfl,rfl,H⟩;try dsimp only at hF
 refine nq (Q_assign rfl) rfl rfl<|WL_nil<|x_then<|C_ret ?_;obtain rfl:=oi hF;exact fn_ret (l:=[.tmp 4]) (vs:=[.func (.func 130) #[] [.pointer (some ⟨b13,0,none⟩),.pointer (some ⟨b14,0,none⟩),.pointer (some ⟨b15,0,none⟩)].toArray]) rfl rfl rfl ⟨b13,b14,b15,rfl,rfl,H⟩
theorem c_167_2{C:Cx}{w:World}{ρ:View}{hs:List Hl}{gV:Nat→Value}{x1:BA}(H:Hp C w ρ (hs))(gle:GErrs ρ 383 errIds gV){r:Int}(hF:F_181 N x1=some r):
 Calls Tryz.prog 167 [.string x1,.string (⟨#[10]⟩:BA)].toArray w (Rets (fun v w'=>(∃(x9:Int),x9=r∧ .int .i64 x9=v∧Hp C w' ρ (hs)))):=by
 unfold F_181 at hF;have h0:Tryz.f167.body=some _:=rfl;refine fn_calls' Tryz.func167 h0 (n:=143) rfl Sm<|C_seq<|R_nd<|nq (Q_assign rfl) rfl rfl<|WL_nil<|x_then<|C_seq<|R_nd<|nq (Q_move rfl) rfl rfl<|nq (v:= .int .i64 1) (Q_lenStrC Tryz.underlying9 rfl (by decide)) rfl rfl<|nq (Q_assign rfl) rfl rfl<|WL_nil<|x_then<|C_seq ?_;refine C_block ?_;obtain⟨o11,ho11,hF⟩:=bnd hF;refine C_cut (fun a w'=> ∃(x10:Bool),x10=o11∧Fr 143 a [(0,.string x1),(1,.string (⟨#[10]⟩:BA)),(5,.int .i64 1),(16,.bool x10)]∧Hp C w' ρ (hs)) ?_ ?_
 ·refine R_nd<|nq (Q_move rfl) rfl rfl<|nq (v:= .bool false) (Q_known (by decide) (Q_eql rfl rfl)) rfl rfl<|nq (Q_move rfl) rfl rfl<|gq (Q_move rfl) rfl rfl rfl<|gq (Q_move rfl) rfl rfl rfl<|gq (v:= .bool ((⟨#[10]⟩:BA).toList==x1.toList)) (Q_eqlStr Tryz.underlying9 rfl rfl) rfl rfl rfl<|nq (Q_pickF rfl rfl) rfl rfl<|nq (Q_assign rfl) rfl rfl<|WL_nil ?_;obtain rfl:=oi ho11;refine x_A fun a hf=>⟨(⟨#[10]⟩:BA).toList==x1.toList,rfl,hf.sub ⟨rfl,rfl,rfl,rfl,trivial⟩,H⟩
 rintro a wd12 ⟨x10,rfl,hf,H⟩;try dsimp only at hF
 refine CW.at hf ?_;refine C_cond rfl (fun hb=>?_) (fun hb=>?_)
 ·replace hF:=itT hb hF;refine C_seq<|R_nd<|nq (Q_assign rfl) rfl rfl<|WL_nil<|x_then<|C_ret<|x_block_ret<|x_then_ret ?_;obtain rfl:=oi hF;exact fn_ret (l:=[.tmp 4]) (vs:=[.int .i64 0]) rfl rfl rfl ⟨0,rfl,rfl,H⟩
 replace hF:=itF hb hF;refine C_seq<|R_nd<|nq (Q_move rfl) rfl rfl<|nq (v:= .bool true) (Q_known (by decide) (Q_eql rfl rfl)) rfl rfl<|nq (Q_assign rfl) rfl rfl<|WL_nil<|x_then ?_;refine C_cond rfl (fun _=>?_) (fun h=>nomatch h);refine C_seq<|R_nd<|nq (Q_move rfl) rfl rfl<|nq (Q_move rfl) rfl rfl<|nq (v:= .int .u8 10) (Q_ixS rfl Tryz.underlying9 rfl rfl) rfl rfl ?_;obtain⟨q13,hq13,hF⟩:=bnd hF;refine ne (E_call fn190 rfl (c_190 H gle hq13)) rfl rfl ?_;rintro _ wd16 ⟨x15,rfl,rfl,H⟩;try dsimp only at hF
 refine nq (Q_assign rfl) rfl rfl<|WL_nil<|x_then<|C_ret<|x_block_ret<|x_then_ret ?_;obtain rfl:=oi hF;exact fn_ret (l:=[.tmp 4]) (vs:=[.int .i64 x15]) rfl rfl rfl ⟨x15,rfl,rfl,H⟩
theorem c_132_2{C:Cx}{w:World}{ρ:View}{hs:List Hl}{gV:Nat→Value}{x1:BA}(H:Hp C w ρ (hs))(gle:GErrs ρ 383 errIds gV){r:Int}(hF:F_225 N x1=some r):
 Calls Tryz.prog 132 [.string x1,.string (⟨#[10]⟩:BA)].toArray w (Rets (fun v w'=>(∃(x6:Int),x6=r∧ .int .i64 x6=v∧Hp C w' ρ (hs)))):=by
 unfold F_225 at hF;have h0:Tryz.f132.body=some _:=rfl;refine fn_calls' Tryz.func132 h0 (n:=8) rfl Sm<|C_seq<|R_nd<|nq (Q_assign rfl) rfl rfl<|WL_nil<|x_then<|C_seq<|R_nd<|nq (Q_move rfl) rfl rfl<|nq (Q_move rfl) rfl rfl ?_;obtain⟨q7,hq7,hF⟩:=bnd hF;refine ne (E_call fn167 rfl (c_167_2 H gle hq7)) rfl rfl ?_;rintro _ wd10 ⟨x9,rfl,rfl,H⟩;try dsimp only at hF
 refine nq (Q_assign rfl) rfl rfl<|WL_nil<|x_then<|C_ret ?_;obtain rfl:=oi hF;exact fn_ret (l:=[.tmp 4]) (vs:=[.int .i64 x9]) rfl rfl rfl ⟨x9,rfl,rfl,H⟩
theorem c_130_1{C:Cx}{w:World}{ρ:View}{hs:List Hl}{gV:Nat→Value}{σ:Type}{I:View→σ→Hl→Prop}{l:Nat}{rec:Bool→σ→Loop}{A0:Hl}{b1:Nat}{b2:Nat}{b4:Nat}{Y:BA→σ→Option (σ×Bool)}{s0:σ}{x3:BA}(H:Hp C w ρ (Yd l (rec true s0) A0::Box b1 [.string (⟨#[10]⟩:BA)]::Box b2 [.string x3]::Box b4 [.int .i64 0]::hs))(gle:GErrs ρ 383 errIds gV)(hY:YC Tryz.prog l rec I (fun _ x args=>args= #[.string x]) Y ρ)(hI0:I ρ s0 A0)(hImono: ∀{ρ1 ρ2:View} {s:σ} {A:Hl},View.le ρ1 ρ2→I ρ1 s A→I ρ2 s A){r:(σ×Bool)}(hF:F_51 N Y s0 x3=some r):
 Calls Tryz.prog 130 [.func (.yield l) #[] #[],.pointer (some ⟨b1,0,none⟩),.pointer (some ⟨b2,0,none⟩),.pointer (some ⟨b4,0,none⟩)].toArray w (Rets (fun v w'=>(∃(ρ':View) (A123:Hl) (x124:σ) (x125:Bool),(x124,x125)=r∧ .tuple [].toArray=v∧View.le ρ ρ'∧I ρ' x124 A123∧Hp C w' ρ' (Yd l (rec x125 x124) A123::hs)))):=by
 unfold F_51 at hF;have h0:Tryz.f130.body=some _:=rfl;refine fn_calls' Tryz.func130 h0 (n:=52) rfl Sm<|C_seq<|C_seq<|R_nd<|nq (v:= .string (⟨#[10]⟩:BA)) (Q_ldB (k:=1) (cs:=[.string (⟨#[10]⟩:BA)]) H.ok rfl ty9 rfl rfl rfl (fun _=>rfl) rfl) rfl rfl<|nq (v:= .int .i64 1) (Q_lenStrC Tryz.underlying9 rfl (by decide)) rfl rfl<|nq (v:= .bool false) (Q_known (by decide) (Q_eql rfl rfl)) rfl rfl<|WL_nil<|x_then ?_;refine C_cond rfl (fun h=>nomatch h) (fun _=>?_);refine C_skip<|x_then ?_;obtain⟨o184,ho184,hF⟩:=bnd hF;refine C_cut (fun a w'=> ∃(ρ':View) (A180:Hl) (x181:σ) (x183:BA),View.le ρ ρ'∧ .inl (x181,x183)=o184∧I ρ' x181 A180∧Fr 52 a [(0,.func (.yield l) #[] #[]),(2,.pointer (some ⟨b2,0,none⟩))]∧Hp C w' ρ' (Yd l (rec true x181) A180::Box b1 [.string (⟨#[10]⟩:BA)]::Box b2 [.string x183]::Box b4 [.int .i64 0]::hs)) ?_ ?_
 ·refine C_block ?_;refine C_iter (f:=fun s=>F_133 N Y s.1 s.2) ho184 (fun s a w'=> ∃(ρ':View) (A201:Hl) (x202:σ) (x204:BA),View.le ρ ρ'∧(x202,x204)=s∧I ρ' x202 A201∧Fr 52 a [(0,.func (.yield l) #[] #[]),(1,.pointer (some ⟨b1,0,none⟩)),(2,.pointer (some ⟨b2,0,none⟩)),(3,.pointer (some ⟨b4,0,none⟩))]∧Hp C w' ρ' (Yd l (rec true x202) A201::Box b1 [.string (⟨#[10]⟩:BA)]::Box b2 [.string x204]::Box b4 [.int .i64 0]::hs)) ?_ ?_
  ·exact fun a hf=>⟨ρ,A0,s0,x3,(View.le_refl _),rfl,hI0,hf.sub ⟨rfl,rfl,rfl,rfl,trivial⟩,H⟩
  rintro s o221 a wd224 ⟨ρ,A201,x202,x204,lw225,rfl,hI203,hf,H⟩ hB222 hO223;replace hB222:F_133 N Y x202 x204=some o221:=hB222;unfold F_133 at hB222;refine CW.at hf ?_;replace gle:=GErrs.up lw225 gle;refine C_block<|C_seq<|R_nd<|nq (v:= .string x204) (Q_ldB (k:=2) (cs:=[.string x204]) H.ok rfl ty9 rfl rfl rfl (fun _=>rfl) rfl) rfl rfl<|nq (v:= .string (⟨#[10]⟩:BA)) (Q_ldB (k:=1) (cs:=[.string (⟨#[10]⟩:BA)]) H.ok rfl ty9 rfl rfl rfl (fun _=>rfl) rfl) rfl rfl ?_;obtain⟨q226,hq226,hB222⟩:=bnd hB222;refine ne (E_call fn132 rfl (c_132_2 H gle hq226)) rfl rfl ?_;rintro _ wd229 ⟨x228,rfl,rfl,H⟩;try dsimp only at hB222
  refine nq (Q_assign rfl) rfl rfl<|WL_nil<|x_then<|C_seq<|C_seq<|R_nd<|nq (Q_move rfl) rfl rfl<|nq (Q_lss rfl rfl) rfl rfl<|WL_nil<|x_then ?_;refine C_cond rfl (fun hb=>?_) (fun hb=>?_)
  ·replace hB222:=itT hb hB222;refine C_exit<|x_then_exit<|x_block_other rfl<|x_then_exit<|x_block_exit ?_;obtain rfl:=oi hB222;obtain rfl:=hO223 _ rfl;refine x_A fun a hf=>⟨ρ,A201,x202,x204,lw225,rfl,hI203,hf.sub ⟨rfl,rfl,trivial⟩,H⟩
  replace hB222:=itF hb hB222;refine C_skip<|x_then<|C_seq<|R_nd<|nq (v:= .string x204) (Q_ldB (k:=2) (cs:=[.string x204]) H.ok rfl ty9 rfl rfl rfl (fun _=>rfl) rfl) rfl rfl<|nq (Q_move rfl) rfl rfl<|nq (v:= .int .i64 0) (Q_ldB (k:=3) (cs:=[.int .i64 0]) H.ok rfl ty3 rfl rfl rfl (fun _=>rfl) rfl) rfl rfl<|nq (Q_add rfl rfl) rfl rfl ?_;obtain⟨x230,hx230,hB222⟩:=bnd hB222;refine nq (Q_slStr hx230 Tryz.underlying9 rfl rfl ⟨_,rfl⟩) rfl rfl<|nq (Q_assign rfl) rfl rfl<|WL_nil<|x_then<|C_seq<|C_seq<|R_nd<|nq (Q_move rfl) rfl rfl<|nq (Q_move rfl) rfl rfl ?_;obtain⟨q231,hq231,hB222⟩:=bnd hB222;refine neI (E_yield (x:=x230) (vs:=[.string x230]) hY lw225 hI203 H rfl hq231 rfl rfl) rfl rfl ?_;rintro _ wd232 ⟨rfl,ρ,A233,lw234,hI235,H⟩;replace gle:=GErrs.up lw234 gle;refine nq (Q_not rfl) rfl rfl<|WL_nil<|x_then ?_;refine C_cond rfl (fun hb=>?_) (fun hb=>?_)
  ·replace hB222:=itT hb hB222;replace hb:q231.2=false:=bnT hb;rw[hb]at H;refine C_ret<|x_then_ret<|x_block_ret<|x_then_ret<|x_block_ret<|x_then_ret ?_;replace H:=H.e3.e2.e1;obtain rfl:=oi hB222;obtain rfl:=hO223 _ rfl;obtain rfl:=oi (show some _=some _ from hF);exact fn_ret (l:=[]) (vs:=[]) rfl rfl rfl ⟨ρ,A233,q231.1,false,rfl,rfl,(View.le_trans lw225 lw234),hI235,H⟩
  replace hB222:=itF hb hB222;replace hb:q231.2=true:=bnF hb;rw[hb]at H;refine C_skip<|x_then<|R_nd<|nq (v:= .string x204) (Q_ldB (k:=2) (cs:=[.string x204]) H.ok rfl ty9 rfl rfl rfl (fun _=>rfl) rfl) rfl rfl<|nq (Q_move rfl) rfl rfl<|nq (v:= .string (⟨#[10]⟩:BA)) (Q_ldB (k:=1) (cs:=[.string (⟨#[10]⟩:BA)]) H.ok rfl ty9 rfl rfl rfl (fun _=>rfl) rfl) rfl rfl<|nq (v:= .int .i64 1) (Q_lenStrC Tryz.underlying9 rfl (by decide)) rfl rfl<|nq (Q_add rfl rfl) rfl rfl ?_;obtain⟨x236,hx236,hB222⟩:=bnd hB222;refine nq (Q_slStr hx236 Tryz.underlying9 rfl ⟨_,rfl⟩ rfl) rfl rfl<|ne (E_stB (k:=2) (cs:=[.string x236]) (vs':=[.string x236]) H rfl ty9 rfl rfl rfl rfl (one_cons rfl one_nil) Sm rfl) rfl rfl ?_;rintro _ wd237 H;dsimp only[List.set]at H;refine WL_nil<|x_block ?_;obtain rfl:=oi hB222;refine x_A fun a hf=>⟨_,rfl,ρ,A233,q231.1,x236,(View.le_trans lw225 lw234),rfl,hI235,hf.sub ⟨rfl,rfl,rfl,rfl,trivial⟩,H⟩
 rintro a wd238 ⟨ρ,A180,x181,x183,lw239,rfl,hI182,hf,H⟩;try dsimp only at hF
 replace gle:=GErrs.up lw239 gle;refine CW.at hf<|R_nd<|nq (Q_move rfl) rfl rfl<|nq (v:= .string x183) (Q_ldB (k:=2) (cs:=[.string x183]) H.ok rfl ty9 rfl rfl rfl (fun _=>rfl) rfl) rfl rfl ?_;obtain⟨q240,hq240,hF⟩:=bnd hF;refine neI (E_yield (x:=x183) (vs:=[.string x183]) hY lw239 hI182 H rfl hq240 rfl rfl) rfl rfl ?_;rintro _ wd241 ⟨rfl,ρ,A242,lw243,hI244,H⟩;replace gle:=GErrs.up lw243 gle;refine WL_nil ?_;replace H:=H.e3.e2.e1;obtain rfl:=oi hF;exact fn_end (l:=[]) (vs:=[]) rfl rfl rfl ⟨ρ,A242,q240.1,q240.2,rfl,rfl,(View.le_trans lw239 lw243),hI244,H⟩
theorem c_31{C:Cx}{w:World}{ρ:View}{hs:List Hl}{gV:Nat→Value}{v1:Value}{x2:LI}(H:Hp C w ρ (hs))(gle:GErrs ρ 383 errIds gV)(r3:RdSl ρ (eI .u8) v1 x2){r:((List BA)×(List (BA×Nd×Int))×(List ((List BA)×Nd×(BA×BA)×Int))×Int×Int)}(hF:F_39 N x2=some r):
 Calls Tryz.prog 31 [v1].toArray w (Rets (fun v w'=>(∃(ρ':View) (v206:Value) (c207:(List Value)) (v210:Value) (c211:(List Value)) (v214:Value) (c215:(List Value)) (x208:(List BA)) (x212:(List (BA×Nd×Int))) (x216:(List ((List BA)×Nd×(BA×BA)×Int))) (x218:Int) (x219:Int),(x208,x212,x216,x218,x219)=r∧ .tuple [.agg #[v206,v210,v214],.int .i64 x218,errV errIds gV x219].toArray=v∧View.le ρ ρ'∧rdL eS ρ' x208 c207∧rdL (eP eS (eP eN (eI .i64))) ρ' x212 c211∧rdL (eP (eL eS) (eP eN (eP (eP eS eS) (eI .i64)))) ρ' x216 c215∧Hp C w' ρ' (Arr v206 1 c207::Arr v210 11 c211::Arr v214 13 c215::hs)))):=by
 unfold F_39 at hF;have h0:Tryz.f31.body=some _:=rfl;refine fn_callsM Tryz.func31 h0 (n:=54) rfl Sm<|C_seq<|R_nd<|ne (E_alloc H ty90 (zs:=[.slice none 0 0,.slice none 0 0,.slice none 0 0]) rfl) rfl rfl ?_;rintro _ wd221 ⟨b220,rfl,H⟩;refine ne (E_alloc H ty3 (zs:=[.int .i64 0]) rfl) rfl rfl ?_;rintro _ wd223 ⟨b222,rfl,H⟩;refine ne (E_alloc H ty29 (zs:=[.nilIface]) rfl) rfl rfl ?_;rintro _ wd225 ⟨b224,rfl,H⟩;refine WL_nil<|x_then<|C_seq<|C_seq<|R_nd<|nq (Q_move rfl) rfl rfl<|nq (Q_len Tryz.underlying22 rfl r3) rfl rfl<|nq (Q_gtr rfl rfl) rfl rfl<|WL_nil<|x_then ?_;refine C_cond rfl (fun hb=>?_) (fun hb=>?_)
 ·replace hF:=itT hb hF;obtain⟨o229,ho229,hF⟩:=bnd hF;refine C_cut (fun a w'=>Fr 54 a [(2,.pointer (some ⟨b220,0,none⟩)),(3,.pointer (some ⟨b222,0,none⟩)),(4,.pointer (some ⟨b224,0,none⟩))]∧Hp C w' ρ (Box b220 [.slice none 0 0,.slice none 0 0,.slice none 0 0]::Box b222 [.int .i64 4096]::Box b224 [errV errIds gV 5]::hs)) ?_ ?_
  ·refine R_dr (.take 0 (.take 1 (.one 2 (.one 3 (.bar 4 none .done))))) (some 4) (S:=fun w'=>Ok w' ρ [Box b224 [.nilIface],Box b220 [.slice none 0 0,.slice none 0 0,.slice none 0 0]]) hm0 (by kernel_rfl) (H.drew.okS Sm) ?_;replace H:=H.drew;refine dq (v:= .agg #[.slice none 0 0,.slice none 0 0,.slice none 0 0]) rfl (fun _ _=>Q_buildS st90.choose_spec (ps:=[]) rfl trivial rfl) rfl rfl<|dq (v:=errV errIds gV 5) rfl (fun _ hw=>Q_ldV hw gle (by decide) ty29) rfl rfl ?_;refine d1 (de rfl (E_stB (k:=2) (cs:=[.slice none 0 0,.slice none 0 0,.slice none 0 0]) (vs':=[.slice none 0 0,.slice none 0 0,.slice none 0 0]) H rfl ty90 rfl rfl rfl rfl (oneA rfl) Sm rfl) rfl rfl ?_);rintro _ wd230 H;dsimp only[List.set]at H;refine⟨H.okS Sm,?_⟩;refine d1 (de rfl (E_stB (k:=1) (cs:=[.int .i64 4096]) (vs':=[.int .i64 4096]) H rfl ty3 rfl rfl rfl rfl (one_cons rfl one_nil) Sm rfl) rfl rfl ?_);rintro _ wd231 H;dsimp only[List.set]at H;refine⟨H.okS Sm,?_⟩;refine db rfl (E_stB (k:=0) (cs:=[errV errIds gV 5]) (vs':=[errV errIds gV 5]) H rfl ty29 rfl rfl (errV_cells gle 5) rfl (one_cons (errV_one gle 5) one_nil) Sm rfl) rfl rfl ?_;rintro _ wd232 H;dsimp only[List.set]at H;refine H.okF<|DL_nil ?_;replace H:=H.f1.f2;obtain rfl:=oi ho229;refine x_A fun a hf=>⟨hf.sub ⟨rfl,rfl,rfl,trivial⟩,H⟩
  rintro a wd233 ⟨hf,H⟩;try dsimp only at hF
  refine CW.at hf<|C_ret<|x_then_ret ?_;have H:=H.nilArr 1;have H:=H.nilArr 11;have H:=H.nilArr 13;have hRV:RV Tryz.prog wd233 [(2,.pointer (some ⟨b220,0,none⟩)),(3,.pointer (some ⟨b222,0,none⟩)),(4,.pointer (some ⟨b224,0,none⟩))] [.cell 2 90,.cell 3 3,.cell 4 29] [.agg #[(.slice none 0 0),(.slice none 0 0),(.slice none 0 0)],.int .i64 4096,errV errIds gV 5]:=⟨⟨_,rfl,run_ldv ty90 rfl (fun h=>nomatch h) (box_at (H.ok.get (k:=3) rfl) 0 3)⟩,⟨_,rfl,run_ldv ty3 rfl (fun _=>rfl) (box_at (H.ok.get (k:=4) rfl) 0 1)⟩,⟨_,rfl,run_ldv ty29 rfl (fun _=>rfl) (box_at (H.ok.get (k:=5) rfl) 0 1)⟩,trivial⟩;replace H:=H.e5.e4.e3.f1.f2;obtain rfl:=oi hF;exact fn_retM (rs:=[.cell 2 90,.cell 3 3,.cell 4 29]) (vs:=[.agg #[(.slice none 0 0),(.slice none 0 0),(.slice none 0 0)],.int .i64 4096,errV errIds gV 5]) rfl hRV ⟨ρ,(.slice none 0 0),[],(.slice none 0 0),[],(.slice none 0 0),[],[],[],[],4096,5,rfl,rfl,(View.le_refl _),rdL.nil,rdL.nil,rdL.nil,H⟩
 replace hF:=itF hb hF;refine C_skip<|x_then<|C_seq<|R_nd<|ne (E_bslice (xs:=[.const (.string ⟨#[109,97,105,110]⟩)]) (vs:=[.string (⟨#[109,97,105,110]⟩:BA)]) H Tryz.underlying24 ty9 (by decide) (cs:=[.string (⟨#[109,97,105,110]⟩:BA)]) rfl (sz_cons rfl sz_nil) rfl Sm Sm rfl rfl) rfl rfl ?_;rintro _ wd235 ⟨b234,rfl,H⟩;refine nq (v:= .agg #[(.slice (some ⟨b234,0,none⟩) 1 1),.slice none 0 0,.slice none 0 0]) (Q_buildS st90.choose_spec (ps:=[(0,[(.slice (some ⟨b234,0,none⟩) 1 1)])]) rfl ⟨rfl,(arr_cells (H.ok.get (k:=0) rfl)).1,by simp,trivial⟩ rfl) rfl rfl<|ne (E_box H (vs:=[(.slice (some ⟨b234,0,none⟩) 1 1),.slice none 0 0,.slice none 0 0]) rfl rfl) rfl rfl ?_;rintro _ wd237 ⟨b236,rfl,H⟩;refine ne (E_alloc H ty142 (zs:=[.pointer none]) rfl) rfl rfl ?_;rintro _ wd239 ⟨b238,rfl,H⟩;refine ne (E_stB (k:=0) (cs:=[.pointer (some ⟨b236,0,none⟩)]) (vs':=[.pointer (some ⟨b236,0,none⟩)]) H rfl ty142 rfl rfl rfl rfl (one_cons rfl one_nil) Sm rfl) rfl rfl ?_;rintro _ wd240 H;dsimp only[List.set]at H;refine WL_nil<|x_then<|C_seq<|R_nd<|ne (E_alloc H ty3 (zs:=[.int .i64 0]) rfl) rfl rfl ?_;rintro _ wd242 ⟨b241,rfl,H⟩;refine ne (E_stB (k:=0) (cs:=[.int .i64 0]) (vs':=[.int .i64 0]) H rfl ty3 rfl rfl rfl rfl (one_cons rfl one_nil) Sm rfl) rfl rfl ?_;rintro _ wd243 H;dsimp only[List.set]at H;refine WL_nil<|x_then<|C_seq<|C_seq<|R_nd<|nq (Q_move rfl) rfl rfl<|ne (E_bstrR H Tryz.underlying22 Tryz.underlying5 Tryz.underlying9 rfl r3) rfl rfl ?_;rintro _ wd244 ⟨rfl,rfl⟩;obtain⟨q245,hq245,hF⟩:=bnd hF;refine ne (E_call fn62 rfl (c_62 H gle hq245)) rfl rfl ?_
 rintro _ wd250 ⟨b247,b248,b249,rfl,rfl,H⟩;try dsimp only at hF
 refine WL_nil<|x_then<|C_block ?_;have H:=H.nilArr 11;have H:=H.nilArr 13;replace H:=H.f5.f1.f2.f8.f8.f8.f9.f10.f11;obtain⟨q371,hq371,hF⟩:=bnd hF;obtain⟨q3711_,b372⟩:=q371
 refine C_range (σ:=(((List BA)×(List (BA×Nd×Int))×(List ((List BA)×Nd×(BA×BA)×Int))×Int) ⊕ (Int×Int))) (α:=BA) (s0:=(.inl ([(⟨#[109,97,105,110]⟩:BA)],[],[],0))) (r:=(q3711_,b372)) (I:=(IS (fun ρ (s:((List BA)×(List (BA×Nd×Int))×(List ((List BA)×Nd×(BA×BA)×Int))×Int)) A=> ∃(v304:Value) (c305:(List Value)) (v308:Value) (c309:(List Value)) (v312:Value) (c313:(List Value)) (x306:(List BA)) (x310:(List (BA×Nd×Int))) (x314:(List ((List BA)×Nd×(BA×BA)×Int))) (x316:Int),(x306,x310,x314,x316)=s∧A=Star [Box b220 [.slice none 0 0,.slice none 0 0,.slice none 0 0],Box b222 [.int .i64 0],Box b224 [.nilIface],Box b238 [.pointer (some ⟨b236,0,none⟩)],Box b236 [v304,v308,v312],Arr v304 1 c305,Arr v308 11 c309,Arr v312 13 c313,Box b241 [.int .i64 x316]]∧rdL eS ρ x306 c305∧rdL (eP eS (eP eN (eI .i64))) ρ x310 c309∧rdL (eP (eL eS) (eP eN (eP (eP eS eS) (eI .i64)))) ρ x314 c313) (fun ρ (s:(Int×Int)) A=> ∃(x369:Int) (x370:Int),(x369,x370)=s∧A=Star [Box b220 [.slice none 0 0,.slice none 0 0,.slice none 0 0],Box b222 [.int .i64 x369],Box b224 [errV errIds gV x370]]))) (R:=(fun _ x args=>args= #[.string x])) (Y:=(YS (σ1:=((List BA)×(List (BA×Nd×Int))×(List ((List BA)×Nd×(BA×BA)×Int))×Int)) (σ2:=(Int×Int)) (fun x s=>F_98 N x s.1 s.2.1 s.2.2.1 s.2.2.2))) [Box b247 [.string (⟨#[10]⟩:BA)],Box b248 [.string (bstr x2)],Box b249 [.int .i64 0]] (fun _=> .ret) rfl fn130 (Hp.star (L:=[Box b220 [.slice none 0 0,.slice none 0 0,.slice none 0 0],Box b222 [.int .i64 0],Box b224 [.nilIface],Box b238 [.pointer (some ⟨b236,0,none⟩)],Box b236 [(.slice (some ⟨b234,0,none⟩) 1 1),.slice none 0 0,.slice none 0 0],Arr (.slice (some ⟨b234,0,none⟩) 1 1) 1 ([.string (⟨#[109,97,105,110]⟩:BA)]),Arr (.slice none 0 0) 11 ([]),Arr (.slice none 0 0) 13 ([]),Box b241 [.int .i64 0]]) H) (IS.l ⟨(.slice (some ⟨b234,0,none⟩) 1 1),[.string (⟨#[109,97,105,110]⟩:BA)],(.slice none 0 0),[],(.slice none 0 0),[],[(⟨#[109,97,105,110]⟩:BA)],[],[],0,rfl,rfl,(show rdL eS ρ ([(⟨#[109,97,105,110]⟩:BA)]) ([.string (⟨#[109,97,105,110]⟩:BA)])from⟨([.string (⟨#[109,97,105,110]⟩:BA)]),_,rfl,rfl,rdL.nil⟩),rdL.nil,rdL.nil⟩) rfl ?_ ?_ ?_
 ·intro a_ hfa l fn_ D;refine YC.of2 ?_;intro C w ρ hs s A x251 args r373 hle hIx hA375 H hF374;obtain⟨v304,c305,v308,c309,v312,c313,x306,x310,x314,x316,rfl,rfl,r307,r311,r315⟩:=hIx;obtain rfl:=hA375;replace r3:=RdSl.up hle r3;replace gle:=GErrs.up hle gle;replace hF374:F_98 N x251 x306 x310 x314 x316=some r373:=hF374;unfold F_98 at hF374;refine yieldAt (n:=54) (E:=((20,.string x251):: [(0,v1),(2,.pointer (some ⟨b220,0,none⟩)),(3,.pointer (some ⟨b222,0,none⟩)),(4,.pointer (some ⟨b224,0,none⟩)),(5,.pointer (some ⟨b238,0,none⟩)),(6,.pointer (some ⟨b241,0,none⟩))])) (ps:=[20]) (vs:=[.string x251]) H rfl rfl rfl rfl rfl rfl rfl ?_ (Fr.params (E:=[(0,v1),(2,.pointer (some ⟨b220,0,none⟩)),(3,.pointer (some ⟨b222,0,none⟩)),(4,.pointer (some ⟨b224,0,none⟩)),(5,.pointer (some ⟨b238,0,none⟩)),(6,.pointer (some ⟨b241,0,none⟩))]) ⟨hfa.size,rfl,(hfa.sub (E':=[(0,v1),(2,.pointer (some ⟨b220,0,none⟩)),(3,.pointer (some ⟨b222,0,none⟩)),(4,.pointer (some ⟨b224,0,none⟩)),(5,.pointer (some ⟨b238,0,none⟩)),(6,.pointer (some ⟨b241,0,none⟩))]) ⟨rfl,rfl,rfl,rfl,rfl,rfl,trivial⟩).slots⟩ (by decide) rfl);obtain⟨o,ho,H⟩:=H.ydOpen;dsimp only[List.cons_append,List.nil_append]at H;refine R_nd<|nq (Q_assign rfl) rfl rfl<|WL_nil<|x_begin (by rw[ho];rfl) H ?_;intro wd376 H
  refine C_block<|C_seq<|R_nd<|nq (Q_move rfl) rfl rfl<|nq (v:= .int .i64 x316) (Q_ldB (k:=9) (cs:=[.int .i64 x316]) H.ok rfl ty3 rfl rfl rfl (fun _=>rfl) rfl) rfl rfl<|nq (v:= .agg #[.string x251,.int .i64 x316,.int .i64 0,.nilIface]) (Q_buildS st148.choose_spec (ps:=[(0,[.string x251]),(1,[.int .i64 x316])]) rfl ⟨rfl,rfl,by simp,⟨rfl,rfl,by simp,trivial⟩⟩ rfl) rfl rfl<|ne (E_box H (vs:=[.string x251,.int .i64 x316,.int .i64 0,.nilIface]) rfl rfl) rfl rfl ?_;rintro _ wd378 ⟨b377,rfl,H⟩;refine nq (Q_assign rfl) rfl rfl<|WL_nil<|x_then<|C_seq<|R_nd<|nq (v:= .pointer (some ⟨b236,0,none⟩)) (Q_ldB (k:=5) (cs:=[.pointer (some ⟨b236,0,none⟩)]) H.ok rfl ty142 rfl rfl rfl (fun _=>rfl) rfl) rfl rfl<|nq (Q_move rfl) rfl rfl ?_;replace H:=H.f9.f9.f9.f9;obtain⟨q379,hq379,hF374⟩:=bnd hF374;refine ne (E_call fn63 rfl (c_63 H gle r307 r311 r315 hq379)) rfl rfl ?_;rintro _ wd396 ⟨ρ,v381,c382,v383,c384,v385,c386,x387,x388,x389,x390,x391,rfl,rfl,lw392,r393,r394,r395,H⟩;try dsimp only at hF374
  replace r3:=RdSl.up lw392 r3;replace r307:=rdL.up lw392 r307;replace r311:=rdL.up lw392 r311;replace r315:=rdL.up lw392 r315;replace gle:=GErrs.up lw392 gle;refine WL_nil<|x_then<|C_seq<|C_seq<|R_nd<|nq (Q_move rfl) rfl rfl<|nq (Q_nilP rfl) rfl rfl<|nq (v:= .pointer (some ⟨b377,3,none⟩)) (Q_fld Tryz.underlying148 rfl ty29 (by decide) rfl rfl) rfl rfl<|nq (v:=errV errIds gV x391) (Q_ldB (k:=4) (cs:=[errV errIds gV x391]) H.ok rfl ty29 rfl rfl rfl (fun _=>rfl) rfl) rfl rfl<|nq (v:= .bool (eOk errIds x391)) (Q_neqV Tryz.underlying29 gle rfl) rfl rfl<|WL_nil<|x_then ?_;refine C_cond rfl (fun hb=>?_) (fun hb=>?_)
  ·replace hF374:=itT hb hF374;obtain⟨o410,ho410,hF374⟩:=bnd hF374;refine C_cut (fun a w'=> ∃(c401:(List Value)) (c404:(List Value)) (c407:(List Value)) (x400:Int) (x402:(List BA)) (x405:(List (BA×Nd×Int))) (x408:(List ((List BA)×Nd×(BA×BA)×Int))),(x400,x402,x405,x408)=o410∧rdL eS ρ x402 c401∧rdL (eP eS (eP eN (eI .i64))) ρ x405 c404∧rdL (eP (eL eS) (eP eN (eP (eP eS eS) (eI .i64)))) ρ x408 c407∧Fr 54 a [(2,.pointer (some ⟨b220,0,none⟩)),(3,.pointer (some ⟨b222,0,none⟩)),(4,.pointer (some ⟨b224,0,none⟩))]∧Hp C w' ρ (Box b220 [.slice none 0 0,.slice none 0 0,.slice none 0 0]::Box b222 [.int .i64 x400]::Box b224 [errV errIds gV x391]::Box b238 [.pointer (some ⟨b236,0,none⟩)]::Box b236 [v381,v383,v385]::Arr v381 1 c401::Arr v383 11 c404::Arr v385 13 c407::Box b241 [.int .i64 x316]::Yd l ({o with state:= .busy}) (Star [])::hs)) ?_ ?_
   ·refine R_dr (.take 0 (.take 1 (.take 2 (.take 3 (.take 4 (.take 5 (.take 6 (.take 7 (.take 8 (.take 9 (.take 10 (.one 11 (.one 12 (.bar 13 none .done)))))))))))))) (some 13) (S:=fun w'=>Ok w' ρ [Box b236 [v381,v383,v385],Arr v381 1 c382,Arr v383 11 c384,Arr v385 13 c386,Box b377 [.string x251,.int .i64 x316,.int .i64 x390,errV errIds gV x391],Yd l ({o with state:= .busy}) (Star []),Box b220 [.slice none 0 0,.slice none 0 0,.slice none 0 0],Box b224 [.nilIface],Box b238 [.pointer (some ⟨b236,0,none⟩)],Box b241 [.int .i64 x316]]) hm0 (by kernel_rfl) (H.drew.okS Sm) ?_;replace H:=H.drew;refine dq (v:= .agg #[.slice none 0 0,.slice none 0 0,.slice none 0 0]) rfl (fun _ _=>Q_buildS st90.choose_spec (ps:=[]) rfl trivial rfl) rfl rfl<|dq (v:= .int .i64 x316) rfl (fun _ hw=>Q_ldB (k:=9) (cs:=[.int .i64 x316]) hw rfl ty3 rfl rfl rfl (fun _=>rfl) rfl) rfl rfl<|dq rfl (fun _ _=>Q_move rfl) rfl rfl<|dq rfl (fun _ _=>Q_nilP rfl) rfl rfl<|dq (v:= .pointer (some ⟨b377,2,none⟩)) rfl (fun _ _=>Q_fld Tryz.underlying148 rfl ty3 (by decide) rfl rfl) rfl rfl<|dq (v:= .int .i64 x390) rfl (fun _ hw=>Q_ldB (k:=4) (cs:=[.int .i64 x390]) hw rfl ty3 rfl rfl rfl (fun _=>rfl) rfl) rfl rfl<|dq rfl (fun _ _=>Q_add rfl rfl) rfl rfl<|dq rfl (fun _ _=>Q_move rfl) rfl rfl<|dq rfl (fun _ _=>Q_nilP rfl) rfl rfl<|dq (v:= .pointer (some ⟨b377,3,none⟩)) rfl (fun _ _=>Q_fld Tryz.underlying148 rfl ty29 (by decide) rfl rfl) rfl rfl<|dq (v:=errV errIds gV x391) rfl (fun _ hw=>Q_ldB (k:=4) (cs:=[errV errIds gV x391]) hw rfl ty29 rfl rfl rfl (fun _=>rfl) rfl) rfl rfl ?_
    refine d1 (de rfl (E_stB (k:=6) (cs:=[.slice none 0 0,.slice none 0 0,.slice none 0 0]) (vs':=[.slice none 0 0,.slice none 0 0,.slice none 0 0]) H rfl ty90 rfl rfl rfl rfl (oneA rfl) Sm rfl) rfl rfl ?_);rintro _ wd411 H;dsimp only[List.set]at H;refine⟨H.okS Sm,?_⟩;refine d1 (de rfl (E_stB (k:=7) (cs:=[.int .i64 (w64 (x316+x390))]) (vs':=[.int .i64 (w64 (x316+x390))]) H rfl ty3 rfl rfl rfl rfl (one_cons rfl one_nil) Sm rfl) rfl rfl ?_);rintro _ wd412 H;dsimp only[List.set]at H;refine⟨H.okS Sm,?_⟩;refine db rfl (E_stB (k:=8) (cs:=[errV errIds gV x391]) (vs':=[errV errIds gV x391]) H rfl ty29 rfl rfl (errV_cells gle x391) rfl (one_cons (errV_one gle x391) one_nil) Sm rfl) rfl rfl ?_;rintro _ wd413 H;dsimp only[List.set]at H;refine H.okF<|DL_nil ?_;replace H:=H.e4.f9.f4.f4.f4.f4.f9.f9.f9.f9;obtain rfl:=oi ho410;refine x_A fun a hf=>⟨c382,c384,c386,w64 (x316+x390),x387,x388,x389,rfl,r393,r394,r395,hf.sub ⟨rfl,rfl,rfl,trivial⟩,H⟩
   rintro a wd414 ⟨c401,c404,c407,x400,x402,x405,x408,rfl,r403,r406,r409,hf,H⟩;try dsimp only at hF374
   refine CW.at hf<|C_ret<|x_then_ret<|x_block_ret ?_;replace H:=H.e8.e7.e6.e5.e4.e3.f3;obtain rfl:=oi hF374;subst ho;refine x_round_ret H (fun w_ H=>?_);exact⟨rfl,ρ,_,lw392,IS.r ⟨x400,x391,rfl,rfl⟩,Hp.ydClose (L:=[Box b220 [.slice none 0 0,.slice none 0 0,.slice none 0 0],Box b222 [.int .i64 x400],Box b224 [errV errIds gV x391]]) H⟩
  replace hF374:=itF hb hF374;refine C_skip<|x_then<|R_nd<|nq (v:= .int .i64 x316) (Q_ldB (k:=10) (cs:=[.int .i64 x316]) H.ok rfl ty3 rfl rfl rfl (fun _=>rfl) rfl) rfl rfl<|nq (Q_move rfl) rfl rfl<|nq (Q_lenStr Tryz.underlying9 rfl) rfl rfl<|nq (Q_add rfl rfl) rfl rfl<|nq (Q_add rfl rfl) rfl rfl<|ne (E_stB (k:=10) (cs:=[.int .i64 (w64 (x316+(w64 ((x251.size:Int)+1))))]) (vs':=[.int .i64 (w64 (x316+(w64 ((x251.size:Int)+1))))]) H rfl ty3 rfl rfl rfl rfl (one_cons rfl one_nil) Sm rfl) rfl rfl ?_;rintro _ wd415 H;dsimp only[List.set]at H;refine WL_nil<|x_block ?_;replace H:=H.e4.f9.f4.f4.f4.f4.f9.f9.f9.f9.f9;obtain rfl:=oi hF374;subst ho;refine x_round H (fun w_ H=>?_);exact⟨rfl,ρ,_,lw392,IS.l ⟨v381,c382,v383,c384,v385,c386,x387,x388,x389,w64 (x316+(w64 ((x251.size:Int)+1))),rfl,rfl,r393,r394,r395⟩,Hp.ydClose (L:=[Box b220 [.slice none 0 0,.slice none 0 0,.slice none 0 0],Box b222 [.int .i64 0],Box b224 [.nilIface],Box b238 [.pointer (some ⟨b236,0,none⟩)],Box b236 [v381,v383,v385],Arr v381 1 c382,Arr v383 11 c384,Arr v385 13 c386,Box b241 [.int .i64 (w64 (x316+(w64 ((x251.size:Int)+1))))]]) H⟩
 ·intro l rec W hs' hY H;refine(c_130_1 H gle hY (IS.l ⟨(.slice (some ⟨b234,0,none⟩) 1 1),[.string (⟨#[109,97,105,110]⟩:BA)],(.slice none 0 0),[],(.slice none 0 0),[],[(⟨#[109,97,105,110]⟩:BA)],[],[],0,rfl,rfl,(show rdL eS ρ ([(⟨#[109,97,105,110]⟩:BA)]) ([.string (⟨#[109,97,105,110]⟩:BA)])from⟨([.string (⟨#[109,97,105,110]⟩:BA)]),_,rfl,rfl,rdL.nil⟩),rdL.nil,rdL.nil⟩) (IS.mono (fun hl h=>by obtain⟨v304,c305,v308,c309,v312,c313,x306,x310,x314,x316,e1_,e2_,r307,r311,r315⟩:=h;exact⟨v304,c305,v308,c309,v312,c313,x306,x310,x314,x316,e1_,e2_,rdL.up hl r307,rdL.up hl r311,rdL.up hl r315⟩) (fun hl h=>by obtain⟨x369,x370,e1_,e2_⟩:=h;exact⟨x369,x370,e1_,e2_⟩)) hq371).mono fun e w' he=>?_;obtain⟨v,rfl,ρ',A',x,b,hr_,_,h1,h2,h3⟩:=he;cases hr_;exact⟨_,rfl,ρ',A',h1,h2,h3⟩
 intro D416 wd417 ρ A' lw418 hIx H;rcases q3711_ with q3711_|q3711_
 ·obtain⟨v304,c305,v308,c309,v312,c313,x306,x310,x314,x316,rfl,rfl,r307,r311,r315⟩:=IS.unl hIx;replace H:=Hp.unstar H;dsimp only[List.cons_append,List.nil_append]at H;replace r3:=RdSl.up lw418 r3;replace gle:=GErrs.up lw418 gle;refine⟨fun hb=>?_,fun hb=>?_⟩
  ·subst hb;try dsimp only at hF
   refine x_block<|x_then<|C_seq<|R_nd<|nq (v:= .pointer (some ⟨b236,0,none⟩)) (Q_ldB (k:=3) (cs:=[.pointer (some ⟨b236,0,none⟩)]) H.ok rfl ty142 rfl rfl rfl (fun _=>rfl) rfl) rfl rfl<|nq (Q_nilP rfl) rfl rfl<|nq (v:= .agg #[v304,v308,v312]) (Q_ldB (k:=4) (cs:=[v304,v308,v312]) H.ok rfl ty90 rfl rfl rfl (fun h=>nomatch h) rfl) rfl rfl<|nq (Q_move rfl) rfl rfl<|nq (Q_len Tryz.underlying22 rfl r3) rfl rfl<|ne (E_stB (k:=0) (cs:=[v304,v308,v312]) (vs':=[v304,v308,v312]) H rfl ty90 rfl rfl rfl rfl (one_cons (arr_cells (H.ok.get (k:=5) rfl)).2 (one_cons (arr_cells (H.ok.get (k:=6) rfl)).2 (one_cons (arr_cells (H.ok.get (k:=7) rfl)).2 one_nil))) Sm rfl) rfl rfl ?_;rintro _ wd419 H;dsimp only[List.set]at H;refine ne (E_stB (k:=1) (cs:=[.int .i64 (x2.length:Int)]) (vs':=[.int .i64 (x2.length:Int)]) H rfl ty3 rfl rfl rfl rfl (one_cons rfl one_nil) Sm rfl) rfl rfl ?_;rintro _ wd420 H;dsimp only[List.set]at H;refine ne (E_stB (k:=2) (cs:=[.nilIface]) (vs':=[.nilIface]) H rfl ty29 rfl rfl rfl rfl (one_cons rfl one_nil) Sm rfl) rfl rfl ?_;rintro _ wd421 H;dsimp only[List.set]at H;refine WL_nil<|x_then<|C_ret ?_;replace H:=H.f9;refine x_take H ?_;intro wd422 H
   have hRV:RV Tryz.prog wd422 [(2,.pointer (some ⟨b220,0,none⟩)),(3,.pointer (some ⟨b222,0,none⟩)),(4,.pointer (some ⟨b224,0,none⟩))] [.cell 2 90,.cell 3 3,.cell 4 29] [.agg #[v304,v308,v312],.int .i64 (x2.length:Int),errV errIds gV 0]:=⟨⟨_,rfl,run_ldv ty90 rfl (fun h=>nomatch h) (box_at (H.ok.get (k:=0) rfl) 0 3)⟩,⟨_,rfl,run_ldv ty3 rfl (fun _=>rfl) (box_at (H.ok.get (k:=1) rfl) 0 1)⟩,⟨_,rfl,run_ldv ty29 rfl (fun _=>rfl) (box_at (H.ok.get (k:=2) rfl) 0 1)⟩,trivial⟩;replace H:=H.e8.e4.e3.e2.e1.e0;obtain rfl:=oi hF;exact fn_retM (rs:=[.cell 2 90,.cell 3 3,.cell 4 29]) (vs:=[.agg #[v304,v308,v312],.int .i64 (x2.length:Int),errV errIds gV 0]) rfl hRV ⟨ρ,v304,c305,v308,c309,v312,c313,x306,x310,x314,(x2.length:Int),0,rfl,rfl,lw418,r307,r311,r315,H⟩
  subst hb;try dsimp only at hF
  cases hF
 obtain⟨x369,x370,rfl,rfl⟩:=IS.unr hIx;replace H:=Hp.unstar H;dsimp only[List.cons_append,List.nil_append]at H;replace gle:=GErrs.up lw418 gle;refine⟨fun hb=>?_,fun hb=>?_⟩
 ·subst hb;try dsimp only at hF
  cases hF
 subst hb;try dsimp only at hF
 refine C_ret<|x_block_ret<|x_then_ret ?_;have H:=H.nilArr 1;have H:=H.nilArr 11;have H:=H.nilArr 13;replace H:=H.f6;refine x_take H ?_;intro wd423 H;have hRV:RV Tryz.prog wd423 [(2,.pointer (some ⟨b220,0,none⟩)),(3,.pointer (some ⟨b222,0,none⟩)),(4,.pointer (some ⟨b224,0,none⟩))] [.cell 2 90,.cell 3 3,.cell 4 29] [.agg #[(.slice none 0 0),(.slice none 0 0),(.slice none 0 0)],.int .i64 x369,errV errIds gV x370]:=⟨⟨_,rfl,run_ldv ty90 rfl (fun h=>nomatch h) (box_at (H.ok.get (k:=3) rfl) 0 3)⟩,⟨_,rfl,run_ldv ty3 rfl (fun _=>rfl) (box_at (H.ok.get (k:=4) rfl) 0 1)⟩,⟨_,rfl,run_ldv ty29 rfl (fun _=>rfl) (box_at (H.ok.get (k:=5) rfl) 0 1)⟩,trivial⟩;replace H:=H.e5.e4.e3.f1.f2;obtain rfl:=oi hF;exact fn_retM (rs:=[.cell 2 90,.cell 3 3,.cell 4 29]) (vs:=[.agg #[(.slice none 0 0),(.slice none 0 0),(.slice none 0 0)],.int .i64 x369,errV errIds gV x370]) rfl hRV ⟨ρ,(.slice none 0 0),[],(.slice none 0 0),[],(.slice none 0 0),[],[],[],[],x369,x370,rfl,rfl,lw418,rdL.nil,rdL.nil,rdL.nil,H⟩
def sgParse:Sig:=⟨1,[.v 0 false [.sl (.int .u8)]],3,[.v 0 true [.own .str,.own (.pair .str (.pair .nd (.int .i64))),.own (.pair (.list .str) (.pair .nd (.pair (.pair .str .str) (.int .i64))))],.v 1 false [.leaf (.int .i64)],.v 2 false [.leaf .err]]⟩
theorem s_rulefile_Parse(ge:Nat→Value)(N:Nat):Con (am ge) Tryz.prog 31 sgParse (fun x=>F_39 N x):=by
 refine⟨?_⟩;intro C w ρ hs us ls κ γ A E' x y hx L he hus H G' hy;have hun:=mkT_un _ _ _ hx;have hls:ls= [⟨.list (.int .u8),x⟩]:=hun.symm;subst hls;obtain⟨y1,y2,y3,y4,y5⟩:=y
 have hA:A= []:=by
  have:=L.hx
  match A,this with
  | [],_=>rfl
 subst hA;obtain⟨v,xs,h1,h2,h3⟩:=L.fs (.rs 0 (.int .u8) 0) (List.mem_singleton.2 rfl);have h2:some (⟨.list (.int .u8),x⟩:Leaf)=some ⟨.list (.int .u8),xs⟩:=h2;cases oi h2;have hE:=L.env
 match E',hE,he with
 | [(q,u)],hE,he=>
   obtain⟨e1,e2,_⟩:=hE;have e1:0=q:=e1;subst e1;have e2:([]++κ)[0]? =some u:=e2;rw[h1]at e2;obtain rfl:=oi e2;have h5:=he _ (List.mem_singleton.2 rfl)
   match us,hus,h5 with
   | [v0],_,h5=>
     obtain rfl:=oi h5;refine(c_31 (by simpa using H) G' h3 hy).mono ?_;rintro e w' ⟨_,rfl,ρ',v1,c1,v2,c2,v3,c3,z1,z2,z3,z4,z5,hz,rfl,g1,g2,g3,g4,g5⟩;cases hz;refine⟨_,rfl,ρ',[.agg #[v1,v2,v3],.int .i64 y4,errV errIds ge y5],[Arr v1 1 c1,Arr v2 11 c2,Arr v3 13 c3],[v1,v2,v3],[],[(0,.agg #[v1,v2,v3]),(1,.int .i64 y4),(2,errV errIds ge y5)],g1,rfl,rfl,fun p hp=>?_,g5,fun{η ι β b} O _ _ _=>?_⟩
     ·rcases List.mem_cons.1 hp with rfl|hp
      ·rfl
      rcases List.mem_cons.1 hp with rfl|hp
      ·rfl
      rw[List.mem_singleton.1 hp];rfl
     obtain⟨o1,o2,o3⟩:=O;let ζ:List Leaf:=[⟨.list .str,y1⟩,⟨.list tcL,y2⟩,⟨.list tcO,y3⟩,⟨.int .i64,y4⟩,⟨.err,y5⟩];have i0:(η++ζ)[b.nl+0]? =some ⟨.list .str,y1⟩:=by rw[←o1,List.getElem?_append_right Om,Nat.add_sub_cancel_left];rfl
     have i1:(η++ζ)[b.nl+1]? =some ⟨.list tcL,y2⟩:=by rw[←o1,List.getElem?_append_right Om,Nat.add_sub_cancel_left];rfl
     have i2:(η++ζ)[b.nl+2]? =some ⟨.list tcO,y3⟩:=by rw[←o1,List.getElem?_append_right Om,Nat.add_sub_cancel_left];rfl
     have i3:(η++ζ)[b.nl+3]? =some ⟨.int .i64,y4⟩:=by rw[←o1,List.getElem?_append_right Om,Nat.add_sub_cancel_left];rfl
     have i4:(η++ζ)[b.nl+4]? =some ⟨.err,y5⟩:=by rw[←o1,List.getElem?_append_right Om,Nat.add_sub_cancel_left];rfl
     have k0:(ι++ [v1,v2,v3])[b.na+0]? =some v1:=by rw[←o2,List.getElem?_append_right Om,Nat.add_sub_cancel_left];rfl
     have k1:(ι++ [v1,v2,v3])[b.na+1]? =some v2:=by rw[←o2,List.getElem?_append_right Om,Nat.add_sub_cancel_left];rfl
     have k2:(ι++ [v1,v2,v3])[b.na+2]? =some v3:=by rw[←o2,List.getElem?_append_right Om,Nat.add_sub_cancel_left];rfl
     exact⟨rfl,rfl,rfl,(fun f hf=>nomatch hf),⟨⟨v1,c1,y1,k0,i0,g2,rfl⟩,⟨v2,c2,y2,k1,i1,g3,rfl⟩,⟨v3,c3,y3,k2,i2,g4,rfl⟩,trivial⟩,
      ⟨rfl,⟨[v1,v2,v3],⟨k0,k1,k2,trivial⟩,rfl⟩,rfl,⟨_,i3,rfl⟩,rfl,⟨_,i4,rfl⟩,trivial⟩⟩
 | [],hE,_=>exact hE.elim
 |_::_::_,hE,_=>exact hE.2.2.elim
theorem h31:HasFn Tryz.prog 31:=hasFn Tryz.func31 rfl rfl
theorem h71:HasFn Tryz.prog 71:=hasFn Tryz.func71 rfl rfl
theorem h145:HasFn Tryz.prog 145:=hasFn Tryz.func145 rfl rfl
theorem z238(ge:Nat→Value)(N:Nat)(ih:Ck ge 145 Q238 (u9 (F_42 N))):Ck ge 145 Q238 (u9 (F_42 (N+1))):=
 mkS ext0 [pr h145 ih] nt ((.c (tagR 1) false [.kb (.s 1 0) [.ps 1 0 0,.ps 1 0 1,.ps 1 0 2,.ps 1 0 3,.ps 1 0 4,.ps 1 0 5,.ps 1 0 6,.ps 1 0 7,.ps 1 0 8],.y 1 1 0 0,.vf 13 [.fo]] .bb (.b .e (.c (tagB 0) true [] (.l [.x 15,.x 16,.vf 17 [.fi]] (.b .bb .e)) .e)))) N Tryz.func145 rfl (rv:=[.tmp 2]) J (by decide) J fun x=>by kernel_rfl
theorem q238(ge:Nat→Value):(N:Nat)→Ck ge 145 Q238 (u9 (F_42 N))
 |0=>Con.none
 |N+1=>z238 ge N (q238 ge N)
theorem h105:HasFn Tryz.prog 105:=hasFn Tryz.func105 rfl rfl
theorem q232(ge N):Ck ge 105 Q232 (u9 (F_152 N)):=
 mkS ext0 [pr h71 (s_tree_Right ge N),pr h145 (q238 ge N)] nt ((.c (tagR 1) false [.vf 2 [.fo]] .bb .e)) N Tryz.func105 rfl (rv:=[.tmp 2]) J (by decide) J fun x=>by kernel_rfl
theorem h106:HasFn Tryz.prog 106:=hasFn Tryz.func106 rfl rfl
theorem q198(ge N):Ck ge 106 Q198 (fun x=>F_62 N x):=
 mkS ext0 [pr h108 (q233 ge N),pr h139 (q71 ge N)] nt ((.c (tagB 0) true [] (.l [.x 0,.x 5,.x 6,.vf 7 [.fi]] (.b (.c (tagR 4) false [.x 0,.vf 21 [.fo],.x 5,.x 6,.x 7] .bb .bb) .e)) .e)) N Tryz.func106 rfl (rv:=[.tmp 2]) J (by decide) J fun x=>by kernel_rfl
theorem h146:HasFn Tryz.prog 146:=hasFn Tryz.func146 rfl rfl
theorem q207(ge N):Ck ge 146 Q207 (fun x=>F_135 N x):=
 mkS ext0 [pr h108 (q233 ge N)] nt ((.c (tagR 1) false [.vf 2 [.fo]] .bb .e)) N Tryz.func146 rfl (rv:=[.tmp 2]) J (by decide) J fun x=>by kernel_rfl
theorem h107:HasFn Tryz.prog 107:=hasFn Tryz.func107 rfl rfl
theorem q206(ge N):Ck ge 107 Q206 (u2 (F_174 N)):=
 mkS ext0 [pr h146 (q207 ge N)] nt ((.c (tagR 1) false [.vf 2 [.fo]] .bb .e)) N Tryz.func107 rfl (rv:=[.tmp 2]) J (by decide) J fun x=>by kernel_rfl
theorem h64:HasFn Tryz.prog 64:=hasFn Tryz.func64 rfl rfl
theorem q202(ge N):Ck ge 64 Q202 (u3 (F_34 N)):=
 mkS ext0 [pr h105 (q232 ge N),pr h106 (q198 ge N),pr h107 (q206 ge N)] (fun t=>match t with|9=>some .str|_=>none) ((.c (tagB 0) true [.kb (.s 1 0) [.ps 1 0 0,.ps 1 0 1,.ps 1 0 2],.y 1 1 0 0,.vf 3 [.own .str]] (.l [.kb (.s 1 0) [.ps 1 0 0,.ps 1 0 1,.ps 1 0 2],.y 1 1 0 0,.x 10,.x 11,.vf 12 [.fi],.vf 3 [.own .str]] (.b .bb .e)) (.c (tagB 2) true [.kb (.s 1 0) [.ps 1 0 0,.ps 1 0 1,.ps 1 0 2],.y 1 1 0 0,.keep (.s 3 0),.x 3] (.l [.kb (.s 1 0) [.ps 1 0 0,.ps 1 0 1,.ps 1 0 2],.y 1 1 0 0,.x 27,.x 28,.vf 29 [.fi],.keep (.s 3 0),.x 3] (.b (.c (tagR 12) false [.kb (.s 1 0) [.ps 1 0 0,.ps 1 0 1,.ps 1 0 2],.y 1 1 0 0,.x 27,.x 28,.x 29,.keep (.s 3 0),.x 3,.vf 54 [.fo]] (.b .e (.b .e .bb)) .bb) .e)) (.c (tagR 15) false [.kb (.s 1 0) [.ps 1 0 0,.ps 1 0 1,.ps 1 0 2],.y 1 1 0 0,.keep (.s 3 0),.x 3,.vf 8 [.fo]] (.b (.b .bb .e) .e) (.c (tagR 16) false [.vf 2 [.fo]] (.b (.b .bb .e) .e) .e))))) N Tryz.func64 rfl (rv:=[.tmp 2]) J (by decide) J fun x=>by kernel_rfl
theorem h65:HasFn Tryz.prog 65:=hasFn Tryz.func65 rfl rfl
theorem q252(ge N):Ck ge 65 Q252 (fun x=>F_230 N x):=cloneC_ok 24 4 (.str) Tryz.func65 rfl rfl rfl (by kernel_rfl)
theorem h66:HasFn Tryz.prog 66:=hasFn Tryz.func66 rfl rfl
theorem q248(ge N):Ck ge 66 Q248 (fun x=>F_235 N):=
 mkS ext0 [] (fun t=>match t with|97=>some .nd|_=>none) (.e) N Tryz.func66 rfl (rv:=[.tmp 0]) J (by decide) J fun x=>by kernel_rfl
theorem h174:HasFn Tryz.prog 174:=hasFn Tryz.func174 rfl rfl
theorem q246(ge N):Ck ge 174 Q246 (fun x=>F_139 N x):=cloneC_ok 95 4 (.nd) Tryz.func174 rfl rfl rfl (by kernel_rfl)
theorem h147:HasFn Tryz.prog 147:=hasFn Tryz.func147 rfl rfl
theorem z227(ge:Nat→Value)(N:Nat)(ih:Ck ge 147 Q227 (u9 (F_28 N))):Ck ge 147 Q227 (u9 (F_28 (N+1))):=
 mkS ext0 [pr h147 ih,pr h174 (q246 ge N)] nt ((.c (tagB 0) false [.kb (.s 1 0) [.ps 1 0 0,.ps 1 0 1,.ps 1 0 2,.ps 1 0 3,.ps 1 0 4,.ar (.s 10 0) .nd,.ps 1 0 6,.ps 1 0 7,.ps 1 0 8],.y 1 1 0 0,.kb (.s 2 0) SI.zn,.y 2 2 0 0] (.l [.kb (.s 1 0) [.ps 1 0 0,.ps 1 0 1,.ps 1 0 2,.ps 1 0 3,.ps 1 0 4,.ar (.s 10 0) .nd,.ps 1 0 6,.ps 1 0 7,.ps 1 0 8],.y 1 1 0 0,.x 10,.x 11,.vf 12 [.fi],.kb (.s 2 0) SI.zn,.y 2 2 0 0] (.b (.c (tagR 5) false [.kb (.s 1 0) [.ps 1 0 0,.ps 1 0 1,.ps 1 0 2,.ps 1 0 3,.ps 1 0 4,.ar (.s 10 0) .nd,.ps 1 0 6,.ps 1 0 7,.ps 1 0 8],.y 1 1 0 0,.x 10,.x 11,.x 12,.kb (.s 2 0) SI.zn,.y 2 2 0 0] (.r (.tk 0 4 (.one 4 (.take 5 (.bar 6 none .done)))) (some 6) [[],[]] .e) .e) .e)) .e)) N Tryz.func147 rfl (rv:=[.cell 2 97]) J (by decide) J fun x=>by kernel_rfl
theorem q227(ge:Nat→Value):(N:Nat)→Ck ge 147 Q227 (u9 (F_28 N))
 |0=>Con.none
 |N+1=>z227 ge N (q227 ge N)
theorem h109:HasFn Tryz.prog 109:=hasFn Tryz.func109 rfl rfl
theorem q249(ge N):Ck ge 109 Q249 (u9 (F_226 N)):=
 mkS ext0 [pr h71 (s_tree_Right ge N),pr h147 (q227 ge N)] nt (.bb) N Tryz.func109 rfl (rv:=[.cell 2 97]) J (by decide) J fun x=>by kernel_rfl
theorem h67:HasFn Tryz.prog 67:=hasFn Tryz.func67 rfl rfl
theorem q205(ge N):Ck ge 67 Q205 (u12 (F_184 N)):=
 mkS ext0 [pr h71 (s_tree_Right ge N),pr h108 (q233 ge N),pr h109 (q249 ge N)] (fun t=>match t with|9=>some .str|_=>none) ((.b .e (.b .e (.b .e (.b .e (.c (tagR 11) false [.keep (.b (.h 0) 0),.kh 0 [.ph 0 0,.ao (.b (.h 0) 1) (.mp .nd)]] (.r (.tk 0 6 (.one 6 (.bar 7 none .done))) (some 7) [[],[]] .e) .e)))))) N Tryz.func67 rfl (rv:=[.tmp 6]) J (by decide) J fun x=>by kernel_rfl
theorem h23:HasFn Tryz.prog 23:=hasFn Tryz.func23 rfl rfl
theorem q203(ge N):Ck ge 23 Q203 (u4 (F_72 N)):=
 mkS ext0 [pr h54 (q73 ge N)] nt (.e) N Tryz.func23 rfl (rv:=[.tmp 4]) J (by decide) J fun x=>by kernel_rfl
theorem h110:HasFn Tryz.prog 110:=hasFn Tryz.func110 rfl rfl
theorem q145(ge N):Ck ge 110 Q145 (fun x=>F_54 N x.2.2.1 x.2.2.2.1 x.2.2.2.2.1 x.1 x.2.1 x.2.2.2.2.2):=
 mkS ext0 [pr h23 (q203 ge N)] (fun t=>match t with|3=>some (.int .i64)|_=>none) ((.c (tagB 0) true [.keep (.b (.h 1) 0),.keep (.b (.h 1) 1),.keep (.b (.h 1) 2),.kh 1 [.ph 1 0,.ph 1 1,.ph 1 2,.q (.h 0) 0],.keep (.b (.h 0) 0),.keepo (.b (.h 0) 1),.kh 0 [.ph 0 0,.ph 0 1],.vf 6 [.own (.int .i64)]] (.l [.keep (.b (.h 1) 0),.keep (.b (.h 1) 1),.keep (.b (.h 1) 2),.kh 1 [.ph 1 0,.ph 1 1,.ph 1 2,.q (.h 0) 0],.keep (.b (.h 0) 0),.keepo (.b (.h 0) 1),.kh 0 [.ph 0 0,.ph 0 1],.vf 0 [.q (.h 1) 0],.x 10,.x 11,.vf 12 [.fi],.vf 6 [.own (.int .i64)]] (.b (.b (.r (.tk 0 3 .done) none [[]] .e) .e) .e)) .e)) N Tryz.func110 rfl (rv:=[.tmp 4,.tmp 5]) J (by decide) J fun x=>by kernel_rfl
theorem h177:HasFn Tryz.prog 177:=hasFn Tryz.func177 rfl rfl
theorem h149:HasFn Tryz.prog 149:=hasFn Tryz.func149 rfl rfl
theorem q92(ge:Nat→Value)(N:Nat)(self_:(List BA)→(List (BA×Nd))→Int→(List BA)→Int→Int→Int→Int→Int→Int→(List Nd)→Int→Int→BA→Int→Option ((List BA)×(List (BA×Nd))×Int×(List BA)×Int×Int×Int×Int×Int×Int×(List Nd)×Int×Int×BA))(hself:Ck ge 149 Q82 (fun x=>self_ x.1 x.2.1 x.2.2.1 x.2.2.2.1 x.2.2.2.2.1 x.2.2.2.2.2.1 x.2.2.2.2.2.2.1 x.2.2.2.2.2.2.2.1 x.2.2.2.2.2.2.2.2.1 x.2.2.2.2.2.2.2.2.2.1 x.2.2.2.2.2.2.2.2.2.2.1 x.2.2.2.2.2.2.2.2.2.2.2.1 x.2.2.2.2.2.2.2.2.2.2.2.2.1 x.2.2.2.2.2.2.2.2.2.2.2.2.2.1 x.2.2.2.2.2.2.2.2.2.2.2.2.2.2)):Ck ge 177 Q92 (fun x=>F_151 N self_ x.1 x.2.1 x.2.2.1 x.2.2.2.1 x.2.2.2.2.1 x.2.2.2.2.2.1 x.2.2.2.2.2.2):=
 mkS ext0 [pr h139 (q71 ge N),pr h149 hself] (fun t=>match t with|9=>some .str|_=>none) ((.b .e (.b .e (.c (tagR 10) false [.keep (.b (.h 0) 0),.keepo (.b (.h 0) 1),.kh 0 [.ph 0 0,.ph 0 1],.kh 1 [.q (.h 0) 0,.ph 1 1,.own .str,.ph 1 3],.kb (.s 6 0) SI.zn,.y 6 6 0 0,.kb (.s 7 0) [.ps 7 0 0,.ps 7 0 1,.ps 7 0 2,.ps 7 0 3,.ps 7 0 4,.ps 7 0 5,.ps 7 0 6,.ps 7 0 7,.ps 7 0 8],.y 7 7 0 0] (.r (.tk 0 9 (.one 9 (.take 10 (.one 11 (.take 12 (.take 13 (.bar 14 none .done))))))) (some 14) [[(.b (.h 1) 2)],[]] .e) .e)))) N Tryz.func177 rfl (rv:=[.cell 6 97]) J (by decide) J fun x=>by kernel_rfl
theorem z82(ge:Nat→Value)(N:Nat)(ih:Ck ge 149 Q82 (u15 (F_7 N))):Ck ge 149 Q82 (u15 (F_7 (N+1))):=
 mkS ext0 [pr h149 ih,pr h174 (q246 ge N),pr h177 (q92 ge N _ ih)] nt ((.b .e (.b .e (.b .e (.b .e (.c (tagB 1) false [.kh 0 [.ar (.b (.h 0) 0) .str,.ao (.b (.h 0) 1) (.mp .nd)],.kh 1 [.q (.h 0) 0,.fi,.own .str,.lf .err],.kb (.s 4 0) [.ps 4 0 0,.ps 4 0 1,.ps 4 0 2,.ps 4 0 3,.ps 4 0 4,.ar (.s 56 0) .nd,.ps 4 0 6,.ps 4 0 7,.ps 4 0 8],.y 4 4 0 0,.kb (.s 6 0) SI.zn,.y 6 6 0 0] (.l [.kh 0 [.ar (.b (.h 0) 0) .str,.ao (.b (.h 0) 1) (.mp .nd)],.kh 1 [.q (.h 0) 0,.fi,.own .str,.lf .err],.vf 0 [.q (.h 1) 0],.x 2,.kb (.s 4 0) [.ps 4 0 0,.ps 4 0 1,.ps 4 0 2,.ps 4 0 3,.ps 4 0 4,.ar (.s 56 0) .nd,.ps 4 0 6,.ps 4 0 7,.ps 4 0 8],.y 4 4 0 0,.x 56,.x 57,.vf 58 [.fi],.kb (.s 6 0) SI.zn,.y 6 6 0 0] (.b (.c (tagR 16) false [.kh 0 [.ar (.b (.h 0) 0) .str,.ao (.b (.h 0) 1) (.mp .nd)],.kh 1 [.q (.h 0) 0,.fi,.own .str,.lf .err],.vf 0 [.q (.h 1) 0],.x 2,.kb (.s 4 0) [.ps 4 0 0,.ps 4 0 1,.ps 4 0 2,.ps 4 0 3,.ps 4 0 4,.ar (.s 56 0) .nd,.ps 4 0 6,.ps 4 0 7,.ps 4 0 8],.y 4 4 0 0,.x 56,.x 57,.x 58,.kb (.s 6 0) SI.zn,.y 6 6 0 0] (.r (.tk 0 7 (.one 7 (.take 8 (.bar 9 none .done)))) (some 9) [[(.h 1),(.b (.h 0) 0),(.h 0),(.b (.h 0) 1),(.b (.h 1) 2)],[]] .e) .e) .e)) .e)))))) N Tryz.func149 rfl (rv:=[.cell 6 97]) J (by decide) J fun x=>by kernel_rfl
theorem q82(ge:Nat→Value):(N:Nat)→Ck ge 149 Q82 (u15 (F_7 N))
 |0=>Con.none
 |N+1=>z82 ge N (q82 ge N)
theorem h111:HasFn Tryz.prog 111:=hasFn Tryz.func111 rfl rfl
theorem q175(ge N):Ck ge 111 Q175 (u11 (F_150 N)):=
 mkS ext0 [pr h71 (s_tree_Right ge N),pr h149 (q82 ge N)] nt ((.b (.c (tagR 2) false [.keep (.b (.h 0) 0),.keepo (.b (.h 0) 1),.kh 0 [.ph 0 0,.ph 0 1],.kb (.s 4 0) SI.zn,.y 4 4 0 0,.vf 5 [.er 1]] (.r (.take 0 (.take 1 (.one 2 (.take 3 .done)))) none [[]] .e) .e) (.b (.c (tagR 6) false [.keep (.b (.h 0) 0),.keepo (.b (.h 0) 1),.kh 0 [.ph 0 0,.ph 0 1],.kb (.s 4 0) SI.zn,.y 4 4 0 0,.vf 5 [.ps 6 0 3]] (.r (.tk 0 5 (.one 5 (.take 6 .done))) none [[]] .e) .e) .e))) N Tryz.func111 rfl (rv:=[.cell 4 97,.tmp 5]) J (by decide) J fun x=>by kernel_rfl
theorem h115:HasFn Tryz.prog 115:=hasFn Tryz.func115 rfl rfl
theorem q212(ge N):Ck ge 115 Q212 (fun x=>F_76 N x):=
 mkS ext0 [] nt (.e) N Tryz.func115 rfl (rv:=[.cell 2 167]) J (by decide) J fun x=>by kernel_rfl
theorem h48:HasFn Tryz.prog 48:=hasFn Tryz.func48 rfl rfl
theorem q200(ge N):Ck ge 48 Q200 (u4 (F_239 N)):=
 mkS ext0 [] nt (.e) N Tryz.func48 rfl (rv:=[.tmp 2]) J (by decide) J fun x=>by kernel_rfl
theorem h154:HasFn Tryz.prog 154:=hasFn Tryz.func154 rfl rfl
theorem q219(ge N):Ck ge 154 Q219 (fun x=>F_166 N):=
 mkS ext0 [] nt (.e) N Tryz.func154 rfl (rv:=[.cell 0 167]) J (by decide) J fun x=>by kernel_rfl
theorem h153:HasFn Tryz.prog 153:=hasFn Tryz.func153 rfl rfl
theorem q244(ge N):Ck ge 153 Q244 (u2 (F_63 N)):=
 mkS ext0 [] nt (.e) N Tryz.func153 rfl (rv:=[.tmp 4]) J (by decide) J fun x=>by kernel_rfl
theorem h155:HasFn Tryz.prog 155:=hasFn Tryz.func155 rfl rfl
theorem q159(ge N):Ck ge 155 Q159 (u34 (F_220 N)):=
 mkS ext0 [pr h115 (q212 ge N),pr h153 (q244 ge N),pr h178 (q220 ge N)] nt ((.c (tagR 1) false [.vf 11 [.fo],.kb (.s 2 0) [.fo,.ps 2 0 1,.ps 2 0 2,.ps 2 0 3,.ps 2 0 4,.ps 2 0 5,.ps 2 0 6,.ps 2 0 7,.ps 2 0 8,.ps 2 0 9,.ps 2 0 10,.ps 2 0 11,.ps 2 0 12,.ps 2 0 13,.ps 2 0 14,.ps 2 0 15,.ps 2 0 16],.y 2 2 0 0,.kb (.s 3 0) [.ps 3 0 0,.ps 3 0 1,.ps 3 0 2,.ps 3 0 3,.ps 3 0 4,.ps 3 0 5,.ps 3 0 6,.ps 3 0 7,.ps 3 0 8,.ps 3 0 9,.ps 3 0 10,.ps 3 0 11,.ps 3 0 12,.ps 3 0 13,.ps 3 0 14,.ps 3 0 15,.ps 3 0 16],.y 3 3 0 0,.kb (.s 4 0) SI.zf,.y 4 4 0 0] .bb (.b .e (.c (tagR 3) false [.kb (.s 2 0) [.ps 2 0 0,.fo,.ps 2 0 2,.ps 2 0 3,.ps 2 0 4,.ps 2 0 5,.ps 2 0 6,.ps 2 0 7,.ps 2 0 8,.ps 2 0 9,.ps 2 0 10,.ps 2 0 11,.ps 2 0 12,.ps 2 0 13,.ps 2 0 14,.ps 2 0 15,.ps 2 0 16],.y 2 2 0 0,.kb (.s 3 0) [.ps 3 0 0,.ps 3 0 1,.ps 3 0 2,.ps 3 0 3,.ps 3 0 4,.ps 3 0 5,.ps 3 0 6,.ps 3 0 7,.ps 3 0 8,.ps 3 0 9,.ps 3 0 10,.ps 3 0 11,.ps 3 0 12,.ps 3 0 13,.ps 3 0 14,.ps 3 0 15,.ps 3 0 16],.y 3 3 0 0,.kb (.s 4 0) SI.zf,.y 4 4 0 0,.bx (.slot 5 0) [.k (.bool false),.fo,.fi,.fi,.ki,.ps 2 0 5,.ps 2 0 6,.ps 2 0 7,.ps 2 0 8,.ps 3 0 9,.ps 3 0 10,.ps 3 0 11,.ps 3 0 12,.fu,.fu,.fu,.fu],.vf 5 [.pt 0 0]] (.r (.tk 0 10 (.tk 11 4 (.tk 16 8 (.two 10 26 (.two 15 26 (.two 24 26 (.take 25 (.one 26 (.bar 27 none .done))) (.one 24 (.take 25 (.bar 27 none .done)))) (.one 15 (.one 24 (.take 25 (.bar 27 none .done))))) (.one 10 (.one 15 (.one 24 (.take 25 (.bar 27 none .done))))))))) (some 27) [[],[]] .bb) (.c (tagC (.tmp 40)) false [.kb (.s 2 0) [.ps 2 0 0,.ps 2 0 1,.ps 2 0 2,.ps 2 0 3,.ps 2 0 4,.ps 2 0 5,.ps 2 0 6,.ps 2 0 7,.ps 2 0 8,.ps 2 0 9,.ps 2 0 10,.ps 2 0 11,.ps 2 0 12,.ps 2 0 13,.ps 2 0 14,.ps 2 0 15,.ps 2 0 16],.y 2 2 0 0,.kb (.s 3 0) [.ps 3 0 0,.ps 3 0 1,.ps 3 0 2,.ps 3 0 3,.ps 3 0 4,.ps 3 0 5,.ps 3 0 6,.ps 3 0 7,.ps 3 0 8,.ps 3 0 9,.ps 3 0 10,.ps 3 0 11,.ps 3 0 12,.ps 3 0 13,.ps 3 0 14,.ps 3 0 15,.ps 3 0 16],.y 3 3 0 0,.kb (.s 4 0) SI.zf,.y 4 4 0 0,.kb (.s 5 0) [.k (.bool false),.ps 5 0 1,.ps 5 0 2,.ps 5 0 3,.ki,.fu,.fu,.fu,.fu,.ps 5 0 9,.ps 5 0 10,.ps 5 0 11,.ps 5 0 12,.ps 5 0 13,.ps 5 0 14,.ps 5 0 15,.ps 5 0 16],.y 5 5 0 0] .bb (.c (tagC (.tmp 48)) false [.kb (.s 4 0) SI.zf,.y 4 4 0 0,.kb (.s 5 0) [.k (.bool false),.ps 5 0 1,.ps 5 0 2,.ps 5 0 3,.ki,.ps 5 0 5,.ps 5 0 6,.ps 5 0 7,.ps 5 0 8,.fu,.fu,.fu,.fu,.ps 5 0 13,.ps 5 0 14,.ps 5 0 15,.ps 5 0 16],.y 5 5 0 0] .bb .e)))))) N Tryz.func155 rfl (rv:=[.cell 4 167]) J (by decide) J fun x=>by kernel_rfl
theorem h156:HasFn Tryz.prog 156:=hasFn Tryz.func156 rfl rfl
theorem q204(ge N):Ck ge 156 Q204 (u34 (F_221 N)):=
 mkS ext0 [pr h178 (q220 ge N)] nt ((.b .e (.b .e (.c (tagR 5) false [.kb (.s 4 0) [.k (.bool false),.fo,.fi,.fi,.ki,.fu,.fu,.fu,.fu,.fu,.fu,.fu,.fu,.fu,.fu,.fu,.fu],.y 4 4 0 0] (.r (.tk 0 20 (.tk 21 4 (.tk 26 4 (.one 20 (.one 25 (.one 30 (.take 31 (.bar 32 none .done)))))))) (some 32) [[],[]] .bb) .e)))) N Tryz.func156 rfl (rv:=[.cell 4 167]) J (by decide) J fun x=>by kernel_rfl
theorem h158:HasFn Tryz.prog 158:=hasFn Tryz.func158 rfl rfl
theorem q236(ge N):Ck ge 158 Q236 (u2 (F_87 N)):=
 mkS ext0 [] nt ((.c (tagR 1) false [.x 0,.x 1,.vf 12 [.fo]] .bb .bb)) N Tryz.func158 rfl (rv:=[.tmp 4]) J (by decide) J fun x=>by kernel_rfl
theorem h157:HasFn Tryz.prog 157:=hasFn Tryz.func157 rfl rfl
theorem q180(ge N):Ck ge 157 Q180 (u19 (F_219 N)):=
 mkS ext0 [pr h115 (q212 ge N),pr h154 (q219 ge N),pr h158 (q236 ge N)] nt ((.b .bb (.c (tagR 6) false [.x 1,.x 2,.kb (.s 3 0) [.ps 3 0 0,.fo,.ps 3 0 2,.ps 3 0 3,.ps 3 0 4,.ps 3 0 5,.ps 3 0 6,.ps 3 0 7,.ps 3 0 8,.ps 3 0 9,.ps 3 0 10,.ps 3 0 11,.ps 3 0 12,.ps 3 0 13,.ps 3 0 14,.ps 3 0 15,.ps 3 0 16],.y 3 3 0 0,.kb (.s 6 0) SI.zf,.y 6 6 0 0,.kb (.s 7 0) [.ps 7 0 0,.fo,.ps 7 0 2,.ps 7 0 3,.ps 7 0 4,.ps 7 0 5,.ps 7 0 6,.ps 7 0 7,.ps 7 0 8,.ps 7 0 9,.ps 7 0 10,.ps 7 0 11,.ps 7 0 12,.ps 7 0 13,.ps 7 0 14,.ps 7 0 15,.ps 7 0 16],.y 7 7 0 0] .bb (.c (tagC (.tmp 33)) false [.kb (.s 6 0) SI.zf,.y 6 6 0 0,.kb (.s 7 0) [.ps 7 0 0,.ps 7 0 1,.ps 7 0 2,.fi,.ps 7 0 4,.ps 7 0 5,.ps 7 0 6,.ps 7 0 7,.ps 7 0 8,.ps 7 0 9,.ps 7 0 10,.ps 7 0 11,.ps 7 0 12,.ps 7 0 13,.ps 7 0 14,.ps 7 0 15,.ps 7 0 16],.y 7 7 0 0] (.b (.c (tagC (.tmp 37)) false [.kb (.s 6 0) SI.zf,.y 6 6 0 0,.kb (.s 7 0) [.ps 7 0 0,.ps 7 0 1,.ps 7 0 2,.fi,.ps 7 0 4,.ps 7 0 5,.ps 7 0 6,.ps 7 0 7,.ps 7 0 8,.ps 7 0 9,.ps 7 0 10,.ps 7 0 11,.ps 7 0 12,.ps 7 0 13,.ps 7 0 14,.ps 7 0 15,.ps 7 0 16],.y 7 7 0 0] .bb .e) .e) .e)))) N Tryz.func157 rfl (rv:=[.cell 6 167]) J (by decide) J fun x=>by kernel_rfl
theorem h116:HasFn Tryz.prog 116:=hasFn Tryz.func116 rfl rfl
theorem z234(ge:Nat→Value)(N:Nat)(ih:Ck ge 116 Q234 (u9 (F_13 N))):Ck ge 116 Q234 (u9 (F_13 (N+1))):=
 mkS ext0 [pr h48 (q200 ge N),pr h115 (q212 ge N),pr h116 ih,pr h153 (q244 ge N),pr h154 (q219 ge N),pr h155 (q159 ge N),pr h156 (q204 ge N),pr h157 (q180 ge N),pr h158 (q236 ge N)] (fun t=>match t with|167=>some (.pair .bool (.pair .bool (.pair (.int .i64) (.pair (.int .i64) (.pair (.int .i64) (.pair (.pair (.int .u64) (.pair (.int .u64) (.pair (.int .u64) (.int .u64)))) (.pair (.pair (.int .u64) (.pair (.int .u64) (.pair (.int .u64) (.int .u64)))) (.pair (.int .u64) (.pair (.int .u64) (.pair (.int .u64) (.int .u64)))))))))))|_=>none) ((.c (tagB 0) false [.kb (.s 1 0) [.ps 1 0 0,.ps 1 0 1,.ps 1 0 2,.ps 1 0 3,.ps 1 0 4,.ps 1 0 5,.ps 1 0 6,.ps 1 0 7,.ps 1 0 8],.y 1 1 0 0,.kb (.s 2 0) SI.zf,.y 2 2 0 0,.vf 3 [.own (.pair .bool (.pair .bool (.pair (.int .i64) (.pair (.int .i64) (.pair (.int .i64) (.pair (.pair (.int .u64) (.pair (.int .u64) (.pair (.int .u64) (.int .u64)))) (.pair (.pair (.int .u64) (.pair (.int .u64) (.pair (.int .u64) (.int .u64)))) (.pair (.int .u64) (.pair (.int .u64) (.pair (.int .u64) (.int .u64)))))))))))],.vf 4 [.fi]] (.l [.kb (.s 1 0) [.ps 1 0 0,.ps 1 0 1,.ps 1 0 2,.ps 1 0 3,.ps 1 0 4,.ps 1 0 5,.ps 1 0 6,.ps 1 0 7,.ps 1 0 8],.y 1 1 0 0,.x 15,.x 16,.vf 17 [.fi],.kb (.s 2 0) SI.zf,.y 2 2 0 0,.vf 3 [.own (.pair .bool (.pair .bool (.pair (.int .i64) (.pair (.int .i64) (.pair (.int .i64) (.pair (.pair (.int .u64) (.pair (.int .u64) (.pair (.int .u64) (.int .u64)))) (.pair (.pair (.int .u64) (.pair (.int .u64) (.pair (.int .u64) (.int .u64)))) (.pair (.int .u64) (.pair (.int .u64) (.pair (.int .u64) (.int .u64)))))))))))],.vf 4 [.fi]] .bb) (.c (tagB 2) false [.kb (.s 2 0) SI.zf,.y 2 2 0 0,.vf 4 [.fi],.kb (.s 8 0) [.fo,.fo,.fi,.fi,.fi,.fu,.fu,.fu,.fu,.fu,.fu,.fu,.fu,.fu,.fu,.fu,.fu],.y 8 8 0 0] (.c (tagC (.tmp 35)) false [.kb (.s 2 0) SI.zf,.y 2 2 0 0,.vf 4 [.fi],.kb (.s 8 0) [.fo,.fo,.fi,.fi,.fi,.fu,.fu,.fu,.fu,.fu,.fu,.fu,.fu,.fu,.fu,.fu,.fu],.y 8 8 0 0] (.b (.c (tagC (.tmp 46)) false [.kb (.s 2 0) SI.zf,.y 2 2 0 0,.x 4,.kb (.s 8 0) [.fo,.k (.bool false),.fi,.fi,.ki,.fu,.fu,.fu,.fu,.fu,.fu,.fu,.fu,.fu,.fu,.fu,.fu],.y 8 8 0 0] .bb .e) (.c (tagC (.tmp 48)) false [.kb (.s 2 0) SI.zf,.y 2 2 0 0,.vf 4 [.fi],.kb (.s 8 0) [.fo,.fo,.fi,.fi,.fi,.fu,.fu,.fu,.fu,.fu,.fu,.fu,.fu,.fu,.fu,.fu,.fu],.y 8 8 0 0] (.b (.c (tagB 3) false [.kb (.s 2 0) SI.zf,.y 2 2 0 0,.x 4,.kb (.s 8 0) [.fo,.fo,.fi,.fi,.ki,.fu,.fu,.fu,.fu,.fu,.fu,.fu,.fu,.fu,.fu,.fu,.fu],.y 8 8 0 0] (.l [.kb (.s 2 0) SI.zf,.y 2 2 0 0,.x 4,.keep (.s 51 0),.x 51,.x 52,.vf 53 [.fi],.kb (.s 8 0) [.fo,.fo,.fi,.fi,.ki,.fu,.fu,.fu,.fu,.fu,.fu,.fu,.fu,.fu,.fu,.fu,.fu],.y 8 8 0 0] .bb) .e) (.c (tagC (.tmp 61)) false [.kb (.s 2 0) SI.zf,.y 2 2 0 0,.vf 4 [.fi],.kb (.s 8 0) [.fo,.fo,.fi,.fi,.fi,.fu,.fu,.fu,.fu,.fu,.fu,.fu,.fu,.fu,.fu,.fu,.fu],.y 8 8 0 0] (.b (.c (tagB 5) false [.kb (.s 2 0) SI.zf,.y 2 2 0 0,.x 4,.kb (.s 8 0) [.fo,.fo,.fi,.fi,.fi,.fu,.fu,.fu,.fu,.fu,.fu,.fu,.fu,.fu,.fu,.fu,.fu],.y 8 8 0 0] (.l [.kb (.s 2 0) SI.zf,.y 2 2 0 0,.x 4,.keep (.s 67 0),.x 67,.x 68,.vf 69 [.fi],.kb (.s 8 0) [.fo,.fo,.fi,.fi,.fi,.fu,.fu,.fu,.fu,.fu,.fu,.fu,.fu,.fu,.fu,.fu,.fu],.y 8 8 0 0] .bb) .e) (.c (tagC (.tmp 77)) false [.kb (.s 2 0) SI.zf,.y 2 2 0 0,.vf 4 [.fi],.kb (.s 8 0) [.fo,.fo,.fi,.fi,.fi,.fu,.fu,.fu,.fu,.fu,.fu,.fu,.fu,.fu,.fu,.fu,.fu],.y 8 8 0 0] (.b (.c (tagR 32) false [.kb (.s 1 0) [.ps 1 0 0,.ps 1 0 1,.ps 1 0 2,.ps 1 0 3,.ps 1 0 4,.ps 1 0 5,.ps 1 0 6,.ps 1 0 7,.ps 1 0 8],.y 1 1 0 0,.kb (.s 2 0) SI.zf,.y 2 2 0 0,.keep (.s 3 0),.x 3,.kb (.s 8 0) [.fo,.fo,.fi,.fi,.fi,.fu,.fu,.fu,.fu,.fu,.fu,.fu,.fu,.fu,.fu,.fu,.fu],.y 8 8 0 0] (.r (.tk 0 7 (.bar 7 (some 8) (.bar 8 none .done))) (some 7) [[],[],[]] .e) (.c (tagC (.tmp 90)) false [.vf 13 [.fi],.kb (.s 2 0) SI.zf,.y 2 2 0 0,.keep (.s 3 0),.x 3,.kb (.s 8 0) [.ps 8 0 0,.ps 8 0 1,.ps 8 0 2,.ps 8 0 3,.ps 8 0 4,.ps 8 0 5,.ps 8 0 6,.ps 8 0 7,.ps 8 0 8,.ps 8 0 9,.ps 8 0 10,.ps 8 0 11,.ps 8 0 12,.ps 8 0 13,.ps 8 0 14,.ps 8 0 15,.ps 8 0 16],.y 8 8 0 0] .bb .e)) .e) .e)) .e)) .e)) .e) .e))) N Tryz.func116 rfl (rv:=[.cell 2 167]) J (by decide) J fun x=>by kernel_rfl
theorem q234(ge:Nat→Value):(N:Nat)→Ck ge 116 Q234 (u9 (F_13 N))
 |0=>Con.none
 |N+1=>z234 ge N (q234 ge N)
theorem h72:HasFn Tryz.prog 72:=hasFn Tryz.func72 rfl rfl
theorem q251(ge N):Ck ge 72 Q251 (u9 (F_240 N)):=
 mkS ext0 [pr h71 (s_tree_Right ge N),pr h115 (q212 ge N),pr h116 (q234 ge N)] nt (.bb) N Tryz.func72 rfl (rv:=[.cell 2 167]) J (by decide) J fun x=>by kernel_rfl
theorem h35:HasFn Tryz.prog 35:=hasFn Tryz.func35 rfl rfl
theorem q214(ge N):Ck ge 35 Q214 (u9 (F_105 N)):=
 mkS ext0 [pr h72 (q251 ge N)] nt (.e) N Tryz.func35 rfl (rv:=[.tmp 2]) J (by decide) J fun x=>by kernel_rfl
theorem h112:HasFn Tryz.prog 112:=hasFn Tryz.func112 rfl rfl
theorem q155(ge N):Ck ge 112 Q155 (fun x=>F_238 N x.2.2.1 x.2.2.2.1 x.2.2.2.2.1 x.1 x.2.1 x.2.2.2.2.2):=
 mkS ext0 [pr h54 (q73 ge N)] (fun t=>match t with|9=>some .str|_=>none) ((.b .e .bb)) N Tryz.func112 rfl (rv:=[.tmp 4]) J (by decide) J fun x=>by kernel_rfl
theorem h68:HasFn Tryz.prog 68:=hasFn Tryz.func68 rfl rfl
theorem q160(ge N):Ck ge 68 Q160 (fun x=>F_218 N x.2.2.1 x.2.2.2.1 x.2.2.2.2.1 x.1 x.2.1 x.2.2.2.2.2.1 x.2.2.2.2.2.2.1 x.2.2.2.2.2.2.2.1 x.2.2.2.2.2.2.2.2.1 x.2.2.2.2.2.2.2.2.2.1 x.2.2.2.2.2.2.2.2.2.2.1 x.2.2.2.2.2.2.2.2.2.2.2.1 x.2.2.2.2.2.2.2.2.2.2.2.2.1 x.2.2.2.2.2.2.2.2.2.2.2.2.2.1 x.2.2.2.2.2.2.2.2.2.2.2.2.2.2.1 x.2.2.2.2.2.2.2.2.2.2.2.2.2.2.2.1 x.2.2.2.2.2.2.2.2.2.2.2.2.2.2.2.2.1 x.2.2.2.2.2.2.2.2.2.2.2.2.2.2.2.2.2):=
 mkS ext0 [pr h23 (q203 ge N),pr h35 (q214 ge N),pr h110 (q145 ge N),pr h111 (q175 ge N),pr h112 (q155 ge N)] (fun t=>match t with|99=>some (.pair (.list (.int .i64)) (.pair .nd (.pair (.int .i64) (.int .i64))))|_=>none) ((.b .e (.c (tagC (.tmp 22)) true [.keep (.b (.h 1) 0),.keep (.b (.h 1) 1),.keep (.b (.h 1) 2),.kh 1 [.ph 1 0,.ph 1 1,.ph 1 2,.q (.h 0) 0],.keep (.b (.h 0) 0),.keepo (.b (.h 0) 1),.kh 0 [.ph 0 0,.ph 0 1],.vf 0 [.q (.h 1) 0],.kb (.s 3 0) [.ps 3 0 0,.ps 3 0 1,.ps 3 0 2,.ps 3 0 3,.ps 3 0 4,.ps 3 0 5,.ps 3 0 6,.ps 3 0 7,.ps 3 0 8,.ps 3 0 9,.ps 3 0 10,.ps 3 0 11,.ps 3 0 12],.y 3 3 0 0,.keep (.s 5 0),.x 5,.vf 7 [.fi]] (.b (.r (.tk 0 7 (.bar 7 none (.take 8 .done))) (some 7) [[],[]] .bb) .e) (.c (tagR 9) false [.keep (.b (.h 1) 0),.keep (.b (.h 1) 1),.keep (.b (.h 1) 2),.kh 1 [.ph 1 0,.ph 1 1,.ph 1 2,.q (.h 0) 0],.kh 0 [.ar (.b (.h 0) 0) .str,.ao (.b (.h 0) 1) (.mp .nd)],.vf 0 [.q (.h 1) 0],.kb (.s 3 0) [.ps 3 0 0,.ps 3 0 1,.ps 3 0 2,.ps 3 0 3,.ps 3 0 4,.ps 3 0 5,.ps 3 0 6,.ps 3 0 7,.ps 3 0 8,.ps 3 0 9,.ps 3 0 10,.ps 3 0 11,.ps 3 0 12],.y 3 3 0 0,.keep (.s 5 0),.x 5,.vf 6 [.lf .err],.x 7,.bx (.slot 8 0) [.fi,.fu,.fu,.fu,.fu,.sl .nd,.fi,.fi,.lf .str],.vf 8 [.pt 0 0]] (.r (.tk 0 6 (.two 6 10 (.tk 7 3 (.one 10 (.one 11 (.take 12 .done)))) (.one 6 (.tk 7 3 (.one 11 (.take 12 .done)))))) none [[(.b (.h 0) 0),(.h 0),(.b (.h 0) 1)]] .e) (.b .e (.b .e (.c (tagR 14) false [.kh 1 [.ar (.b (.h 1) 0) .str,.own .str,.own (.pair (.list (.int .i64)) (.pair .nd (.pair (.int .i64) (.int .i64)))),.q (.h 0) 0],.kh 0 [.ar (.b (.h 0) 0) .str,.ao (.b (.h 0) 1) (.mp .nd)]] (.r (.tk 0 12 (.take 13 (.one 12 (.take 14 (.one 15 (.one 16 (.tk 17 3 (.bar 20 none .done)))))))) (some 20) [[(.h 1),(.b (.h 1) 0),(.b (.h 1) 1),(.b (.h 1) 2),(.b (.h 0) 0),(.h 0),(.b (.h 0) 1),(.s 5 0),(.c (.h 1) 2)],[]] .e) .e))))))) N Tryz.func68 rfl (rv:=[.tmp 4]) J (by decide) J fun x=>by kernel_rfl
theorem h32:HasFn Tryz.prog 32:=hasFn Tryz.func32 rfl rfl
theorem q230(ge N):Ck ge 32 Q230 (u3 (F_27 N)):=
 mkS ext0 [pr h64 (q202 ge N),pr h65 (q252 ge N),pr h66 (q248 ge N),pr h67 (q205 ge N),pr h68 (q160 ge N)] nt ((.b (.c (tagR 2) false [.kb (.s 2 0) [.k (.slice none 0 0),.k (.slice none 0 0),.k (.slice none 0 0)],.y 2 2 0 0,.vf 3 [.ki],.vf 4 [.er 1]] (.r (.take 0 (.take 1 (.one 2 (.take 3 (.take 4 .done))))) none [[]] .e) .e) (.b (.c (tagR 4) false [.kb (.s 2 0) [.k (.slice none 0 0),.k (.slice none 0 0),.k (.slice none 0 0)],.y 2 2 0 0,.vf 3 [.ki],.vf 4 [.er 4]] (.r (.take 0 (.take 1 (.one 2 (.take 3 (.take 4 .done))))) none [[]] .e) .e) (.c (tagB 1) true [.kb (.s 1 0) [.ps 1 0 0,.ps 1 0 1,.ps 1 0 2],.y 1 1 0 0,.kb (.s 2 0) [.k (.slice none 0 0),.k (.slice none 0 0),.k (.slice none 0 0)],.y 2 2 0 0,.keep (.b (.s 5 0) 0),.kb (.s 5 0) [.ps 5 0 0,.k (.slice none 0 0),.k (.slice none 0 0),.q (.b (.s 5 0) 3) 0],.kb (.b (.s 5 0) 3) [.own .str,.ao (.b (.b (.s 5 0) 3) 1) (.mp .nd)],.y 5 5 0 0] (.l [.kb (.s 1 0) [.ps 1 0 0,.ps 1 0 1,.ps 1 0 2],.y 1 1 0 0,.kb (.s 2 0) [.k (.slice none 0 0),.k (.slice none 0 0),.k (.slice none 0 0)],.y 2 2 0 0,.x 33,.x 34,.vf 35 [.fi],.keep (.b (.s 5 0) 0),.kb (.s 5 0) [.ps 5 0 0,.k (.slice none 0 0),.k (.slice none 0 0),.q (.b (.s 5 0) 3) 0],.kb (.b (.s 5 0) 3) [.own .str,.ao (.b (.b (.s 5 0) 3) 1) (.mp .nd)],.y 5 5 0 0] (.b (.r (.tk 0 8 (.bar 8 none (.take 9 .done))) (some 8) [[],[]] (.b (.c (tagR 11) false [.kb (.s 2 0) [.k (.slice none 0 0),.k (.slice none 0 0),.k (.slice none 0 0)],.y 2 2 0 0,.vf 3 [.ps 7 0 10],.w 4 8 0] (.r (.tk 0 4 (.one 4 (.take 5 (.take 6 .done)))) none [[]] .e) .e) .e)) .e)) (.c (tagB 3) true [.kb (.s 2 0) [.k (.slice none 0 0),.k (.slice none 0 0),.k (.slice none 0 0)],.y 2 2 0 0,.kb (.s 5 0) [.ar (.b (.s 5 0) 0) .str,.own .str,.own (.pair (.list (.int .i64)) (.pair .nd (.pair (.int .i64) (.int .i64)))),.q (.b (.s 5 0) 3) 0],.kb (.b (.s 5 0) 3) [.ar (.b (.b (.s 5 0) 3) 0) .str,.ao (.b (.b (.s 5 0) 3) 1) (.mp .nd)],.y 5 5 0 0] (.l [.kb (.s 2 0) [.k (.slice none 0 0),.k (.slice none 0 0),.k (.slice none 0 0)],.y 2 2 0 0,.kb (.s 5 0) [.ar (.b (.s 5 0) 0) .str,.own .str,.own (.pair (.list (.int .i64)) (.pair .nd (.pair (.int .i64) (.int .i64)))),.q (.b (.s 5 0) 3) 0],.kb (.b (.s 5 0) 3) [.ar (.b (.b (.s 5 0) 3) 0) .str,.ao (.b (.b (.s 5 0) 3) 1) (.mp .nd)],.y 5 5 0 0,.x 56,.x 57,.vf 58 [.fi]] (.b (.b (.c (tagR 18) false [.kb (.s 2 0) [.k (.slice none 0 0),.k (.slice none 0 0),.k (.slice none 0 0)],.y 2 2 0 0,.vf 3 [.ps 10 0 12],.w 4 11 0] (.r (.tk 0 4 (.one 4 (.take 5 (.take 6 .done)))) none [[]] .e) .e) .e) .e)) .e))))) N Tryz.func32 rfl (rv:=[.cell 2 27,.tmp 3,.tmp 4]) J (by decide) J fun x=>by kernel_rfl
theorem h8:HasFn Tryz.prog 8:=hasFn Tryz.func8 rfl rfl
theorem q241(ge N):Ck ge 8 Q241 (fun x=>F_127 N x):=
 mkS ext0 [pr h31 (s_rulefile_Parse ge N),pr h32 (q230 ge N)] nt (.bb) N Tryz.func8 rfl (rv:=[.cell 2 27,.tmp 3,.tmp 4]) J (by decide) J fun x=>by kernel_rfl
theorem c_35{C:Cx}{w:World}{ρ:View}{hs:List Hl}{gV:Nat→Value}{v6:Value}{x1:Int}{x2:Int}{x3:Int}{x4:Int}{x5:Int}{x7:(List Nd)}{x9:Int}{x10:Int}{x11:BA}(H:Hp C w ρ (hs))(gle:GErrs ρ 383 errIds gV)(r8:RdSl ρ eN v6 x7){r:Int}(hF:F_105 N x1 x2 x3 x4 x5 x7 x9 x10 x11=some r):
 Calls Tryz.prog 35 [.agg #[.int .i64 x1,.int .u64 x2,.int .u64 x3,.int .u64 x4,.int .u64 x5,v6,.int .i64 x9,.int .i64 x10,.string x11]].toArray w (Rets (fun v w'=>(∃(ρ':View) (x35:Int),x35=r∧ .int .i64 x35=v∧View.le ρ ρ'∧Hp C w' ρ' (hs)))):=by
 have S:=(q214 gV N).ok (C:=C) (w:=w) (ρ:=ρ) (hs:=hs) (us:=[.agg #[.int .i64 x1,.int .u64 x2,.int .u64 x3,.int .u64 x4,.int .u64 x5,v6,.int .i64 x9,.int .i64 x10,.string x11]])
  (ls:=[⟨.int .i64,x1⟩,⟨.int .u64,x2⟩,⟨.int .u64,x3⟩,⟨.int .u64,x4⟩,⟨.int .u64,x5⟩,⟨.list .nd,x7⟩,⟨.int .i64,x9⟩,⟨.int .i64,x10⟩,⟨.str,x11⟩]) (κ:=[v6]) (γ:=[]) (A:=[])
  (E':=[(0,.agg #[.int .i64 x1,.int .u64 x2,.int .u64 x3,.int .u64 x4,.int .u64 x5,v6,.int .i64 x9,.int .i64 x10,.string x11])]) (x:=(x1,x2,x3,x4,x5,x7,x9,x10,x11)) (y:=r) rfl
  ⟨rfl,rfl,rfl,(fun f hf=>by rw[List.mem_singleton.1 hf];exact⟨v6,x7,rfl,rfl,r8⟩),trivial,
   ⟨rfl,⟨[.int .i64 x1,.int .u64 x2,.int .u64 x3,.int .u64 x4,.int .u64 x5,v6,.int .i64 x9,.int .i64 x10,.string x11],⟨⟨_,rfl,rfl⟩,⟨_,rfl,rfl⟩,⟨_,rfl,rfl⟩,⟨_,rfl,rfl⟩,⟨_,rfl,rfl⟩,rfl,⟨_,rfl,rfl⟩,⟨_,rfl,rfl⟩,⟨_,rfl,rfl⟩,trivial⟩,rfl⟩,trivial⟩⟩
  (fun p hp=>by rw[List.mem_singleton.1 hp];rfl) rfl H gle hF
 refine S.mono ?_;rintro e w' ⟨u,rfl,ρ',vs,M,κ',γ',E2,g1,rfl,g2,g3,g4,g5⟩;have B:=g5 (η:=[⟨.int .i64,x1⟩,⟨.int .u64,x2⟩,⟨.int .u64,x3⟩,⟨.int .u64,x4⟩,⟨.int .u64,x5⟩,⟨.list .nd,x7⟩,⟨.int .i64,x9⟩,⟨.int .i64,x10⟩,⟨.str,x11⟩]) (ι:=[v6]) (β:=[]) (b:=⟨9,1,0,id,id,id⟩) ⟨rfl,rfl,rfl⟩ (fun _ _ _ h=>h) (fun _ _ _ h=>h) (fun _ _ _ h=>h);have hh:=B.hx
 match M,hh,g4 with
 | [],_,g4=>
   match E2,B.env,g3 with
   | [(q,u)],⟨e1,e2,_⟩,g3=>
     have e1:0=q:=e1;subst e1;obtain rfl:=br_leaf (κ:=[]) (γ:=[]) e2 (l:=⟨.int .i64,r⟩) rfl;have g3:=g3 _ (List.mem_singleton.2 rfl)
     match vs,g2,g3 with
     | [v0],_,g3=>
       obtain rfl:=oi g3;exact⟨_,rfl,ρ',r,rfl,rfl,g1,g4⟩
   | [],h0,_=>exact h0.elim
   |_::_::_,h0,_=>exact h0.2.2.elim
 |_::_,hh,_=>exact hh.elim
def tcR:Tc:= .pair (.list (.int .i64)) (.pair .nd (.pair (.int .i64) (.int .i64)))
theorem c_8{C:Cx}{w:World}{ρ:View}{hs:List Hl}{gV:Nat→Value}{v1:Value}{x2:LI}(H:Hp C w ρ (hs))(gle:GErrs ρ 383 errIds gV)(r3:RdSl ρ (eI .u8) v1 x2){r:((List BA)×(List BA)×(List (LI×Nd×Int×Int))×Int×Int)}(hF:F_127 N x2=some r):
 Calls Tryz.prog 8 [v1].toArray w (Rets (fun v w'=>(∃(ρ':View) (v53:Value) (c54:(List Value)) (v57:Value) (c58:(List Value)) (v61:Value) (c62:(List Value)) (x55:(List BA)) (x59:(List BA)) (x63:(List (LI×Nd×Int×Int))) (x65:Int) (x66:Int),(x55,x59,x63,x65,x66)=r∧ .tuple [.agg #[v53,v57,v61],.int .i64 x65,errV errIds gV x66].toArray=v∧View.le ρ ρ'∧rdL eS ρ' x55 c54∧rdL eS ρ' x59 c58∧rdL (eP (eL (eI .i64)) (eP eN (eP (eI .i64) (eI .i64)))) ρ' x63 c62∧Hp C w' ρ' (Arr v53 1 c54::Arr v57 1 c58::Arr v61 12 c62::hs)))):=by
 obtain⟨y1,y2,y3,y4,y5⟩:=r
 have S:=(q241 gV N).ok (C:=C) (w:=w) (ρ:=ρ) (hs:=hs) (us:=[v1]) (ls:=[⟨.list (.int .u8),x2⟩]) (κ:=[v1]) (γ:=[]) (A:=[]) (E':=[(0,v1)]) (x:=x2) (y:=(y1,y2,y3,y4,y5)) rfl
  ⟨rfl,rfl,rfl,(fun f hf=>by rw[List.mem_singleton.1 hf];exact⟨v1,x2,rfl,rfl,r3⟩),trivial,⟨rfl,rfl,trivial⟩⟩
  (fun p hp=>by rw[List.mem_singleton.1 hp];rfl) rfl H gle hF
 refine S.mono ?_;rintro e w' ⟨u,rfl,ρ',vs,M,κ',γ',E2,g1,rfl,g2,g3,g4,g5⟩;have B:=g5 (η:=[⟨.list (.int .u8),x2⟩]) (ι:=[v1]) (β:=[]) (b:=⟨1,1,0,id,id,id⟩) ⟨rfl,rfl,rfl⟩ (fun _ _ _ h=>h) (fun _ _ _ h=>h) (fun _ _ _ h=>h);have hh:=B.hx
 match M,hh,g4 with
 | [h1,h2,h3],hh,g4=>
   obtain⟨⟨w1,c1,z1,p1,p2,p3,rfl⟩,⟨w2,c2,z2,q1,q2,q3,rfl⟩,⟨w3,c3,z3,s1,s2,s3,rfl⟩,_⟩:=hh;have p2:some (⟨.list .str,y1⟩:Leaf)=some ⟨.list .str,z1⟩:=p2;cases oi p2;have q2:some (⟨.list .str,y2⟩:Leaf)=some ⟨.list .str,z2⟩:=q2;cases oi q2;have s2:some (⟨.list tcR,y3⟩:Leaf)=some ⟨.list tcR,z3⟩:=s2;cases oi s2
   match E2,B.env,g3 with
   | [(i1,u1),(i2,u2),(i3,u3)],⟨e1,e2,e3,e4,e5,e6,_⟩,g3=>
     have e1:0=i1:=e1;subst e1;have e3:1=i2:=e3;subst e3;have e5:2=i3:=e5;subst e5;obtain⟨us',k,rfl⟩:=e2;obtain rfl:=br_leaf (κ:=[]) (γ:=[]) e4 (l:=⟨.int .i64,y4⟩) rfl;obtain rfl:=br_leaf (κ:=[]) (γ:=[]) e6 (l:=⟨.err,y5⟩) rfl
     match us',k with
     | [k1,k2,k3],k=>
       obtain⟨m1,m2,m3,_⟩:=k;obtain rfl:=oi (p1.symm.trans m1);obtain rfl:=oi (q1.symm.trans m2);obtain rfl:=oi (s1.symm.trans m3);have t0:=g3 _ (List.mem_cons_self ..);have t1:=g3 _ (List.mem_cons_of_mem _ (List.mem_cons_self ..));have t2:=g3 _ (List.mem_cons_of_mem _ (List.mem_cons_of_mem _ (List.mem_cons_self ..)))
       match vs,g2,t0,t1,t2 with
       | [a0,a1,a2],_,t0,t1,t2=>
         obtain rfl:=oi t0;obtain rfl:=oi t1;obtain rfl:=oi t2;exact⟨_,rfl,ρ',w1,c1,w2,c2,w3,c3,y1,y2,y3,y4,y5,rfl,rfl,g1,p3,q3,s3,g4⟩
     | [],k=>exact k.elim
     | [_],k=>exact k.2.elim
     | [_,_],k=>exact k.2.2.elim
     |_::_::_::_::_,k=>exact k.2.2.2.elim
   | [],h0,_=>exact h0.elim
   | [_],h0,_=>exact h0.2.2.elim
   | [_,_],h0,_=>exact h0.2.2.2.2.elim
   |_::_::_::_::_,h0,_=>exact h0.2.2.2.2.2.2.elim
 | [],hh,_=>exact hh.elim
 | [_],hh,_=>exact hh.2.elim
 | [_,_],hh,_=>exact hh.2.2.elim
 |_::_::_::_::_,hh,_=>exact hh.2.2.2.elim
open Go Go.Eng
def Pw(R:Nat→Nat→Prop):Nat→Nat→Nat→Prop
 |0,i,j=>i=j
 |r+1,i,j=> ∃m,R i m∧Pw R r m j
mutual
def Mt(B:(Int×Int×Int×Int)→Int→Bool)(t:LI):Nd→Nat→Nat→Prop
 | .mk k s l a b _,i,j=>(k=1∧j=i+1∧ ∃c,t[i]? =some c∧B s c=true)∨(k=2∧MtC B t l i j)∨(k=3∧MtA B t l i j)∨(k=4∧ ∃r:Nat,a≤r∧(b= -1∨r≤b)∧Pw (MtO B t l) r i j)
def MtC(B:(Int×Int×Int×Int)→Int→Bool)(t:LI):List Nd→Nat→Nat→Prop
 | [],i,j=>i=j
 |x::l,i,j=> ∃m,Mt B t x i m∧MtC B t l m j
def MtA(B:(Int×Int×Int×Int)→Int→Bool)(t:LI):List Nd→Nat→Nat→Prop
 | [],_,_=>False
 |x::l,i,j=>Mt B t x i j∨MtA B t l i j
def MtO(B:(Int×Int×Int×Int)→Int→Bool)(t:LI):List Nd→Nat→Nat→Prop
 | [],_,_=>False
 |x::_,i,j=>Mt B t x i j
end
def Up(t:LI)(R:Nat→Nat→Prop):Prop:= ∀i j,R i j→i≤j∧(i≤t.length→j≤t.length)
theorem Up.pw{t:LI}{R:Nat→Nat→Prop}(h:Up t R): ∀r,Up t (Pw R r)
 |0,i,j,e=>by
   have e:i=j:=e;omega
 |r+1,i,j,⟨m,h1,h2⟩=>by
   have a:=h i m h1;have b:=Up.pw h r m j h2;omega
mutual
theorem Mt.up(B:(Int×Int×Int×Int)→Int→Bool)(t:LI): ∀n:Nd,Up t (Mt B t n)
 | .mk k s l a b x,i,j,h=>by
   rw[Mt]at h;rcases h with⟨_,e,c,h,_⟩|⟨_,h⟩|⟨_,h⟩|⟨_,r,_,_,h⟩
   ·have:=(List.getElem?_eq_some_iff.1 h).1;omega
   ·exact MtC.up B t l i j h
   ·exact MtA.up B t l i j h
   exact Up.pw (MtO.up B t l) r i j h
theorem MtC.up(B:(Int×Int×Int×Int)→Int→Bool)(t:LI): ∀l:List Nd,Up t (MtC B t l)
 | [],i,j,h=>by
   rw[MtC]at h;omega
 |x::l,i,j,h=>by
   rw[MtC]at h;obtain⟨m,h1,h2⟩:=h;have a:=Mt.up B t x i m h1;have b:=MtC.up B t l m j h2;omega
theorem MtA.up(B:(Int×Int×Int×Int)→Int→Bool)(t:LI): ∀l:List Nd,Up t (MtA B t l)
 | [],i,j,h=>by
   rw[MtA]at h;exact h.elim
 |x::l,i,j,h=>by
   rw[MtA]at h;rcases h with h|h
   ·exact Mt.up B t x i j h
   exact MtA.up B t l i j h
theorem MtO.up(B:(Int×Int×Int×Int)→Int→Bool)(t:LI): ∀l:List Nd,Up t (MtO B t l)
 | [],i,j,h=>by
   rw[MtO]at h;exact h.elim
 |x::l,i,j,h=>by
   rw[MtO]at h;exact Mt.up B t x i j h
end
def Loc(a k:Nat)(R S:Nat→Nat→Prop):Prop:= ∀i j,i≤k→j≤k→(S i j↔R (a+i) (a+j))
theorem Loc.pw{a k:Nat}{t t':LI}{R S:Nat→Nat→Prop}(hl:Loc a k R S)(hu:Up t R)(hv:Up t' S): ∀r,Loc a k (Pw R r) (Pw S r)
 |0,i,j,_,_=>by
   show i=j↔a+i=a+j;omega
 |r+1,i,j,hi,hj=>by
   constructor
   ·rintro⟨m,h1,h2⟩;have b1:=(hv.pw r m j h2).1;exact⟨a+m,(hl i m hi Om).1 h1,(Loc.pw hl hu hv r m j Om hj).1 h2⟩
   rintro⟨m,h1,h2⟩;have b1:=(hu _ _ h1).1;have b2:=(hu.pw r _ _ h2).1;obtain⟨q,rfl⟩: ∃q,m=a+q:=⟨m-a,by omega⟩;exact⟨q,(hl i q hi Om).2 h1,(Loc.pw hl hu hv r q j Om hj).2 h2⟩
section
variable (B:(Int×Int×Int×Int)→Int→Bool){t t':LI}{a k:Nat}
mutual
theorem Mt.loc(h: ∀i,i<k→t'[i]? =t[a+i]?)(hk:t'.length=k): ∀n:Nd,Loc a k (Mt B t n) (Mt B t' n)
 | .mk q s l lo hi x,i,j,hi',hj=>by
   rw[Mt,Mt]
   have e1:(q=1∧j=i+1∧ ∃c,t'[i]? =some c∧B s c=true)↔(q=1∧a+j=a+i+1∧ ∃c,t[a+i]? =some c∧B s c=true):=by
    constructor
    ·rintro⟨h1,h2,c,h3,h4⟩;have:i<k:=by omega
     exact⟨h1,by omega,c,by rw[←h i this];exact h3,h4⟩
    rintro⟨h1,h2,c,h3,h4⟩;have:i<k:=by omega
    exact⟨h1,by omega,c,by rw[h i this];exact h3,h4⟩
   have e2:=MtC.loc h hk l i j hi' hj;have e3:=MtA.loc h hk l i j hi' hj;have e4: ∀r,Pw (MtO B t' l) r i j↔Pw (MtO B t l) r (a+i) (a+j):=fun r=>Loc.pw (MtO.loc h hk l) (MtO.up B t l) (MtO.up B t' l) r i j hi' hj;rw[e1,e2,e3];simp only[e4]
theorem MtC.loc(h: ∀i,i<k→t'[i]? =t[a+i]?)(hk:t'.length=k): ∀l:List Nd,Loc a k (MtC B t l) (MtC B t' l)
 | [],i,j,hi,hj=>by
   rw[MtC,MtC];omega
 |x::l,i,j,hi,hj=>by
   rw[MtC,MtC];constructor
   ·rintro⟨m,h1,h2⟩;have b1:=(MtC.up B t' l m j h2).1;exact⟨a+m,(Mt.loc h hk x i m hi Om).1 h1,(MtC.loc h hk l m j Om hj).1 h2⟩
   rintro⟨m,h1,h2⟩;have b1:=(Mt.up B t x _ _ h1).1;have b2:=(MtC.up B t l _ _ h2).1;obtain⟨q,rfl⟩: ∃q,m=a+q:=⟨m-a,by omega⟩;exact⟨q,(Mt.loc h hk x i q hi Om).2 h1,(MtC.loc h hk l q j Om hj).2 h2⟩
theorem MtA.loc(h: ∀i,i<k→t'[i]? =t[a+i]?)(hk:t'.length=k): ∀l:List Nd,Loc a k (MtA B t l) (MtA B t' l)
 | [],i,j,hi,hj=>by
   rw[MtA,MtA]
 |x::l,i,j,hi,hj=>by
   rw[MtA,MtA,Mt.loc h hk x i j hi hj,MtA.loc h hk l i j hi hj]
theorem MtO.loc(h: ∀i,i<k→t'[i]? =t[a+i]?)(hk:t'.length=k): ∀l:List Nd,Loc a k (MtO B t l) (MtO B t' l)
 | [],i,j,hi,hj=>by
   rw[MtO,MtO]
 |x::l,i,j,hi,hj=>by
   rw[MtO,MtO,Mt.loc h hk x i j hi hj]
end
end
theorem Pw.snoc{R:Nat→Nat→Prop}: ∀{r i m j},Pw R r i m→R m j→Pw R (r+1) i j
 |0,i,m,j,e,h=>by
   have e:i=m:=e;subst e;exact⟨j,h,rfl⟩
 |r+1,i,m,j,⟨x,h1,h2⟩,h=>⟨x,h1,Pw.snoc h2 h⟩
theorem Pw.last{R:Nat→Nat→Prop}: ∀{r i j},Pw R (r+1) i j→ ∃m,Pw R r i m∧R m j
 |0,i,j,⟨x,h1,h2⟩=>by
   have e:x=j:=h2;subst e;exact⟨i,rfl,h1⟩
 |r+1,i,j,⟨x,h1,h2⟩=>by
   obtain⟨m,h3,h4⟩:=Pw.last h2;exact⟨m,⟨x,h1,h3⟩,h4⟩
def Tk(R:Nat→Nat→Prop)(S:Nat→Prop)(k j:Nat):Prop:= ∃s,S s∧Pw R k s j
theorem Tk.succ{R:Nat→Nat→Prop}{S:Nat→Prop}{k j:Nat}:Tk R S (k+1) j↔ ∃m,Tk R S k m∧R m j:=
 ⟨fun⟨s,h,hp⟩=>by
  obtain⟨m,h1,h2⟩:=hp.last;exact⟨m,⟨s,h,h1⟩,h2⟩,fun⟨m,⟨s,h,h1⟩,h2⟩=>⟨s,h,h1.snoc h2⟩⟩
theorem Tk.zero{R:Nat→Nat→Prop}{S:Nat→Prop}{j:Nat}:Tk R S 0 j↔S j:=
 ⟨fun⟨s,h,hp⟩=>by
  have hp:s=j:=hp;subst hp;exact h,fun h=>⟨j,h,rfl⟩⟩
theorem Tk.all{R:Nat→Nat→Prop}{S:Nat→Prop}{a k:Nat}(ha:a≤k)(h: ∀j,Tk R S (k+1) j→ ∃m,a≤m∧m≤k∧Tk R S m j): ∀r j,Tk R S (a+r) j→ ∃m,a≤m∧m≤k∧Tk R S m j
 |0,j,hT=>⟨a,Nat.le_refl _,ha,hT⟩
 |r+1,j,hT=>by
   obtain⟨x,h1,h2⟩:=Tk.succ.1 hT;obtain⟨m,h3,h4,h5⟩:=Tk.all ha h r x h1;by_cases c:m+1≤k
   ·exact⟨m+1,by omega,c,Tk.succ.2 ⟨x,h5,h2⟩⟩
   obtain rfl:m=k:=by omega
   exact h j (Tk.succ.2 ⟨x,h5,h2⟩)
theorem Pw.add{R:Nat→Nat→Prop}: ∀{r q i m j},Pw R r i m→Pw R q m j→Pw R (r+q) i j
 |0,q,i,m,j,e,h=>by
   have e:i=m:=e;subst e;rw[Nat.zero_add];exact h
 |r+1,q,i,m,j,⟨x,h1,h2⟩,h=>by
   rw[show r+1+q=(r+q)+1 by omega];exact⟨x,h1,Pw.add h2 h⟩
theorem Pw.star{R:Nat→Nat→Prop}: ∀{q i j},Pw (fun i j=> ∃r,Pw R r i j) q i j→ ∃r,Pw R r i j
 |0,i,j,e=>⟨0,e⟩
 |q+1,i,j,⟨x,⟨r,h1⟩,h2⟩=>by
   obtain⟨s,h3⟩:=Pw.star h2;exact⟨r+s,h1.add h3⟩
end Go.Proofs.YtnkednnnkifenaaGreatDoor
