import Derived.Test.YtnkednnnkifenaaGreatDoorNfaFilesP4
namespace Go.Proofs.YtnkednnnkifenaaGreatDoor
open Go Go.Eng Go.Dn
set_option maxRecDepth 100000
theorem h31:HasFn Tryz.prog 31:=hasFn Tryz.func31 rfl rfl
theorem h71:HasFn Tryz.prog 71:=hasFn Tryz.func71 rfl rfl
theorem h145:HasFn Tryz.prog 145:=hasFn Tryz.func145 rfl rfl
theorem z239(ge:Nat→Value)(N:Nat)(ih:Ck ge 145 Q239 (u9 (F_46 N))):Ck ge 145 Q239 (u9 (F_46 (N+1))):=
 mkS ext0 [pr h145 ih] (fun _=>none) ((.c (tagR 1) false [.kb (.s 1 0) [.ps 1 0 0,.ps 1 0 1,.ps 1 0 2,.ps 1 0 3,.ps 1 0 4,.ps 1 0 5,.ps 1 0 6,.ps 1 0 7,.ps 1 0 8],.y 1 1 0 0,.v 13 false [.lf .bool]] (.b .e .e) (.b .e (.c (tagB 0) true [] (.l [.x 15,.x 16,.v 17 false [.fi]] (.b (.b .e .e) .e)) .e)))) N Tryz.func145 rfl (rv:=[.tmp 2]) J (by decide) J fun x=>by kernel_rfl
theorem q239(ge:Nat→Value):(N:Nat)→Ck ge 145 Q239 (u9 (F_46 N))
 |0=>Con.none
 |N+1=>z239 ge N (q239 ge N)
theorem h105:HasFn Tryz.prog 105:=hasFn Tryz.func105 rfl rfl
theorem q233(ge N):Ck ge 105 Q233 (u9 (F_157 N)):=
 mkS ext0 [pr h71 (s_tree_Right ge N),pr h145 (q239 ge N)] (fun _=>none) ((.c (tagR 1) false [.v 2 false [.lf .bool]] (.b .e .e) .e)) N Tryz.func105 rfl (rv:=[.tmp 2]) J (by decide) J fun x=>by kernel_rfl
theorem h106:HasFn Tryz.prog 106:=hasFn Tryz.func106 rfl rfl
theorem q190(ge N):Ck ge 106 Q190 (fun x=>F_62 N x):=
 mkS ext0 [pr h108 (q224 ge N),pr h139 (q50 ge N)] (fun _=>none) ((.c (tagB 0) true [] (.l [.x 0,.x 5,.x 6,.v 7 false [.fi]] (.b (.c (tagR 4) false [.x 0,.v 21 false [.lf .bool],.x 5,.x 6,.x 7] (.b .e .e) (.b .e .e)) .e)) .e)) N Tryz.func106 rfl (rv:=[.tmp 2]) J (by decide) J fun x=>by kernel_rfl
theorem h146:HasFn Tryz.prog 146:=hasFn Tryz.func146 rfl rfl
theorem q207(ge N):Ck ge 146 Q207 (fun x=>F_146 N x):=
 mkS ext0 [pr h108 (q224 ge N)] (fun _=>none) ((.c (tagR 1) false [.v 2 false [.lf .bool]] (.b .e .e) .e)) N Tryz.func146 rfl (rv:=[.tmp 2]) J (by decide) J fun x=>by kernel_rfl
theorem h107:HasFn Tryz.prog 107:=hasFn Tryz.func107 rfl rfl
theorem q211(ge N):Ck ge 107 Q211 (u2 (F_181 N)):=
 mkS ext0 [pr h146 (q207 ge N)] (fun _=>none) ((.c (tagR 1) false [.v 2 false [.lf .bool]] (.b .e .e) .e)) N Tryz.func107 rfl (rv:=[.tmp 2]) J (by decide) J fun x=>by kernel_rfl
theorem h64:HasFn Tryz.prog 64:=hasFn Tryz.func64 rfl rfl
theorem q200(ge N):Ck ge 64 Q200 (u3 (F_36 N)):=
 mkS ext0 [pr h105 (q233 ge N),pr h106 (q190 ge N),pr h107 (q211 ge N)] (fun t=>match t with|9=>some .str|_=>none) ((.c (tagB 0) true [.kb (.s 1 0) [.ps 1 0 0,.ps 1 0 1,.ps 1 0 2],.y 1 1 0 0,.v 3 false [.own .str]] (.l [.kb (.s 1 0) [.ps 1 0 0,.ps 1 0 1,.ps 1 0 2],.y 1 1 0 0,.x 10,.x 11,.v 12 false [.fi],.v 3 false [.own .str]] (.b (.b .e .e) .e)) (.c (tagB 2) true [.kb (.s 1 0) [.ps 1 0 0,.ps 1 0 1,.ps 1 0 2],.y 1 1 0 0,.keep (.s 3 0),.x 3] (.l [.kb (.s 1 0) [.ps 1 0 0,.ps 1 0 1,.ps 1 0 2],.y 1 1 0 0,.x 27,.x 28,.v 29 false [.fi],.keep (.s 3 0),.x 3] (.b (.c (tagR 12) false [.kb (.s 1 0) [.ps 1 0 0,.ps 1 0 1,.ps 1 0 2],.y 1 1 0 0,.x 27,.x 28,.x 29,.keep (.s 3 0),.x 3,.v 54 false [.lf .bool]] (.b .e (.b .e (.b .e .e))) (.b .e .e)) .e)) (.c (tagR 15) false [.kb (.s 1 0) [.ps 1 0 0,.ps 1 0 1,.ps 1 0 2],.y 1 1 0 0,.keep (.s 3 0),.x 3,.v 8 false [.lf .bool]] (.b (.b (.b .e .e) .e) .e) (.c (tagR 16) false [.v 2 false [.lf .bool]] (.b (.b (.b .e .e) .e) .e) .e))))) N Tryz.func64 rfl (rv:=[.tmp 2]) J (by decide) J fun x=>by kernel_rfl
theorem h65:HasFn Tryz.prog 65:=hasFn Tryz.func65 rfl rfl
theorem q252(ge N):Ck ge 65 Q252 (fun x=>F_239 N x):=cloneC_ok 24 4 (.str) Tryz.func65 rfl rfl rfl (by kernel_rfl)
theorem h66:HasFn Tryz.prog 66:=hasFn Tryz.func66 rfl rfl
theorem q247(ge N):Ck ge 66 Q247 (fun x=>F_250 N):=
 mkS ext0 [] (fun t=>match t with|97=>some .nd|_=>none) (.e) N Tryz.func66 rfl (rv:=[.tmp 0]) J (by decide) J fun x=>by kernel_rfl
theorem h174:HasFn Tryz.prog 174:=hasFn Tryz.func174 rfl rfl
theorem q246(ge N):Ck ge 174 Q246 (fun x=>F_150 N x):=cloneC_ok 95 4 (.nd) Tryz.func174 rfl rfl rfl (by kernel_rfl)
theorem h147:HasFn Tryz.prog 147:=hasFn Tryz.func147 rfl rfl
theorem z232(ge:Nat→Value)(N:Nat)(ih:Ck ge 147 Q232 (u9 (F_32 N))):Ck ge 147 Q232 (u9 (F_32 (N+1))):=
 mkS ext0 [pr h147 ih,pr h174 (q246 ge N)] (fun _=>none) ((.c (tagB 0) false [.kb (.s 1 0) [.ps 1 0 0,.ps 1 0 1,.ps 1 0 2,.ps 1 0 3,.ps 1 0 4,.ar (.s 10 0) .nd,.ps 1 0 6,.ps 1 0 7,.ps 1 0 8],.y 1 1 0 0,.kb (.s 2 0) [.k (.int .i64 0),.k (.int .u64 0),.k (.int .u64 0),.k (.int .u64 0),.k (.int .u64 0),.k (.slice none 0 0),.k (.int .i64 0),.k (.int .i64 0),.k (.string ByteArray.empty)],.y 2 2 0 0] (.l [.kb (.s 1 0) [.ps 1 0 0,.ps 1 0 1,.ps 1 0 2,.ps 1 0 3,.ps 1 0 4,.ar (.s 10 0) .nd,.ps 1 0 6,.ps 1 0 7,.ps 1 0 8],.y 1 1 0 0,.x 10,.x 11,.v 12 false [.fi],.kb (.s 2 0) [.k (.int .i64 0),.k (.int .u64 0),.k (.int .u64 0),.k (.int .u64 0),.k (.int .u64 0),.k (.slice none 0 0),.k (.int .i64 0),.k (.int .i64 0),.k (.string ByteArray.empty)],.y 2 2 0 0] (.b (.c (tagR 5) false [.kb (.s 1 0) [.ps 1 0 0,.ps 1 0 1,.ps 1 0 2,.ps 1 0 3,.ps 1 0 4,.ar (.s 10 0) .nd,.ps 1 0 6,.ps 1 0 7,.ps 1 0 8],.y 1 1 0 0,.x 10,.x 11,.x 12,.kb (.s 2 0) [.k (.int .i64 0),.k (.int .u64 0),.k (.int .u64 0),.k (.int .u64 0),.k (.int .u64 0),.k (.slice none 0 0),.k (.int .i64 0),.k (.int .i64 0),.k (.string ByteArray.empty)],.y 2 2 0 0] (.r (.tk 0 4 (.one 4 (.take 5 (.bar 6 none .done)))) (some 6) [[],[]] .e) .e) .e)) .e)) N Tryz.func147 rfl (rv:=[.cell 2 97]) J (by decide) J fun x=>by kernel_rfl
theorem q232(ge:Nat→Value):(N:Nat)→Ck ge 147 Q232 (u9 (F_32 N))
 |0=>Con.none
 |N+1=>z232 ge N (q232 ge N)
theorem h109:HasFn Tryz.prog 109:=hasFn Tryz.func109 rfl rfl
theorem q250(ge N):Ck ge 109 Q250 (u9 (F_235 N)):=
 mkS ext0 [pr h71 (s_tree_Right ge N),pr h147 (q232 ge N)] (fun _=>none) ((.b .e .e)) N Tryz.func109 rfl (rv:=[.cell 2 97]) J (by decide) J fun x=>by kernel_rfl
theorem h67:HasFn Tryz.prog 67:=hasFn Tryz.func67 rfl rfl
theorem q198(ge N):Ck ge 67 Q198 (u12 (F_190 N)):=
 mkS ext0 [pr h71 (s_tree_Right ge N),pr h108 (q224 ge N),pr h109 (q250 ge N)] (fun t=>match t with|9=>some .str|_=>none) ((.b .e (.b .e (.b .e (.b .e (.c (tagR 11) false [.keep (.b (.h 0) 0),.kh 0 [.ph 0 0,.ao (.b (.h 0) 1) (.mp .nd)]] (.r (.tk 0 6 (.one 6 (.bar 7 none .done))) (some 7) [[],[]] .e) .e)))))) N Tryz.func67 rfl (rv:=[.tmp 6]) J (by decide) J fun x=>by kernel_rfl
theorem h23:HasFn Tryz.prog 23:=hasFn Tryz.func23 rfl rfl
theorem q202(ge N):Ck ge 23 Q202 (u4 (F_169 N)):=
 mkS ext0 [pr h54 (q57 ge N)] (fun _=>none) (.e) N Tryz.func23 rfl (rv:=[.tmp 4]) J (by decide) J fun x=>by kernel_rfl
theorem h110:HasFn Tryz.prog 110:=hasFn Tryz.func110 rfl rfl
theorem q112(ge N):Ck ge 110 Q112 (fun x=>F_56 N x.2.2.1 x.2.2.2.1 x.2.2.2.2.1 x.1 x.2.1 x.2.2.2.2.2):=
 mkS ext0 [pr h23 (q202 ge N)] (fun t=>match t with|3=>some (.int .i64)|_=>none) ((.c (tagB 0) true [.keep (.b (.h 1) 0),.keep (.b (.h 1) 1),.keep (.b (.h 1) 2),.kh 1 [.ph 1 0,.ph 1 1,.ph 1 2,.q (.h 0) 0],.keep (.b (.h 0) 0),.keepo (.b (.h 0) 1),.kh 0 [.ph 0 0,.ph 0 1],.v 6 false [.own (.int .i64)]] (.l [.keep (.b (.h 1) 0),.keep (.b (.h 1) 1),.keep (.b (.h 1) 2),.kh 1 [.ph 1 0,.ph 1 1,.ph 1 2,.q (.h 0) 0],.keep (.b (.h 0) 0),.keepo (.b (.h 0) 1),.kh 0 [.ph 0 0,.ph 0 1],.v 0 false [.q (.h 1) 0],.x 10,.x 11,.v 12 false [.fi],.v 6 false [.own (.int .i64)]] (.b (.b (.r (.tk 0 3 .done) none [[]] .e) .e) .e)) .e)) N Tryz.func110 rfl (rv:=[.tmp 4,.tmp 5]) J (by decide) J fun x=>by kernel_rfl
theorem h177:HasFn Tryz.prog 177:=hasFn Tryz.func177 rfl rfl
theorem h149:HasFn Tryz.prog 149:=hasFn Tryz.func149 rfl rfl
theorem q76(ge:Nat→Value)(N:Nat)(self_:(List ByteArray)→(List (ByteArray×Nd))→Int→(List ByteArray)→Int→Int→Int→Int→Int→Int→(List Nd)→Int→Int→ByteArray→Int→Option ((List ByteArray)×(List (ByteArray×Nd))×Int×(List ByteArray)×Int×Int×Int×Int×Int×Int×(List Nd)×Int×Int×ByteArray))(hself:Ck ge 149 Q66 (fun x=>self_ x.1 x.2.1 x.2.2.1 x.2.2.2.1 x.2.2.2.2.1 x.2.2.2.2.2.1 x.2.2.2.2.2.2.1 x.2.2.2.2.2.2.2.1 x.2.2.2.2.2.2.2.2.1 x.2.2.2.2.2.2.2.2.2.1 x.2.2.2.2.2.2.2.2.2.2.1 x.2.2.2.2.2.2.2.2.2.2.2.1 x.2.2.2.2.2.2.2.2.2.2.2.2.1 x.2.2.2.2.2.2.2.2.2.2.2.2.2.1 x.2.2.2.2.2.2.2.2.2.2.2.2.2.2)):Ck ge 177 Q76 (fun x=>F_155 N self_ x.1 x.2.1 x.2.2.1 x.2.2.2.1 x.2.2.2.2.1 x.2.2.2.2.2.1 x.2.2.2.2.2.2):=
 mkS ext0 [pr h139 (q50 ge N),pr h149 hself] (fun t=>match t with|9=>some .str|_=>none) ((.b .e (.b .e (.c (tagR 10) false [.keep (.b (.h 0) 0),.keepo (.b (.h 0) 1),.kh 0 [.ph 0 0,.ph 0 1],.kh 1 [.q (.h 0) 0,.ph 1 1,.own .str,.ph 1 3],.kb (.s 6 0) [.k (.int .i64 0),.k (.int .u64 0),.k (.int .u64 0),.k (.int .u64 0),.k (.int .u64 0),.k (.slice none 0 0),.k (.int .i64 0),.k (.int .i64 0),.k (.string ByteArray.empty)],.y 6 6 0 0,.kb (.s 7 0) [.ps 7 0 0,.ps 7 0 1,.ps 7 0 2,.ps 7 0 3,.ps 7 0 4,.ps 7 0 5,.ps 7 0 6,.ps 7 0 7,.ps 7 0 8],.y 7 7 0 0] (.r (.tk 0 9 (.one 9 (.take 10 (.one 11 (.take 12 (.take 13 (.bar 14 none .done))))))) (some 14) [[(.b (.h 1) 2)],[]] .e) .e)))) N Tryz.func177 rfl (rv:=[.cell 6 97]) J (by decide) J fun x=>by kernel_rfl
theorem z66(ge:Nat→Value)(N:Nat)(ih:Ck ge 149 Q66 (u15 (F_9 N))):Ck ge 149 Q66 (u15 (F_9 (N+1))):=
 mkS ext0 [pr h149 ih,pr h174 (q246 ge N),pr h177 (q76 ge N _ ih)] (fun _=>none) ((.b .e (.b .e (.b .e (.b .e (.c (tagB 1) false [.kh 0 [.ar (.b (.h 0) 0) .str,.ao (.b (.h 0) 1) (.mp .nd)],.kh 1 [.q (.h 0) 0,.fi,.own .str,.lf .err],.kb (.s 4 0) [.ps 4 0 0,.ps 4 0 1,.ps 4 0 2,.ps 4 0 3,.ps 4 0 4,.ar (.s 56 0) .nd,.ps 4 0 6,.ps 4 0 7,.ps 4 0 8],.y 4 4 0 0,.kb (.s 6 0) [.k (.int .i64 0),.k (.int .u64 0),.k (.int .u64 0),.k (.int .u64 0),.k (.int .u64 0),.k (.slice none 0 0),.k (.int .i64 0),.k (.int .i64 0),.k (.string ByteArray.empty)],.y 6 6 0 0] (.l [.kh 0 [.ar (.b (.h 0) 0) .str,.ao (.b (.h 0) 1) (.mp .nd)],.kh 1 [.q (.h 0) 0,.fi,.own .str,.lf .err],.v 0 false [.q (.h 1) 0],.x 2,.kb (.s 4 0) [.ps 4 0 0,.ps 4 0 1,.ps 4 0 2,.ps 4 0 3,.ps 4 0 4,.ar (.s 56 0) .nd,.ps 4 0 6,.ps 4 0 7,.ps 4 0 8],.y 4 4 0 0,.x 56,.x 57,.v 58 false [.fi],.kb (.s 6 0) [.k (.int .i64 0),.k (.int .u64 0),.k (.int .u64 0),.k (.int .u64 0),.k (.int .u64 0),.k (.slice none 0 0),.k (.int .i64 0),.k (.int .i64 0),.k (.string ByteArray.empty)],.y 6 6 0 0] (.b (.c (tagR 16) false [.kh 0 [.ar (.b (.h 0) 0) .str,.ao (.b (.h 0) 1) (.mp .nd)],.kh 1 [.q (.h 0) 0,.fi,.own .str,.lf .err],.v 0 false [.q (.h 1) 0],.x 2,.kb (.s 4 0) [.ps 4 0 0,.ps 4 0 1,.ps 4 0 2,.ps 4 0 3,.ps 4 0 4,.ar (.s 56 0) .nd,.ps 4 0 6,.ps 4 0 7,.ps 4 0 8],.y 4 4 0 0,.x 56,.x 57,.x 58,.kb (.s 6 0) [.k (.int .i64 0),.k (.int .u64 0),.k (.int .u64 0),.k (.int .u64 0),.k (.int .u64 0),.k (.slice none 0 0),.k (.int .i64 0),.k (.int .i64 0),.k (.string ByteArray.empty)],.y 6 6 0 0] (.r (.tk 0 7 (.one 7 (.take 8 (.bar 9 none .done)))) (some 9) [[(.h 1),(.b (.h 0) 0),(.h 0),(.b (.h 0) 1),(.b (.h 1) 2)],[]] .e) .e) .e)) .e)))))) N Tryz.func149 rfl (rv:=[.cell 6 97]) J (by decide) J fun x=>by kernel_rfl
theorem q66(ge:Nat→Value):(N:Nat)→Ck ge 149 Q66 (u15 (F_9 N))
 |0=>Con.none
 |N+1=>z66 ge N (q66 ge N)
theorem h111:HasFn Tryz.prog 111:=hasFn Tryz.func111 rfl rfl
theorem q172(ge N):Ck ge 111 Q172 (u11 (F_154 N)):=
 mkS ext0 [pr h71 (s_tree_Right ge N),pr h149 (q66 ge N)] (fun _=>none) ((.b (.c (tagR 2) false [.keep (.b (.h 0) 0),.keepo (.b (.h 0) 1),.kh 0 [.ph 0 0,.ph 0 1],.kb (.s 4 0) [.k (.int .i64 0),.k (.int .u64 0),.k (.int .u64 0),.k (.int .u64 0),.k (.int .u64 0),.k (.slice none 0 0),.k (.int .i64 0),.k (.int .i64 0),.k (.string ByteArray.empty)],.y 4 4 0 0,.v 5 false [.er 1]] (.r (.take 0 (.take 1 (.one 2 (.take 3 .done)))) none [[]] .e) .e) (.b (.c (tagR 6) false [.keep (.b (.h 0) 0),.keepo (.b (.h 0) 1),.kh 0 [.ph 0 0,.ph 0 1],.kb (.s 4 0) [.k (.int .i64 0),.k (.int .u64 0),.k (.int .u64 0),.k (.int .u64 0),.k (.int .u64 0),.k (.slice none 0 0),.k (.int .i64 0),.k (.int .i64 0),.k (.string ByteArray.empty)],.y 4 4 0 0,.v 5 false [.ps 6 0 3]] (.r (.tk 0 5 (.one 5 (.take 6 .done))) none [[]] .e) .e) .e))) N Tryz.func111 rfl (rv:=[.cell 4 97,.tmp 5]) J (by decide) J fun x=>by kernel_rfl
theorem h115:HasFn Tryz.prog 115:=hasFn Tryz.func115 rfl rfl
theorem q213(ge N):Ck ge 115 Q213 (fun x=>F_70 N x):=
 mkS ext0 [] (fun _=>none) (.e) N Tryz.func115 rfl (rv:=[.cell 2 167]) J (by decide) J fun x=>by kernel_rfl
theorem h48:HasFn Tryz.prog 48:=hasFn Tryz.func48 rfl rfl
theorem q201(ge N):Ck ge 48 Q201 (u4 (F_170 N)):=
 mkS ext0 [] (fun _=>none) (.e) N Tryz.func48 rfl (rv:=[.tmp 2]) J (by decide) J fun x=>by kernel_rfl
theorem h154:HasFn Tryz.prog 154:=hasFn Tryz.func154 rfl rfl
theorem q221(ge N):Ck ge 154 Q221 (fun x=>F_173 N):=
 mkS ext0 [] (fun _=>none) (.e) N Tryz.func154 rfl (rv:=[.cell 0 167]) J (by decide) J fun x=>by kernel_rfl
theorem h153:HasFn Tryz.prog 153:=hasFn Tryz.func153 rfl rfl
theorem q249(ge N):Ck ge 153 Q249 (u2 (F_63 N)):=
 mkS ext0 [] (fun _=>none) (.e) N Tryz.func153 rfl (rv:=[.tmp 4]) J (by decide) J fun x=>by kernel_rfl
theorem h155:HasFn Tryz.prog 155:=hasFn Tryz.func155 rfl rfl
theorem q144(ge N):Ck ge 155 Q144 (u34 (F_228 N)):=
 mkS ext0 [pr h115 (q213 ge N),pr h153 (q249 ge N),pr h178 (q223 ge N)] (fun _=>none) ((.c (tagR 1) false [.v 11 false [.lf .bool],.kb (.s 2 0) [.lf .bool,.ps 2 0 1,.ps 2 0 2,.ps 2 0 3,.ps 2 0 4,.ps 2 0 5,.ps 2 0 6,.ps 2 0 7,.ps 2 0 8,.ps 2 0 9,.ps 2 0 10,.ps 2 0 11,.ps 2 0 12,.ps 2 0 13,.ps 2 0 14,.ps 2 0 15,.ps 2 0 16],.y 2 2 0 0,.kb (.s 3 0) [.ps 3 0 0,.ps 3 0 1,.ps 3 0 2,.ps 3 0 3,.ps 3 0 4,.ps 3 0 5,.ps 3 0 6,.ps 3 0 7,.ps 3 0 8,.ps 3 0 9,.ps 3 0 10,.ps 3 0 11,.ps 3 0 12,.ps 3 0 13,.ps 3 0 14,.ps 3 0 15,.ps 3 0 16],.y 3 3 0 0,.kb (.s 4 0) [.k (.bool false),.k (.bool false),.k (.int .i64 0),.k (.int .i64 0),.k (.int .i64 0),.k (.int .u64 0),.k (.int .u64 0),.k (.int .u64 0),.k (.int .u64 0),.k (.int .u64 0),.k (.int .u64 0),.k (.int .u64 0),.k (.int .u64 0),.k (.int .u64 0),.k (.int .u64 0),.k (.int .u64 0),.k (.int .u64 0)],.y 4 4 0 0] (.b .e .e) (.b .e (.c (tagR 3) false [.kb (.s 2 0) [.ps 2 0 0,.lf .bool,.ps 2 0 2,.ps 2 0 3,.ps 2 0 4,.ps 2 0 5,.ps 2 0 6,.ps 2 0 7,.ps 2 0 8,.ps 2 0 9,.ps 2 0 10,.ps 2 0 11,.ps 2 0 12,.ps 2 0 13,.ps 2 0 14,.ps 2 0 15,.ps 2 0 16],.y 2 2 0 0,.kb (.s 3 0) [.ps 3 0 0,.ps 3 0 1,.ps 3 0 2,.ps 3 0 3,.ps 3 0 4,.ps 3 0 5,.ps 3 0 6,.ps 3 0 7,.ps 3 0 8,.ps 3 0 9,.ps 3 0 10,.ps 3 0 11,.ps 3 0 12,.ps 3 0 13,.ps 3 0 14,.ps 3 0 15,.ps 3 0 16],.y 3 3 0 0,.kb (.s 4 0) [.k (.bool false),.k (.bool false),.k (.int .i64 0),.k (.int .i64 0),.k (.int .i64 0),.k (.int .u64 0),.k (.int .u64 0),.k (.int .u64 0),.k (.int .u64 0),.k (.int .u64 0),.k (.int .u64 0),.k (.int .u64 0),.k (.int .u64 0),.k (.int .u64 0),.k (.int .u64 0),.k (.int .u64 0),.k (.int .u64 0)],.y 4 4 0 0,.bx (.slot 5 0) [.k (.bool false),.lf .bool,.fi,.fi,.k (.int .i64 0),.ps 2 0 5,.ps 2 0 6,.ps 2 0 7,.ps 2 0 8,.ps 3 0 9,.ps 3 0 10,.ps 3 0 11,.ps 3 0 12,.fu,.fu,.fu,.fu],.v 5 false [.pt 0 0]] (.r (.tk 0 10 (.tk 11 4 (.tk 16 8 (.two 10 26 (.two 15 26 (.two 24 26 (.take 25 (.one 26 (.bar 27 none .done))) (.one 24 (.take 25 (.bar 27 none .done)))) (.one 15 (.one 24 (.take 25 (.bar 27 none .done))))) (.one 10 (.one 15 (.one 24 (.take 25 (.bar 27 none .done))))))))) (some 27) [[],[]] (.b .e .e)) (.c (tagC (.tmp 40)) false [.kb (.s 2 0) [.ps 2 0 0,.ps 2 0 1,.ps 2 0 2,.ps 2 0 3,.ps 2 0 4,.ps 2 0 5,.ps 2 0 6,.ps 2 0 7,.ps 2 0 8,.ps 2 0 9,.ps 2 0 10,.ps 2 0 11,.ps 2 0 12,.ps 2 0 13,.ps 2 0 14,.ps 2 0 15,.ps 2 0 16],.y 2 2 0 0,.kb (.s 3 0) [.ps 3 0 0,.ps 3 0 1,.ps 3 0 2,.ps 3 0 3,.ps 3 0 4,.ps 3 0 5,.ps 3 0 6,.ps 3 0 7,.ps 3 0 8,.ps 3 0 9,.ps 3 0 10,.ps 3 0 11,.ps 3 0 12,.ps 3 0 13,.ps 3 0 14,.ps 3 0 15,.ps 3 0 16],.y 3 3 0 0,.kb (.s 4 0) [.k (.bool false),.k (.bool false),.k (.int .i64 0),.k (.int .i64 0),.k (.int .i64 0),.k (.int .u64 0),.k (.int .u64 0),.k (.int .u64 0),.k (.int .u64 0),.k (.int .u64 0),.k (.int .u64 0),.k (.int .u64 0),.k (.int .u64 0),.k (.int .u64 0),.k (.int .u64 0),.k (.int .u64 0),.k (.int .u64 0)],.y 4 4 0 0,.kb (.s 5 0) [.k (.bool false),.ps 5 0 1,.ps 5 0 2,.ps 5 0 3,.k (.int .i64 0),.fu,.fu,.fu,.fu,.ps 5 0 9,.ps 5 0 10,.ps 5 0 11,.ps 5 0 12,.ps 5 0 13,.ps 5 0 14,.ps 5 0 15,.ps 5 0 16],.y 5 5 0 0] (.b .e .e) (.c (tagC (.tmp 48)) false [.kb (.s 4 0) [.k (.bool false),.k (.bool false),.k (.int .i64 0),.k (.int .i64 0),.k (.int .i64 0),.k (.int .u64 0),.k (.int .u64 0),.k (.int .u64 0),.k (.int .u64 0),.k (.int .u64 0),.k (.int .u64 0),.k (.int .u64 0),.k (.int .u64 0),.k (.int .u64 0),.k (.int .u64 0),.k (.int .u64 0),.k (.int .u64 0)],.y 4 4 0 0,.kb (.s 5 0) [.k (.bool false),.ps 5 0 1,.ps 5 0 2,.ps 5 0 3,.k (.int .i64 0),.ps 5 0 5,.ps 5 0 6,.ps 5 0 7,.ps 5 0 8,.fu,.fu,.fu,.fu,.ps 5 0 13,.ps 5 0 14,.ps 5 0 15,.ps 5 0 16],.y 5 5 0 0] (.b .e .e) .e)))))) N Tryz.func155 rfl (rv:=[.cell 4 167]) J (by decide) J fun x=>by kernel_rfl
theorem h156:HasFn Tryz.prog 156:=hasFn Tryz.func156 rfl rfl
theorem q204(ge N):Ck ge 156 Q204 (u34 (F_229 N)):=
 mkS ext0 [pr h178 (q223 ge N)] (fun _=>none) ((.b .e (.b .e (.c (tagR 5) false [.kb (.s 4 0) [.k (.bool false),.lf .bool,.fi,.fi,.k (.int .i64 0),.fu,.fu,.fu,.fu,.fu,.fu,.fu,.fu,.fu,.fu,.fu,.fu],.y 4 4 0 0] (.r (.tk 0 20 (.tk 21 4 (.tk 26 4 (.one 20 (.one 25 (.one 30 (.take 31 (.bar 32 none .done)))))))) (some 32) [[],[]] (.b .e .e)) .e)))) N Tryz.func156 rfl (rv:=[.cell 4 167]) J (by decide) J fun x=>by kernel_rfl
theorem h158:HasFn Tryz.prog 158:=hasFn Tryz.func158 rfl rfl
theorem q219(ge N):Ck ge 158 Q219 (u2 (F_88 N)):=
 mkS ext0 [] (fun _=>none) ((.c (tagR 1) false [.x 0,.x 1,.v 12 false [.lf .bool]] (.b .e .e) (.b .e .e))) N Tryz.func158 rfl (rv:=[.tmp 4]) J (by decide) J fun x=>by kernel_rfl
theorem h157:HasFn Tryz.prog 157:=hasFn Tryz.func157 rfl rfl
theorem q164(ge N):Ck ge 157 Q164 (u19 (F_227 N)):=
 mkS ext0 [pr h115 (q213 ge N),pr h154 (q221 ge N),pr h158 (q219 ge N)] (fun _=>none) ((.b (.b .e .e) (.c (tagR 6) false [.x 1,.x 2,.kb (.s 3 0) [.ps 3 0 0,.lf .bool,.ps 3 0 2,.ps 3 0 3,.ps 3 0 4,.ps 3 0 5,.ps 3 0 6,.ps 3 0 7,.ps 3 0 8,.ps 3 0 9,.ps 3 0 10,.ps 3 0 11,.ps 3 0 12,.ps 3 0 13,.ps 3 0 14,.ps 3 0 15,.ps 3 0 16],.y 3 3 0 0,.kb (.s 6 0) [.k (.bool false),.k (.bool false),.k (.int .i64 0),.k (.int .i64 0),.k (.int .i64 0),.k (.int .u64 0),.k (.int .u64 0),.k (.int .u64 0),.k (.int .u64 0),.k (.int .u64 0),.k (.int .u64 0),.k (.int .u64 0),.k (.int .u64 0),.k (.int .u64 0),.k (.int .u64 0),.k (.int .u64 0),.k (.int .u64 0)],.y 6 6 0 0,.kb (.s 7 0) [.ps 7 0 0,.lf .bool,.ps 7 0 2,.ps 7 0 3,.ps 7 0 4,.ps 7 0 5,.ps 7 0 6,.ps 7 0 7,.ps 7 0 8,.ps 7 0 9,.ps 7 0 10,.ps 7 0 11,.ps 7 0 12,.ps 7 0 13,.ps 7 0 14,.ps 7 0 15,.ps 7 0 16],.y 7 7 0 0] (.b .e .e) (.c (tagC (.tmp 33)) false [.kb (.s 6 0) [.k (.bool false),.k (.bool false),.k (.int .i64 0),.k (.int .i64 0),.k (.int .i64 0),.k (.int .u64 0),.k (.int .u64 0),.k (.int .u64 0),.k (.int .u64 0),.k (.int .u64 0),.k (.int .u64 0),.k (.int .u64 0),.k (.int .u64 0),.k (.int .u64 0),.k (.int .u64 0),.k (.int .u64 0),.k (.int .u64 0)],.y 6 6 0 0,.kb (.s 7 0) [.ps 7 0 0,.ps 7 0 1,.ps 7 0 2,.fi,.ps 7 0 4,.ps 7 0 5,.ps 7 0 6,.ps 7 0 7,.ps 7 0 8,.ps 7 0 9,.ps 7 0 10,.ps 7 0 11,.ps 7 0 12,.ps 7 0 13,.ps 7 0 14,.ps 7 0 15,.ps 7 0 16],.y 7 7 0 0] (.b (.c (tagC (.tmp 37)) false [.kb (.s 6 0) [.k (.bool false),.k (.bool false),.k (.int .i64 0),.k (.int .i64 0),.k (.int .i64 0),.k (.int .u64 0),.k (.int .u64 0),.k (.int .u64 0),.k (.int .u64 0),.k (.int .u64 0),.k (.int .u64 0),.k (.int .u64 0),.k (.int .u64 0),.k (.int .u64 0),.k (.int .u64 0),.k (.int .u64 0),.k (.int .u64 0)],.y 6 6 0 0,.kb (.s 7 0) [.ps 7 0 0,.ps 7 0 1,.ps 7 0 2,.fi,.ps 7 0 4,.ps 7 0 5,.ps 7 0 6,.ps 7 0 7,.ps 7 0 8,.ps 7 0 9,.ps 7 0 10,.ps 7 0 11,.ps 7 0 12,.ps 7 0 13,.ps 7 0 14,.ps 7 0 15,.ps 7 0 16],.y 7 7 0 0] (.b .e .e) .e) .e) .e)))) N Tryz.func157 rfl (rv:=[.cell 6 167]) J (by decide) J fun x=>by kernel_rfl
theorem h116:HasFn Tryz.prog 116:=hasFn Tryz.func116 rfl rfl
theorem z220(ge:Nat→Value)(N:Nat)(ih:Ck ge 116 Q220 (u9 (F_15 N))):Ck ge 116 Q220 (u9 (F_15 (N+1))):=
 mkS ext0 [pr h48 (q201 ge N),pr h115 (q213 ge N),pr h116 ih,pr h153 (q249 ge N),pr h154 (q221 ge N),pr h155 (q144 ge N),pr h156 (q204 ge N),pr h157 (q164 ge N),pr h158 (q219 ge N)] (fun t=>match t with|167=>some (.pair .bool (.pair .bool (.pair (.int .i64) (.pair (.int .i64) (.pair (.int .i64) (.pair (.pair (.int .u64) (.pair (.int .u64) (.pair (.int .u64) (.int .u64)))) (.pair (.pair (.int .u64) (.pair (.int .u64) (.pair (.int .u64) (.int .u64)))) (.pair (.int .u64) (.pair (.int .u64) (.pair (.int .u64) (.int .u64)))))))))))|_=>none) ((.c (tagB 0) false [.kb (.s 1 0) [.ps 1 0 0,.ps 1 0 1,.ps 1 0 2,.ps 1 0 3,.ps 1 0 4,.ps 1 0 5,.ps 1 0 6,.ps 1 0 7,.ps 1 0 8],.y 1 1 0 0,.kb (.s 2 0) [.k (.bool false),.k (.bool false),.k (.int .i64 0),.k (.int .i64 0),.k (.int .i64 0),.k (.int .u64 0),.k (.int .u64 0),.k (.int .u64 0),.k (.int .u64 0),.k (.int .u64 0),.k (.int .u64 0),.k (.int .u64 0),.k (.int .u64 0),.k (.int .u64 0),.k (.int .u64 0),.k (.int .u64 0),.k (.int .u64 0)],.y 2 2 0 0,.v 3 false [.own (.pair .bool (.pair .bool (.pair (.int .i64) (.pair (.int .i64) (.pair (.int .i64) (.pair (.pair (.int .u64) (.pair (.int .u64) (.pair (.int .u64) (.int .u64)))) (.pair (.pair (.int .u64) (.pair (.int .u64) (.pair (.int .u64) (.int .u64)))) (.pair (.int .u64) (.pair (.int .u64) (.pair (.int .u64) (.int .u64)))))))))))],.v 4 false [.fi]] (.l [.kb (.s 1 0) [.ps 1 0 0,.ps 1 0 1,.ps 1 0 2,.ps 1 0 3,.ps 1 0 4,.ps 1 0 5,.ps 1 0 6,.ps 1 0 7,.ps 1 0 8],.y 1 1 0 0,.x 15,.x 16,.v 17 false [.fi],.kb (.s 2 0) [.k (.bool false),.k (.bool false),.k (.int .i64 0),.k (.int .i64 0),.k (.int .i64 0),.k (.int .u64 0),.k (.int .u64 0),.k (.int .u64 0),.k (.int .u64 0),.k (.int .u64 0),.k (.int .u64 0),.k (.int .u64 0),.k (.int .u64 0),.k (.int .u64 0),.k (.int .u64 0),.k (.int .u64 0),.k (.int .u64 0)],.y 2 2 0 0,.v 3 false [.own (.pair .bool (.pair .bool (.pair (.int .i64) (.pair (.int .i64) (.pair (.int .i64) (.pair (.pair (.int .u64) (.pair (.int .u64) (.pair (.int .u64) (.int .u64)))) (.pair (.pair (.int .u64) (.pair (.int .u64) (.pair (.int .u64) (.int .u64)))) (.pair (.int .u64) (.pair (.int .u64) (.pair (.int .u64) (.int .u64)))))))))))],.v 4 false [.fi]] (.b .e .e)) (.c (tagB 2) false [.kb (.s 2 0) [.k (.bool false),.k (.bool false),.k (.int .i64 0),.k (.int .i64 0),.k (.int .i64 0),.k (.int .u64 0),.k (.int .u64 0),.k (.int .u64 0),.k (.int .u64 0),.k (.int .u64 0),.k (.int .u64 0),.k (.int .u64 0),.k (.int .u64 0),.k (.int .u64 0),.k (.int .u64 0),.k (.int .u64 0),.k (.int .u64 0)],.y 2 2 0 0,.v 4 false [.fi],.kb (.s 8 0) [.lf .bool,.lf .bool,.fi,.fi,.fi,.fu,.fu,.fu,.fu,.fu,.fu,.fu,.fu,.fu,.fu,.fu,.fu],.y 8 8 0 0] (.c (tagC (.tmp 35)) false [.kb (.s 2 0) [.k (.bool false),.k (.bool false),.k (.int .i64 0),.k (.int .i64 0),.k (.int .i64 0),.k (.int .u64 0),.k (.int .u64 0),.k (.int .u64 0),.k (.int .u64 0),.k (.int .u64 0),.k (.int .u64 0),.k (.int .u64 0),.k (.int .u64 0),.k (.int .u64 0),.k (.int .u64 0),.k (.int .u64 0),.k (.int .u64 0)],.y 2 2 0 0,.v 4 false [.fi],.kb (.s 8 0) [.lf .bool,.lf .bool,.fi,.fi,.fi,.fu,.fu,.fu,.fu,.fu,.fu,.fu,.fu,.fu,.fu,.fu,.fu],.y 8 8 0 0] (.b (.c (tagC (.tmp 46)) false [.kb (.s 2 0) [.k (.bool false),.k (.bool false),.k (.int .i64 0),.k (.int .i64 0),.k (.int .i64 0),.k (.int .u64 0),.k (.int .u64 0),.k (.int .u64 0),.k (.int .u64 0),.k (.int .u64 0),.k (.int .u64 0),.k (.int .u64 0),.k (.int .u64 0),.k (.int .u64 0),.k (.int .u64 0),.k (.int .u64 0),.k (.int .u64 0)],.y 2 2 0 0,.x 4,.kb (.s 8 0) [.lf .bool,.k (.bool false),.fi,.fi,.k (.int .i64 0),.fu,.fu,.fu,.fu,.fu,.fu,.fu,.fu,.fu,.fu,.fu,.fu],.y 8 8 0 0] (.b .e .e) .e) (.c (tagC (.tmp 48)) false [.kb (.s 2 0) [.k (.bool false),.k (.bool false),.k (.int .i64 0),.k (.int .i64 0),.k (.int .i64 0),.k (.int .u64 0),.k (.int .u64 0),.k (.int .u64 0),.k (.int .u64 0),.k (.int .u64 0),.k (.int .u64 0),.k (.int .u64 0),.k (.int .u64 0),.k (.int .u64 0),.k (.int .u64 0),.k (.int .u64 0),.k (.int .u64 0)],.y 2 2 0 0,.v 4 false [.fi],.kb (.s 8 0) [.lf .bool,.lf .bool,.fi,.fi,.fi,.fu,.fu,.fu,.fu,.fu,.fu,.fu,.fu,.fu,.fu,.fu,.fu],.y 8 8 0 0] (.b (.c (tagB 3) false [.kb (.s 2 0) [.k (.bool false),.k (.bool false),.k (.int .i64 0),.k (.int .i64 0),.k (.int .i64 0),.k (.int .u64 0),.k (.int .u64 0),.k (.int .u64 0),.k (.int .u64 0),.k (.int .u64 0),.k (.int .u64 0),.k (.int .u64 0),.k (.int .u64 0),.k (.int .u64 0),.k (.int .u64 0),.k (.int .u64 0),.k (.int .u64 0)],.y 2 2 0 0,.x 4,.kb (.s 8 0) [.lf .bool,.lf .bool,.fi,.fi,.k (.int .i64 0),.fu,.fu,.fu,.fu,.fu,.fu,.fu,.fu,.fu,.fu,.fu,.fu],.y 8 8 0 0] (.l [.kb (.s 2 0) [.k (.bool false),.k (.bool false),.k (.int .i64 0),.k (.int .i64 0),.k (.int .i64 0),.k (.int .u64 0),.k (.int .u64 0),.k (.int .u64 0),.k (.int .u64 0),.k (.int .u64 0),.k (.int .u64 0),.k (.int .u64 0),.k (.int .u64 0),.k (.int .u64 0),.k (.int .u64 0),.k (.int .u64 0),.k (.int .u64 0)],.y 2 2 0 0,.x 4,.keep (.s 51 0),.x 51,.x 52,.v 53 false [.fi],.kb (.s 8 0) [.lf .bool,.lf .bool,.fi,.fi,.k (.int .i64 0),.fu,.fu,.fu,.fu,.fu,.fu,.fu,.fu,.fu,.fu,.fu,.fu],.y 8 8 0 0] (.b .e .e)) .e) (.c (tagC (.tmp 61)) false [.kb (.s 2 0) [.k (.bool false),.k (.bool false),.k (.int .i64 0),.k (.int .i64 0),.k (.int .i64 0),.k (.int .u64 0),.k (.int .u64 0),.k (.int .u64 0),.k (.int .u64 0),.k (.int .u64 0),.k (.int .u64 0),.k (.int .u64 0),.k (.int .u64 0),.k (.int .u64 0),.k (.int .u64 0),.k (.int .u64 0),.k (.int .u64 0)],.y 2 2 0 0,.v 4 false [.fi],.kb (.s 8 0) [.lf .bool,.lf .bool,.fi,.fi,.fi,.fu,.fu,.fu,.fu,.fu,.fu,.fu,.fu,.fu,.fu,.fu,.fu],.y 8 8 0 0] (.b (.c (tagB 5) false [.kb (.s 2 0) [.k (.bool false),.k (.bool false),.k (.int .i64 0),.k (.int .i64 0),.k (.int .i64 0),.k (.int .u64 0),.k (.int .u64 0),.k (.int .u64 0),.k (.int .u64 0),.k (.int .u64 0),.k (.int .u64 0),.k (.int .u64 0),.k (.int .u64 0),.k (.int .u64 0),.k (.int .u64 0),.k (.int .u64 0),.k (.int .u64 0)],.y 2 2 0 0,.x 4,.kb (.s 8 0) [.lf .bool,.lf .bool,.fi,.fi,.fi,.fu,.fu,.fu,.fu,.fu,.fu,.fu,.fu,.fu,.fu,.fu,.fu],.y 8 8 0 0] (.l [.kb (.s 2 0) [.k (.bool false),.k (.bool false),.k (.int .i64 0),.k (.int .i64 0),.k (.int .i64 0),.k (.int .u64 0),.k (.int .u64 0),.k (.int .u64 0),.k (.int .u64 0),.k (.int .u64 0),.k (.int .u64 0),.k (.int .u64 0),.k (.int .u64 0),.k (.int .u64 0),.k (.int .u64 0),.k (.int .u64 0),.k (.int .u64 0)],.y 2 2 0 0,.x 4,.keep (.s 67 0),.x 67,.x 68,.v 69 false [.fi],.kb (.s 8 0) [.lf .bool,.lf .bool,.fi,.fi,.fi,.fu,.fu,.fu,.fu,.fu,.fu,.fu,.fu,.fu,.fu,.fu,.fu],.y 8 8 0 0] (.b .e .e)) .e) (.c (tagC (.tmp 77)) false [.kb (.s 2 0) [.k (.bool false),.k (.bool false),.k (.int .i64 0),.k (.int .i64 0),.k (.int .i64 0),.k (.int .u64 0),.k (.int .u64 0),.k (.int .u64 0),.k (.int .u64 0),.k (.int .u64 0),.k (.int .u64 0),.k (.int .u64 0),.k (.int .u64 0),.k (.int .u64 0),.k (.int .u64 0),.k (.int .u64 0),.k (.int .u64 0)],.y 2 2 0 0,.v 4 false [.fi],.kb (.s 8 0) [.lf .bool,.lf .bool,.fi,.fi,.fi,.fu,.fu,.fu,.fu,.fu,.fu,.fu,.fu,.fu,.fu,.fu,.fu],.y 8 8 0 0] (.b (.c (tagR 32) false [.kb (.s 1 0) [.ps 1 0 0,.ps 1 0 1,.ps 1 0 2,.ps 1 0 3,.ps 1 0 4,.ps 1 0 5,.ps 1 0 6,.ps 1 0 7,.ps 1 0 8],.y 1 1 0 0,.kb (.s 2 0) [.k (.bool false),.k (.bool false),.k (.int .i64 0),.k (.int .i64 0),.k (.int .i64 0),.k (.int .u64 0),.k (.int .u64 0),.k (.int .u64 0),.k (.int .u64 0),.k (.int .u64 0),.k (.int .u64 0),.k (.int .u64 0),.k (.int .u64 0),.k (.int .u64 0),.k (.int .u64 0),.k (.int .u64 0),.k (.int .u64 0)],.y 2 2 0 0,.keep (.s 3 0),.x 3,.kb (.s 8 0) [.lf .bool,.lf .bool,.fi,.fi,.fi,.fu,.fu,.fu,.fu,.fu,.fu,.fu,.fu,.fu,.fu,.fu,.fu],.y 8 8 0 0] (.r (.tk 0 7 (.bar 7 (some 8) (.bar 8 none .done))) (some 7) [[],[],[]] .e) (.c (tagC (.tmp 90)) false [.v 13 false [.fi],.kb (.s 2 0) [.k (.bool false),.k (.bool false),.k (.int .i64 0),.k (.int .i64 0),.k (.int .i64 0),.k (.int .u64 0),.k (.int .u64 0),.k (.int .u64 0),.k (.int .u64 0),.k (.int .u64 0),.k (.int .u64 0),.k (.int .u64 0),.k (.int .u64 0),.k (.int .u64 0),.k (.int .u64 0),.k (.int .u64 0),.k (.int .u64 0)],.y 2 2 0 0,.keep (.s 3 0),.x 3,.kb (.s 8 0) [.ps 8 0 0,.ps 8 0 1,.ps 8 0 2,.ps 8 0 3,.ps 8 0 4,.ps 8 0 5,.ps 8 0 6,.ps 8 0 7,.ps 8 0 8,.ps 8 0 9,.ps 8 0 10,.ps 8 0 11,.ps 8 0 12,.ps 8 0 13,.ps 8 0 14,.ps 8 0 15,.ps 8 0 16],.y 8 8 0 0] (.b .e .e) .e)) .e) .e)) .e)) .e)) .e) .e))) N Tryz.func116 rfl (rv:=[.cell 2 167]) J (by decide) J fun x=>by kernel_rfl
theorem q220(ge:Nat→Value):(N:Nat)→Ck ge 116 Q220 (u9 (F_15 N))
 |0=>Con.none
 |N+1=>z220 ge N (q220 ge N)
theorem h72:HasFn Tryz.prog 72:=hasFn Tryz.func72 rfl rfl
theorem q253(ge N):Ck ge 72 Q253 (u9 (F_256 N)):=
 mkS ext0 [pr h71 (s_tree_Right ge N),pr h115 (q213 ge N),pr h116 (q220 ge N)] (fun _=>none) ((.b .e .e)) N Tryz.func72 rfl (rv:=[.cell 2 167]) J (by decide) J fun x=>by kernel_rfl
theorem h35:HasFn Tryz.prog 35:=hasFn Tryz.func35 rfl rfl
theorem q215(ge N):Ck ge 35 Q215 (u9 (F_141 N)):=
 mkS ext0 [pr h72 (q253 ge N)] (fun _=>none) (.e) N Tryz.func35 rfl (rv:=[.tmp 2]) J (by decide) J fun x=>by kernel_rfl
theorem h112:HasFn Tryz.prog 112:=hasFn Tryz.func112 rfl rfl
theorem q149(ge N):Ck ge 112 Q149 (fun x=>F_255 N x.2.2.1 x.2.2.2.1 x.2.2.2.2.1 x.1 x.2.1 x.2.2.2.2.2):=
 mkS ext0 [pr h54 (q57 ge N)] (fun t=>match t with|9=>some .str|_=>none) ((.b .e (.b .e .e))) N Tryz.func112 rfl (rv:=[.tmp 4]) J (by decide) J fun x=>by kernel_rfl
theorem h68:HasFn Tryz.prog 68:=hasFn Tryz.func68 rfl rfl
theorem q153(ge N):Ck ge 68 Q153 (fun x=>F_226 N x.2.2.1 x.2.2.2.1 x.2.2.2.2.1 x.1 x.2.1 x.2.2.2.2.2.1 x.2.2.2.2.2.2.1 x.2.2.2.2.2.2.2.1 x.2.2.2.2.2.2.2.2.1 x.2.2.2.2.2.2.2.2.2.1 x.2.2.2.2.2.2.2.2.2.2.1 x.2.2.2.2.2.2.2.2.2.2.2.1 x.2.2.2.2.2.2.2.2.2.2.2.2.1 x.2.2.2.2.2.2.2.2.2.2.2.2.2.1 x.2.2.2.2.2.2.2.2.2.2.2.2.2.2.1 x.2.2.2.2.2.2.2.2.2.2.2.2.2.2.2.1 x.2.2.2.2.2.2.2.2.2.2.2.2.2.2.2.2.1 x.2.2.2.2.2.2.2.2.2.2.2.2.2.2.2.2.2):=
 mkS ext0 [pr h23 (q202 ge N),pr h35 (q215 ge N),pr h110 (q112 ge N),pr h111 (q172 ge N),pr h112 (q149 ge N)] (fun t=>match t with|99=>some (.pair (.list (.int .i64)) (.pair .nd (.pair (.int .i64) (.int .i64))))|_=>none) ((.b .e (.c (tagC (.tmp 22)) true [.keep (.b (.h 1) 0),.keep (.b (.h 1) 1),.keep (.b (.h 1) 2),.kh 1 [.ph 1 0,.ph 1 1,.ph 1 2,.q (.h 0) 0],.keep (.b (.h 0) 0),.keepo (.b (.h 0) 1),.kh 0 [.ph 0 0,.ph 0 1],.v 0 false [.q (.h 1) 0],.kb (.s 3 0) [.ps 3 0 0,.ps 3 0 1,.ps 3 0 2,.ps 3 0 3,.ps 3 0 4,.ps 3 0 5,.ps 3 0 6,.ps 3 0 7,.ps 3 0 8,.ps 3 0 9,.ps 3 0 10,.ps 3 0 11,.ps 3 0 12],.y 3 3 0 0,.keep (.s 5 0),.x 5,.v 7 false [.fi]] (.b (.r (.tk 0 7 (.bar 7 none (.take 8 .done))) (some 7) [[],[]] (.b .e .e)) .e) (.c (tagR 9) false [.keep (.b (.h 1) 0),.keep (.b (.h 1) 1),.keep (.b (.h 1) 2),.kh 1 [.ph 1 0,.ph 1 1,.ph 1 2,.q (.h 0) 0],.kh 0 [.ar (.b (.h 0) 0) .str,.ao (.b (.h 0) 1) (.mp .nd)],.v 0 false [.q (.h 1) 0],.kb (.s 3 0) [.ps 3 0 0,.ps 3 0 1,.ps 3 0 2,.ps 3 0 3,.ps 3 0 4,.ps 3 0 5,.ps 3 0 6,.ps 3 0 7,.ps 3 0 8,.ps 3 0 9,.ps 3 0 10,.ps 3 0 11,.ps 3 0 12],.y 3 3 0 0,.keep (.s 5 0),.x 5,.v 6 false [.lf .err],.x 7,.bx (.slot 8 0) [.fi,.fu,.fu,.fu,.fu,.sl .nd,.fi,.fi,.lf .str],.v 8 false [.pt 0 0]] (.r (.tk 0 6 (.two 6 10 (.tk 7 3 (.one 10 (.one 11 (.take 12 .done)))) (.one 6 (.tk 7 3 (.one 11 (.take 12 .done)))))) none [[(.b (.h 0) 0),(.h 0),(.b (.h 0) 1)]] .e) (.b .e (.b .e (.c (tagR 14) false [.kh 1 [.ar (.b (.h 1) 0) .str,.own .str,.own (.pair (.list (.int .i64)) (.pair .nd (.pair (.int .i64) (.int .i64)))),.q (.h 0) 0],.kh 0 [.ar (.b (.h 0) 0) .str,.ao (.b (.h 0) 1) (.mp .nd)]] (.r (.tk 0 12 (.take 13 (.one 12 (.take 14 (.one 15 (.one 16 (.tk 17 3 (.bar 20 none .done)))))))) (some 20) [[(.h 1),(.b (.h 1) 0),(.b (.h 1) 1),(.b (.h 1) 2),(.b (.h 0) 0),(.h 0),(.b (.h 0) 1),(.s 5 0),(.c (.h 1) 2)],[]] .e) .e))))))) N Tryz.func68 rfl (rv:=[.tmp 4]) J (by decide) J fun x=>by kernel_rfl
theorem h32:HasFn Tryz.prog 32:=hasFn Tryz.func32 rfl rfl
theorem q236(ge N):Ck ge 32 Q236 (u3 (F_31 N)):=
 mkS ext0 [pr h64 (q200 ge N),pr h65 (q252 ge N),pr h66 (q247 ge N),pr h67 (q198 ge N),pr h68 (q153 ge N)] (fun _=>none) ((.b (.c (tagR 2) false [.kb (.s 2 0) [.k (.slice none 0 0),.k (.slice none 0 0),.k (.slice none 0 0)],.y 2 2 0 0,.v 3 false [.k (.int .i64 0)],.v 4 false [.er 1]] (.r (.take 0 (.take 1 (.one 2 (.take 3 (.take 4 .done))))) none [[]] .e) .e) (.b (.c (tagR 4) false [.kb (.s 2 0) [.k (.slice none 0 0),.k (.slice none 0 0),.k (.slice none 0 0)],.y 2 2 0 0,.v 3 false [.k (.int .i64 0)],.v 4 false [.er 4]] (.r (.take 0 (.take 1 (.one 2 (.take 3 (.take 4 .done))))) none [[]] .e) .e) (.c (tagB 1) true [.kb (.s 1 0) [.ps 1 0 0,.ps 1 0 1,.ps 1 0 2],.y 1 1 0 0,.kb (.s 2 0) [.k (.slice none 0 0),.k (.slice none 0 0),.k (.slice none 0 0)],.y 2 2 0 0,.keep (.b (.s 5 0) 0),.kb (.s 5 0) [.ps 5 0 0,.k (.slice none 0 0),.k (.slice none 0 0),.q (.b (.s 5 0) 3) 0],.kb (.b (.s 5 0) 3) [.own .str,.ao (.b (.b (.s 5 0) 3) 1) (.mp .nd)],.y 5 5 0 0] (.l [.kb (.s 1 0) [.ps 1 0 0,.ps 1 0 1,.ps 1 0 2],.y 1 1 0 0,.kb (.s 2 0) [.k (.slice none 0 0),.k (.slice none 0 0),.k (.slice none 0 0)],.y 2 2 0 0,.x 33,.x 34,.v 35 false [.fi],.keep (.b (.s 5 0) 0),.kb (.s 5 0) [.ps 5 0 0,.k (.slice none 0 0),.k (.slice none 0 0),.q (.b (.s 5 0) 3) 0],.kb (.b (.s 5 0) 3) [.own .str,.ao (.b (.b (.s 5 0) 3) 1) (.mp .nd)],.y 5 5 0 0] (.b (.r (.tk 0 8 (.bar 8 none (.take 9 .done))) (some 8) [[],[]] (.b (.c (tagR 11) false [.kb (.s 2 0) [.k (.slice none 0 0),.k (.slice none 0 0),.k (.slice none 0 0)],.y 2 2 0 0,.v 3 false [.ps 7 0 10],.w 4 8 0] (.r (.tk 0 4 (.one 4 (.take 5 (.take 6 .done)))) none [[]] .e) .e) .e)) .e)) (.c (tagB 3) true [.kb (.s 2 0) [.k (.slice none 0 0),.k (.slice none 0 0),.k (.slice none 0 0)],.y 2 2 0 0,.kb (.s 5 0) [.ar (.b (.s 5 0) 0) .str,.own .str,.own (.pair (.list (.int .i64)) (.pair .nd (.pair (.int .i64) (.int .i64)))),.q (.b (.s 5 0) 3) 0],.kb (.b (.s 5 0) 3) [.ar (.b (.b (.s 5 0) 3) 0) .str,.ao (.b (.b (.s 5 0) 3) 1) (.mp .nd)],.y 5 5 0 0] (.l [.kb (.s 2 0) [.k (.slice none 0 0),.k (.slice none 0 0),.k (.slice none 0 0)],.y 2 2 0 0,.kb (.s 5 0) [.ar (.b (.s 5 0) 0) .str,.own .str,.own (.pair (.list (.int .i64)) (.pair .nd (.pair (.int .i64) (.int .i64)))),.q (.b (.s 5 0) 3) 0],.kb (.b (.s 5 0) 3) [.ar (.b (.b (.s 5 0) 3) 0) .str,.ao (.b (.b (.s 5 0) 3) 1) (.mp .nd)],.y 5 5 0 0,.x 56,.x 57,.v 58 false [.fi]] (.b (.b (.c (tagR 18) false [.kb (.s 2 0) [.k (.slice none 0 0),.k (.slice none 0 0),.k (.slice none 0 0)],.y 2 2 0 0,.v 3 false [.ps 10 0 12],.w 4 11 0] (.r (.tk 0 4 (.one 4 (.take 5 (.take 6 .done)))) none [[]] .e) .e) .e) .e)) .e))))) N Tryz.func32 rfl (rv:=[.cell 2 27,.tmp 3,.tmp 4]) J (by decide) J fun x=>by kernel_rfl
theorem h8:HasFn Tryz.prog 8:=hasFn Tryz.func8 rfl rfl
theorem q237(ge N):Ck ge 8 Q237 (fun x=>F_168 N x):=
 mkS ext0 [pr h31 (s_rulefile_Parse ge N),pr h32 (q236 ge N)] (fun _=>none) ((.b .e .e)) N Tryz.func8 rfl (rv:=[.cell 2 27,.tmp 3,.tmp 4]) J (by decide) J fun x=>by kernel_rfl
theorem h70:HasFn Tryz.prog 70:=hasFn Tryz.func70 rfl rfl
theorem q155(ge N):Ck ge 70 Q155 (u4 (F_191 N)):=
 mkS ext0 [] (fun _=>none) ((.c (tagR 1) false [.kh 0 [.ph 0 0,.ph 0 1,.ph 0 2],.v 3 false [.lf .bool]] (.b .e .e) .e)) N Tryz.func70 rfl (rv:=[.tmp 3]) J (by decide) J fun x=>by kernel_rfl
theorem h82:HasFn Tryz.prog 82:=hasFn Tryz.func82 rfl rfl
theorem q58(ge N):Ck ge 82 Q58 (u4 (F_38 N)):=
 mkS ext0 [pr h70 (q155 ge N)] (fun _=>none) ((.c (tagB 0) true [.kh 0 [.ph 0 0,.ph 0 1,.ph 0 2]] (.l [.kh 0 [.ph 0 0,.ph 0 1,.ph 0 2],.x 0,.fn 1 70 [.q (.h 0) 0],.x 7,.v 8 false [.fi]] (.b (.b .e .e) .e)) .e)) N Tryz.func82 rfl (rv:=[.tmp 4]) J (by decide) J fun x=>by kernel_rfl
theorem h49:HasFn Tryz.prog 49:=hasFn Tryz.func49 rfl rfl
theorem q52(ge N):Ck ge 49 Q52 (u4 (F_64 N)):=
 mkS ext0 [pr h82 (q58 ge N)] (fun _=>none) (.e) N Tryz.func49 rfl (rv:=[.tmp 4]) J (by decide) J fun x=>by kernel_rfl
theorem h69:HasFn Tryz.prog 69:=hasFn Tryz.func69 rfl rfl
theorem q194(ge N):Ck ge 69 Q194 (u15 (F_68 N)):=
 mkS ext0 [pr h49 (q52 ge N),pr h71 (s_tree_Right ge N)] (fun _=>none) ((.c (tagR 2) false [.kh 0 [.ph 0 0,.ph 0 1,.ph 0 2],.v 3 false [.lf .bool]] (.b .e .e) .e)) N Tryz.func69 rfl (rv:=[.tmp 3]) J (by decide) J fun x=>by kernel_rfl
theorem h73:HasFn Tryz.prog 73:=hasFn Tryz.func73 rfl rfl
theorem q20(ge N):Ck ge 73 Q20 (u4 (F_39 N)):=
 mkS ext0 [pr h69 (q194 ge N)] (fun _=>none) ((.c (tagB 0) true [.kh 0 [.ph 0 0,.ph 0 1,.ph 0 2]] (.l [.kh 0 [.ph 0 0,.ph 0 1,.ph 0 2],.x 0,.fn 1 69 [.q (.h 0) 0],.x 7,.v 8 false [.fi]] (.b (.b .e .e) .e)) .e)) N Tryz.func73 rfl (rv:=[.tmp 4]) J (by decide) J fun x=>by kernel_rfl
theorem h36:HasFn Tryz.prog 36:=hasFn Tryz.func36 rfl rfl
theorem q17(ge N):Ck ge 36 Q17 (u4 (F_71 N)):=
 mkS ext0 [pr h73 (q20 ge N)] (fun _=>none) (.e) N Tryz.func36 rfl (rv:=[.tmp 4]) J (by decide) J fun x=>by kernel_rfl
theorem h33:HasFn Tryz.prog 33:=hasFn Tryz.func33 rfl rfl
theorem q209(ge N):Ck ge 33 Q209 (u3 (F_41 N)):=
 mkS ext0 [pr h36 (q17 ge N)] (fun _=>none) ((.c (tagR 1) false [.kb (.s 1 0) [.ps 1 0 0,.ps 1 0 1,.ps 1 0 2],.y 1 1 0 0,.v 24 false [.lf .bool]] (.b .e (.b .e (.b .e .e))) (.b .e .e))) N Tryz.func33 rfl (rv:=[.tmp 2]) J (by decide) J fun x=>by kernel_rfl
theorem h34:HasFn Tryz.prog 34:=hasFn Tryz.func34 rfl rfl
theorem q235(ge N):Ck ge 34 Q235 (u12 (F_251 N)):=
 mkS ext0 [pr h35 (q215 ge N)] (fun _=>none) (.e) N Tryz.func34 rfl (rv:=[.tmp 2]) J (by decide) J fun x=>by kernel_rfl
theorem q18(ge N):Ck ge 73 Q18 (fun x=>F_111 N x):=
 mkS ext0 [pr h34 (q235 ge N)] (fun _=>none) ((.c (tagB 0) true [] (.l [.x 0,.fn 1 34 [],.x 7,.v 8 false [.fi]] (.b (.b .e .e) .e)) .e)) N Tryz.func73 rfl (rv:=[.tmp 4]) J (by decide) J fun x=>by kernel_rfl
theorem q15(ge N):Ck ge 36 Q15 (fun x=>F_231 N x):=
 mkS ext0 [pr h73 (q18 ge N)] (fun _=>none) (.e) N Tryz.func36 rfl (rv:=[.tmp 4]) J (by decide) J fun x=>by kernel_rfl
theorem h37:HasFn Tryz.prog 37:=hasFn Tryz.func37 rfl rfl
theorem q111(ge N):Ck ge 37 Q111 (u3 (F_42 N)):=
 mkS ext0 [] (fun t=>match t with|85=>some (.pair .unit (.pair (.list (.int .i64)) (.pair (.pair (.int .u64) (.pair (.int .u64) (.pair (.int .u64) (.int .u64)))) (.pair (.int .i64) (.int .i64)))))|_=>none) ((.b .e .e)) N Tryz.func37 rfl (rv:=[.tmp 2]) J (by decide) J fun x=>by kernel_rfl
theorem h38:HasFn Tryz.prog 38:=hasFn Tryz.func38 rfl rfl
theorem q179(ge N):Ck ge 38 Q179 (u5 (F_69 N)):=
 mkS ext0 [] (fun t=>match t with|3=>some (.int .i64)|_=>none) ((.c (tagC (.tmp 10)) false [.keep (.b (.h 0) 1),.kh 0 [.ao (.b (.h 0) 0) (.ns (.int .i64) (.pair (.pair (.int .u64) (.pair (.int .u64) (.pair (.int .u64) (.int .u64)))) (.pair (.int .i64) (.int .i64))) 0),.ph 0 1,.ph 0 2]] (.b (.c (tagR 1) false [.keep (.b (.h 0) 1),.kh 0 [.ao (.b (.h 0) 0) (.ns (.int .i64) (.pair (.pair (.int .u64) (.pair (.int .u64) (.pair (.int .u64) (.int .u64)))) (.pair (.int .i64) (.int .i64))) 0),.ph 0 1,.ph 0 2]] (.r (.tk 0 16 (.one 16 (.take 17 (.take 18 (.bar 19 none .done))))) (some 19) [[(.b (.h 0) 0),(.c (.b (.h 0) 0) 0)],[]] .e) .e) .e) .e)) N Tryz.func38 rfl (rv:=[]) J (by decide) J fun x=>by kernel_rfl
theorem h74:HasFn Tryz.prog 74:=hasFn Tryz.func74 rfl rfl
theorem q161(ge N):Ck ge 74 Q161 (u13 (F_156 N)):=
 mkS ext0 [pr h37 (q111 ge N)] (fun _=>none) ((.c (tagC (.tmp 14)) false [.keep (.b (.h 0) 1),.kh 0 [.ao (.b (.h 0) 0) (.ns (.int .i64) (.pair (.pair (.int .u64) (.pair (.int .u64) (.pair (.int .u64) (.int .u64)))) (.pair (.int .i64) (.int .i64))) 0),.ph 0 1,.ph 0 2],.x 7] (.b (.c (tagR 3) false [.keep (.b (.h 0) 1),.kh 0 [.ao (.b (.h 0) 0) (.ns (.int .i64) (.pair (.pair (.int .u64) (.pair (.int .u64) (.pair (.int .u64) (.int .u64)))) (.pair (.int .i64) (.int .i64))) 0),.ph 0 1,.ph 0 2],.x 7] (.r (.tk 0 17 (.one 17 (.take 18 (.take 19 (.bar 20 none .done))))) (some 20) [[(.b (.h 0) 0)],[]] .e) .e) .e) .e)) N Tryz.func74 rfl (rv:=[.tmp 6]) J (by decide) J fun x=>by kernel_rfl
theorem h117:HasFn Tryz.prog 117:=hasFn Tryz.func117 rfl rfl
theorem q186(ge N):Ck ge 117 Q186 (u4 (F_80 N)):=
 mkS ext0 [pr h37 (q111 ge N),pr h38 (q179 ge N)] (fun t=>match t with|3=>some (.int .i64)|_=>none) (.e) N Tryz.func117 rfl (rv:=[.tmp 4]) J (by decide) J fun x=>by kernel_rfl
theorem h75:HasFn Tryz.prog 75:=hasFn Tryz.func75 rfl rfl
theorem h39:HasFn Tryz.prog 39:=hasFn Tryz.func39 rfl rfl
theorem q193(ge:Nat→Value)(N:Nat)(self_:(List ((List Int)×(Int×Int×Int×Int)×Int×Int))→(List Int)→Int→Int→Int→Int→Int→Int→(List Nd)→Int→Int→ByteArray→Int→Option ((List ((List Int)×(Int×Int×Int×Int)×Int×Int))×(List Int)×Int×Int))(hself:Ck ge 39 Q185 (fun x=>self_ x.1 x.2.1 x.2.2.1 x.2.2.2.1 x.2.2.2.2.1 x.2.2.2.2.2.1 x.2.2.2.2.2.2.1 x.2.2.2.2.2.2.2.1 x.2.2.2.2.2.2.2.2.1 x.2.2.2.2.2.2.2.2.2.1 x.2.2.2.2.2.2.2.2.2.2.1 x.2.2.2.2.2.2.2.2.2.2.2.1 x.2.2.2.2.2.2.2.2.2.2.2.2)):Ck ge 75 Q193 (fun x=>F_30 N self_ x.1 x.2.1 x.2.2.1 x.2.2.2.1 x.2.2.2.2.1 x.2.2.2.2.2.1 x.2.2.2.2.2.2.1 x.2.2.2.2.2.2.2.1 x.2.2.2.2.2.2.2.2.1 x.2.2.2.2.2.2.2.2.2.1 x.2.2.2.2.2.2.2.2.2.2.1 x.2.2.2.2.2.2.2.2.2.2.2.1 x.2.2.2.2.2.2.2.2.2.2.2.2):=
 mkS ext0 [pr h37 (q111 ge N),pr h38 (q179 ge N),pr h39 hself,pr h117 (q186 ge N)] (fun t=>match t with|3=>some (.int .i64)|_=>none) ((.c (tagB 0) false [.kh 0 [.ow (.ns (.int .i64) (.pair (.pair (.int .u64) (.pair (.int .u64) (.pair (.int .u64) (.int .u64)))) (.pair (.int .i64) (.int .i64))) 0),.ar (.b (.h 0) 1) (.int .i64),.lf .err],.v 0 false [.q (.h 0) 0],.v 7 false [.own (.int .i64)]] (.l [.kh 0 [.ow (.ns (.int .i64) (.pair (.pair (.int .u64) (.pair (.int .u64) (.pair (.int .u64) (.int .u64)))) (.pair (.int .i64) (.int .i64))) 0),.ar (.b (.h 0) 1) (.int .i64),.lf .err],.v 0 false [.q (.h 0) 0],.x 14,.x 15,.v 16 false [.fi],.x 2,.v 7 false [.own (.int .i64)]] (.b (.c (tagR 5) false [.kh 0 [.ow (.ns (.int .i64) (.pair (.pair (.int .u64) (.pair (.int .u64) (.pair (.int .u64) (.int .u64)))) (.pair (.int .i64) (.int .i64))) 0),.ar (.b (.h 0) 1) (.int .i64),.lf .err],.v 0 false [.q (.h 0) 0],.x 14,.x 15,.x 16,.x 2,.v 7 false [.own (.int .i64)]] (.r (.tk 0 5 (.one 5 (.one 6 (.one 7 (.bar 8 none (.take 9 .done)))))) (some 8) [[(.h 0),(.b (.h 0) 0),(.b (.h 0) 1)],[]] .e) .e) .e)) (.c (tagB 2) false [.kh 0 [.ao (.b (.h 0) 0) (.ns (.int .i64) (.pair (.pair (.int .u64) (.pair (.int .u64) (.pair (.int .u64) (.int .u64)))) (.pair (.int .i64) (.int .i64))) 0),.ar (.b (.h 0) 1) (.int .i64),.ph 0 2],.x 10] (.l [.kh 0 [.ao (.b (.h 0) 0) (.ns (.int .i64) (.pair (.pair (.int .u64) (.pair (.int .u64) (.pair (.int .u64) (.int .u64)))) (.pair (.int .i64) (.int .i64))) 0),.ar (.b (.h 0) 1) (.int .i64),.ph 0 2],.v 0 false [.q (.h 0) 0],.x 10,.keep (.s 32 0),.x 32,.x 33,.v 34 false [.fi]] (.b .e .e)) .e))) N Tryz.func75 rfl (rv:=[.tmp 6]) J (by decide) J fun x=>by kernel_rfl
theorem h118:HasFn Tryz.prog 118:=hasFn Tryz.func118 rfl rfl
theorem q184(ge:Nat→Value)(N:Nat)(self_:(List ((List Int)×(Int×Int×Int×Int)×Int×Int))→(List Int)→Int→Int→Int→Int→Int→Int→(List Nd)→Int→Int→ByteArray→Int→Option ((List ((List Int)×(Int×Int×Int×Int)×Int×Int))×(List Int)×Int×Int))(hself:Ck ge 39 Q185 (fun x=>self_ x.1 x.2.1 x.2.2.1 x.2.2.2.1 x.2.2.2.2.1 x.2.2.2.2.2.1 x.2.2.2.2.2.2.1 x.2.2.2.2.2.2.2.1 x.2.2.2.2.2.2.2.2.1 x.2.2.2.2.2.2.2.2.2.1 x.2.2.2.2.2.2.2.2.2.2.1 x.2.2.2.2.2.2.2.2.2.2.2.1 x.2.2.2.2.2.2.2.2.2.2.2.2)):Ck ge 118 Q184 (fun x=>F_192 N self_ x.1 x.2.1 x.2.2.1 x.2.2.2.1 x.2.2.2.2.1 x.2.2.2.2.2.1 x.2.2.2.2.2.2.1 x.2.2.2.2.2.2.2.1 x.2.2.2.2.2.2.2.2.1 x.2.2.2.2.2.2.2.2.2.1 x.2.2.2.2.2.2.2.2.2.2.1 x.2.2.2.2.2.2.2.2.2.2.2.1 x.2.2.2.2.2.2.2.2.2.2.2.2):=
 mkS ext0 [pr h37 (q111 ge N),pr h38 (q179 ge N),pr h39 hself] (fun t=>match t with|3=>some (.int .i64)|_=>none) (.e) N Tryz.func118 rfl (rv:=[.tmp 6]) J (by decide) J fun x=>by kernel_rfl
theorem h76:HasFn Tryz.prog 76:=hasFn Tryz.func76 rfl rfl
theorem q196(ge:Nat→Value)(N:Nat)(self_:(List ((List Int)×(Int×Int×Int×Int)×Int×Int))→(List Int)→Int→Int→Int→Int→Int→Int→(List Nd)→Int→Int→ByteArray→Int→Option ((List ((List Int)×(Int×Int×Int×Int)×Int×Int))×(List Int)×Int×Int))(hself:Ck ge 39 Q185 (fun x=>self_ x.1 x.2.1 x.2.2.1 x.2.2.2.1 x.2.2.2.2.1 x.2.2.2.2.2.1 x.2.2.2.2.2.2.1 x.2.2.2.2.2.2.2.1 x.2.2.2.2.2.2.2.2.1 x.2.2.2.2.2.2.2.2.2.1 x.2.2.2.2.2.2.2.2.2.2.1 x.2.2.2.2.2.2.2.2.2.2.2.1 x.2.2.2.2.2.2.2.2.2.2.2.2)):Ck ge 76 Q196 (fun x=>F_17 N self_ x.1 x.2.1 x.2.2.1 x.2.2.2.1 x.2.2.2.2.1 x.2.2.2.2.2.1 x.2.2.2.2.2.2.1 x.2.2.2.2.2.2.2.1 x.2.2.2.2.2.2.2.2.1 x.2.2.2.2.2.2.2.2.2.1 x.2.2.2.2.2.2.2.2.2.2.1 x.2.2.2.2.2.2.2.2.2.2.2.1 x.2.2.2.2.2.2.2.2.2.2.2.2):=
 mkS ext0 [pr h38 (q179 ge N),pr h39 hself,pr h117 (q186 ge N),pr h118 (q184 ge N self_ hself)] (fun t=>match t with|3=>some (.int .i64)|_=>none) ((.c (tagB 0) false [.kh 0 [.ow (.ns (.int .i64) (.pair (.pair (.int .u64) (.pair (.int .u64) (.pair (.int .u64) (.int .u64)))) (.pair (.int .i64) (.int .i64))) 0),.ar (.b (.h 0) 1) (.int .i64),.lf .err],.v 0 false [.q (.h 0) 0],.v 2 false [.fi],.kb (.s 4 0) [.ps 4 0 0,.ps 4 0 1,.ps 4 0 2,.ps 4 0 3,.ps 4 0 4,.ps 4 0 5,.ps 4 0 6,.ps 4 0 7,.ps 4 0 8],.y 4 4 0 0,.kb (.s 7 0) [.ps 7 0 0,.ps 7 0 1,.ps 7 0 2,.ps 7 0 3,.ps 7 0 4,.ps 7 0 5,.ps 7 0 6,.ps 7 0 7,.ps 7 0 8],.y 7 7 0 0] (.l [.kh 0 [.ow (.ns (.int .i64) (.pair (.pair (.int .u64) (.pair (.int .u64) (.pair (.int .u64) (.int .u64)))) (.pair (.int .i64) (.int .i64))) 0),.ar (.b (.h 0) 1) (.int .i64),.lf .err],.v 0 false [.q (.h 0) 0],.x 17,.v 18 false [.fi],.v 2 false [.fi],.kb (.s 4 0) [.ps 4 0 0,.ps 4 0 1,.ps 4 0 2,.ps 4 0 3,.ps 4 0 4,.ps 4 0 5,.ps 4 0 6,.ps 4 0 7,.ps 4 0 8],.y 4 4 0 0,.kb (.s 7 0) [.ps 7 0 0,.ps 7 0 1,.ps 7 0 2,.ps 7 0 3,.ps 7 0 4,.ps 7 0 5,.ps 7 0 6,.ps 7 0 7,.ps 7 0 8],.y 7 7 0 0] (.b .e .e)) (.b .e (.b .e (.c (tagB 3) false [.kh 0 [.ow (.ns (.int .i64) (.pair (.pair (.int .u64) (.pair (.int .u64) (.pair (.int .u64) (.int .u64)))) (.pair (.int .i64) (.int .i64))) 0),.ar (.b (.h 0) 1) (.int .i64),.lf .err],.v 0 false [.q (.h 0) 0],.v 2 false [.fi],.v 8 false [.own (.int .i64)]] (.l [.kh 0 [.ow (.ns (.int .i64) (.pair (.pair (.int .u64) (.pair (.int .u64) (.pair (.int .u64) (.int .u64)))) (.pair (.int .i64) (.int .i64))) 0),.ar (.b (.h 0) 1) (.int .i64),.lf .err],.v 0 false [.q (.h 0) 0],.v 2 false [.fi],.x 42,.v 43 false [.fi],.kb (.s 7 0) [.ps 7 0 0,.ps 7 0 1,.ps 7 0 2,.ps 7 0 3,.ps 7 0 4,.ps 7 0 5,.ps 7 0 6,.ps 7 0 7,.ps 7 0 8],.y 7 7 0 0,.v 8 false [.own (.int .i64)]] (.b (.r (.tk 0 4 (.one 4 (.bar 5 none (.take 6 .done)))) (some 5) [[(.h 0),(.b (.h 0) 0),(.b (.h 0) 1)],[]] .e) .e)) (.c (tagB 5) false [.kh 0 [.ao (.b (.h 0) 0) (.ns (.int .i64) (.pair (.pair (.int .u64) (.pair (.int .u64) (.pair (.int .u64) (.int .u64)))) (.pair (.int .i64) (.int .i64))) 0),.ar (.b (.h 0) 1) (.int .i64),.ph 0 2],.x 9] (.l [.kh 0 [.ao (.b (.h 0) 0) (.ns (.int .i64) (.pair (.pair (.int .u64) (.pair (.int .u64) (.pair (.int .u64) (.int .u64)))) (.pair (.int .i64) (.int .i64))) 0),.ar (.b (.h 0) 1) (.int .i64),.ph 0 2],.v 0 false [.q (.h 0) 0],.keep (.s 59 0),.x 59,.x 60,.v 61 false [.fi],.x 9] (.b .e .e)) .e)))))) N Tryz.func76 rfl (rv:=[.tmp 6]) J (by decide) J fun x=>by kernel_rfl
theorem z185(ge:Nat→Value)(N:Nat)(ih:Ck ge 39 Q185 (u13 (F_14 N))):Ck ge 39 Q185 (u13 (F_14 (N+1))):=
 mkS ext0 [pr h37 (q111 ge N),pr h39 ih,pr h74 (q161 ge N),pr h75 (q193 ge N _ ih),pr h76 (q196 ge N _ ih)] (fun _=>none) ((.b .e (.b .e (.b (.c (tagB 1) false [.kh 0 [.ow (.ns (.int .i64) (.pair (.pair (.int .u64) (.pair (.int .u64) (.pair (.int .u64) (.int .u64)))) (.pair (.int .i64) (.int .i64))) 0),.ar (.b (.h 0) 1) (.int .i64),.lf .err],.v 2 false [.fi]] (.l [.kh 0 [.ow (.ns (.int .i64) (.pair (.pair (.int .u64) (.pair (.int .u64) (.pair (.int .u64) (.int .u64)))) (.pair (.int .i64) (.int .i64))) 0),.ar (.b (.h 0) 1) (.int .i64),.lf .err],.v 0 false [.q (.h 0) 0],.v 2 false [.fi],.x 25,.x 26,.v 27 false [.fi]] (.b .e .e)) .e) (.b .e (.b .e .e)))))) N Tryz.func39 rfl (rv:=[.tmp 6]) J (by decide) J fun x=>by kernel_rfl
theorem q185(ge:Nat→Value):(N:Nat)→Ck ge 39 Q185 (u13 (F_14 N))
 |0=>Con.none
 |N+1=>z185 ge N (q185 ge N)
theorem h9:HasFn Tryz.prog 9:=hasFn Tryz.func9 rfl rfl
theorem q251(ge N):Ck ge 9 Q251 (u3 (F_12 N)):=
 mkS ext0 [pr h33 (q209 ge N),pr h36 (q15 ge N),pr h37 (q111 ge N),pr h38 (q179 ge N),pr h39 (q185 ge N)] (fun t=>match t with|3=>some (.int .i64)|_=>none) ((.b (.c (tagR 2) false [.kb (.s 2 0) [.k (.slice none 0 0),.k (.slice none 0 0)],.y 2 2 0 0,.v 3 false [.er 1]] (.r (.take 0 (.take 1 (.one 2 (.take 3 .done)))) none [[]] .e) .e) (.b (.c (tagR 5) false [.kb (.s 2 0) [.k (.slice none 0 0),.k (.slice none 0 0)],.y 2 2 0 0,.v 3 false [.er 2]] (.r (.take 0 (.take 1 (.one 2 (.take 3 .done)))) none [[]] .e) .e) (.c (tagB 0) false [.kb (.s 1 0) [.ps 1 0 0,.ps 1 0 1,.ps 1 0 2],.y 1 1 0 0,.kb (.s 2 0) [.k (.slice none 0 0),.k (.slice none 0 0)],.y 2 2 0 0,.kb (.s 5 0) [.ow (.ns (.int .i64) (.pair (.pair (.int .u64) (.pair (.int .u64) (.pair (.int .u64) (.int .u64)))) (.pair (.int .i64) (.int .i64))) 0),.own (.int .i64),.lf .err],.y 5 5 0 0] (.l [.kb (.s 1 0) [.ps 1 0 0,.ps 1 0 1,.ps 1 0 2],.y 1 1 0 0,.kb (.s 2 0) [.k (.slice none 0 0),.k (.slice none 0 0)],.y 2 2 0 0,.x 27,.v 28 false [.fi],.kb (.s 5 0) [.ow (.ns (.int .i64) (.pair (.pair (.int .u64) (.pair (.int .u64) (.pair (.int .u64) (.int .u64)))) (.pair (.int .i64) (.int .i64))) 0),.own (.int .i64),.lf .err],.y 5 5 0 0] (.b (.c (tagR 9) false [.kb (.s 1 0) [.ps 1 0 0,.ps 1 0 1,.ps 1 0 2],.y 1 1 0 0,.kb (.s 2 0) [.k (.slice none 0 0),.k (.slice none 0 0)],.y 2 2 0 0,.x 27,.x 28,.kb (.s 5 0) [.ow (.ns (.int .i64) (.pair (.pair (.int .u64) (.pair (.int .u64) (.pair (.int .u64) (.int .u64)))) (.pair (.int .i64) (.int .i64))) 0),.own (.int .i64),.lf .err],.y 5 5 0 0] (.r (.tk 0 7 (.one 7 (.one 8 (.one 9 (.tk 10 3 (.bar 13 none .done)))))) (some 13) [[(.s 5 0),(.b (.s 5 0) 0),(.b (.s 5 0) 1),(.c (.s 5 0) 1)],[]] .e) .e) .e)) (.c (tagB 2) true [.kb (.s 2 0) [.k (.slice none 0 0),.k (.slice none 0 0)],.y 2 2 0 0,.kb (.s 5 0) [.ow (.ns (.int .i64) (.pair (.pair (.int .u64) (.pair (.int .u64) (.pair (.int .u64) (.int .u64)))) (.pair (.int .i64) (.int .i64))) 0),.ar (.b (.s 5 0) 1) (.int .i64),.lf .err],.y 5 5 0 0] (.l [.kb (.s 2 0) [.k (.slice none 0 0),.k (.slice none 0 0)],.y 2 2 0 0,.x 45,.x 46,.v 47 false [.fi],.kb (.s 5 0) [.ow (.ns (.int .i64) (.pair (.pair (.int .u64) (.pair (.int .u64) (.pair (.int .u64) (.int .u64)))) (.pair (.int .i64) (.int .i64))) 0),.ar (.b (.s 5 0) 1) (.int .i64),.lf .err],.y 5 5 0 0] (.b (.c (tagB 4) false [.kb (.s 2 0) [.k (.slice none 0 0),.k (.slice none 0 0)],.y 2 2 0 0,.x 45,.x 46,.x 47,.kb (.s 5 0) [.ao (.b (.s 5 0) 0) (.ns (.int .i64) (.pair (.pair (.int .u64) (.pair (.int .u64) (.pair (.int .u64) (.int .u64)))) (.pair (.int .i64) (.int .i64))) 0),.ar (.b (.s 5 0) 1) (.int .i64),.ps 5 0 2],.y 5 5 0 0,.x 6,.kb (.s 7 0) [.ps 7 0 0,.ps 7 0 1,.ps 7 0 2,.ps 7 0 3,.ps 7 0 4,.ps 7 0 5,.ps 7 0 6,.ps 7 0 7,.ps 7 0 8,.ps 7 0 9,.ps 7 0 10,.ps 7 0 11],.y 7 7 0 0,.x 8] (.l [.kb (.s 2 0) [.k (.slice none 0 0),.k (.slice none 0 0)],.y 2 2 0 0,.x 45,.x 46,.x 47,.kb (.s 5 0) [.ao (.b (.s 5 0) 0) (.ns (.int .i64) (.pair (.pair (.int .u64) (.pair (.int .u64) (.pair (.int .u64) (.int .u64)))) (.pair (.int .i64) (.int .i64))) 0),.ar (.b (.s 5 0) 1) (.int .i64),.ps 5 0 2],.y 5 5 0 0,.x 55,.x 56,.v 57 false [.fi],.x 6,.kb (.s 7 0) [.ps 7 0 0,.ps 7 0 1,.ps 7 0 2,.ps 7 0 3,.ps 7 0 4,.ps 7 0 5,.ps 7 0 6,.ps 7 0 7,.ps 7 0 8,.ps 7 0 9,.ps 7 0 10,.ps 7 0 11],.y 7 7 0 0,.x 8] (.b .e .e)) (.b (.c (tagR 22) false [.kb (.s 2 0) [.k (.slice none 0 0),.k (.slice none 0 0)],.y 2 2 0 0,.v 3 false [.ps 5 0 2]] (.r (.tk 0 5 (.one 5 (.take 6 .done))) none [[]] .e) .e) .e)) .e)) .e))))) N Tryz.func9 rfl (rv:=[.cell 2 35,.tmp 3]) J (by decide) J fun x=>by kernel_rfl
theorem h7:HasFn Tryz.prog 7:=hasFn Tryz.func7 rfl rfl
theorem q160(ge N):Ck ge 7 Q160 (fun x=>F_241 N):=
 mkS ext0 [pr h8 (q237 ge N),pr h9 (q251 ge N),pr h30 (q254 ge N)] (fun t=>match t with|5=>some (.int .u8)|_=>none) ((.c (tagR 3) false [.v 0 false [.lf .bool]] (.r (.tk 0 35 (.one 35 (.tk 36 11 .done))) none [[]] (.b (.b (.b (.b (.b (.b .e .e) .e) .e) .e) .e) .e)) .e)) N Tryz.func7 rfl (rv:=[.tmp 0]) J (by decide) J fun x=>by kernel_rfl
theorem h45:HasFn Tryz.prog 45:=hasFn Tryz.func45 rfl rfl
theorem z197(ge:Nat→Value)(N:Nat)(ih:Ck ge 45 Q197 (u10 (F_22 N))):Ck ge 45 Q197 (u10 (F_22 (N+1))):=
 mkS ext0 [pr h45 ih] (fun t=>match t with|61=>some .nd|_=>none) ((.c (tagB 0) true [.v 1 false [.fi],.kb (.s 4 0) [.k (.int .i64 0),.k (.int .u64 0),.k (.int .u64 0),.k (.int .u64 0),.k (.int .u64 0),.k (.slice none 0 0),.k (.int .i64 0),.k (.int .i64 0),.k (.string ByteArray.empty)],.y 4 4 0 0,.kb (.s 6 0) [.ps 6 0 0,.ps 6 0 1,.ps 6 0 2,.ps 6 0 3,.ps 6 0 4,.own .nd,.ps 6 0 6,.ps 6 0 7,.ps 6 0 8],.y 6 6 0 0] (.l [.v 1 false [.fi],.x 25,.x 26,.v 27 false [.fi],.kb (.s 4 0) [.k (.int .i64 0),.k (.int .u64 0),.k (.int .u64 0),.k (.int .u64 0),.k (.int .u64 0),.k (.slice none 0 0),.k (.int .i64 0),.k (.int .i64 0),.k (.string ByteArray.empty)],.y 4 4 0 0,.kb (.s 6 0) [.ps 6 0 0,.ps 6 0 1,.ps 6 0 2,.ps 6 0 3,.ps 6 0 4,.own .nd,.ps 6 0 6,.ps 6 0 7,.ps 6 0 8],.y 6 6 0 0] (.b (.b .e .e) .e)) .e)) N Tryz.func45 rfl (rv:=[.cell 4 61,.tmp 5]) J (by decide) J fun x=>by kernel_rfl
theorem q197(ge:Nat→Value):(N:Nat)→Ck ge 45 Q197 (u10 (F_22 N))
 |0=>Con.none
 |N+1=>z197 ge N (q197 ge N)
theorem h11:HasFn Tryz.prog 11:=hasFn Tryz.func11 rfl rfl
theorem q203(ge N):Ck ge 11 Q203 (u3 (F_59 N)):=
 mkS ext0 [pr h45 (q197 ge N)] (fun t=>match t with|63=>some (.pair (.list (.int .i64)) (.pair .nd (.pair (.int .i64) (.int .i64))))|_=>none) ((.c (tagB 0) false [.kb (.s 2 0) [.k (.slice none 0 0),.k (.slice none 0 0),.k (.slice none 0 0)],.y 2 2 0 0,.kb (.s 3 0) [.ps 3 0 0,.ps 3 0 1,.own (.pair (.list (.int .i64)) (.pair .nd (.pair (.int .i64) (.int .i64))))],.y 3 3 0 0] (.l [.x 14,.x 15,.v 16 false [.fi],.kb (.s 2 0) [.k (.slice none 0 0),.k (.slice none 0 0),.k (.slice none 0 0)],.y 2 2 0 0,.kb (.s 3 0) [.ps 3 0 0,.ps 3 0 1,.own (.pair (.list (.int .i64)) (.pair .nd (.pair (.int .i64) (.int .i64))))],.y 3 3 0 0] (.b .e .e)) .e)) N Tryz.func11 rfl (rv:=[.cell 2 45]) J (by decide) J fun x=>by kernel_rfl
theorem h77:HasFn Tryz.prog 77:=hasFn Tryz.func77 rfl rfl
theorem z138(ge:Nat→Value)(N:Nat)(ih:Ck ge 77 Q138 (u11 (F_33 N))):Ck ge 77 Q138 (u11 (F_33 (N+1))):=
 mkS ext0 [pr h77 ih] (fun t=>match t with|173=>some (.pair .nd (.pair (.int .i64) (.int .i64)))|_=>none) ((.b .e (.b .e (.c (tagB 0) true [.v 2 false [.own (.pair .nd (.pair (.int .i64) (.int .i64)))]] (.l [.x 1,.v 2 false [.own (.pair .nd (.pair (.int .i64) (.int .i64)))],.x 36,.x 37,.v 38 false [.fi]] (.b (.b .e .e) .e)) .e)))) N Tryz.func77 rfl (rv:=[.tmp 6]) J (by decide) J fun x=>by kernel_rfl
theorem q138(ge:Nat→Value):(N:Nat)→Ck ge 77 Q138 (u11 (F_33 N))
 |0=>Con.none
 |N+1=>z138 ge N (q138 ge N)
theorem h119:HasFn Tryz.prog 119:=hasFn Tryz.func119 rfl rfl
theorem q143(ge N):Ck ge 119 Q143 (fun x=>F_75 N x):=
 mkS ext0 [] (fun _=>none) ((.c (tagR 1) false [.x 0,.v 21 false [.lf .bool]] (.b .e (.b .e (.b .e .e))) (.b .e (.c (tagB 0) true [] (.l [.x 0,.v 3 false [.fi]] (.b (.c (tagR 6) false [.x 0,.x 3,.v 49 false [.lf .bool]] (.b (.b .e .e) (.b (.b .e .e) .e)) (.b .e .e)) .e)) .e)))) N Tryz.func119 rfl (rv:=[.tmp 2]) J (by decide) J fun x=>by kernel_rfl
theorem h78:HasFn Tryz.prog 78:=hasFn Tryz.func78 rfl rfl
theorem q195(ge N):Ck ge 78 Q195 (u11 (F_185 N)):=
 mkS ext0 [pr h119 (q143 ge N)] (fun _=>none) ((.c (tagR 2) false [.kb (.s 1 0) [.ps 1 0 0,.ps 1 0 1,.ps 1 0 2,.ps 1 0 3,.ps 1 0 4,.ps 1 0 5,.ps 1 0 6,.ps 1 0 7,.ps 1 0 8,.ps 1 0 9,.ps 1 0 10],.y 1 1 0 0,.kb (.s 3 0) [.ps 3 0 0,.ps 3 0 1,.ps 3 0 2,.ps 3 0 3,.ps 3 0 4,.ps 3 0 5,.ps 3 0 6,.ps 3 0 7,.ps 3 0 8],.y 3 3 0 0,.v 39 false [.lf .bool]] (.b (.b .e (.b (.b .e (.b .e (.b .e .e))) (.b .e .e))) (.b (.b .e (.b .e (.b .e .e))) (.b .e .e))) (.b .e (.b .e (.b .e (.b .e (.b (.c (tagR 11) false [.kb (.s 3 0) [.ps 3 0 0,.ps 3 0 1,.ps 3 0 2,.ps 3 0 3,.ps 3 0 4,.ps 3 0 5,.ps 3 0 6,.ps 3 0 7,.ps 3 0 8],.y 3 3 0 0,.v 70 false [.lf .bool]] (.b .e (.b .e .e)) (.b .e (.c (tagR 13) false [.v 2 false [.lf .bool]] (.b .e (.b (.b .e .e) .e)) .e))) (.c (tagR 14) false [.v 2 false [.lf .bool]] (.b (.b .e .e) .e) .e)))))))) N Tryz.func78 rfl (rv:=[.tmp 2]) J (by decide) J fun x=>by kernel_rfl
theorem h40:HasFn Tryz.prog 40:=hasFn Tryz.func40 rfl rfl
theorem q165(ge N):Ck ge 40 Q165 (u9 (F_76 N)):=
 mkS ext0 [pr h77 (q138 ge N),pr h78 (q195 ge N)] (fun _=>none) ((.c (tagB 0) true [.keep (.s 3 0),.x 3] (.l [.v 10 false [.fi],.keep (.s 3 0),.x 3,.w 8 3 0,.x 9] (.b (.c (tagR 5) false [.x 10,.v 21 false [.lf .bool],.keep (.s 3 0),.x 3,.w 8 3 0,.x 9] (.b .e .e) (.b .e .e)) .e)) .e)) N Tryz.func40 rfl (rv:=[.tmp 2]) J (by decide) J fun x=>by kernel_rfl
theorem h79:HasFn Tryz.prog 79:=hasFn Tryz.func79 rfl rfl
theorem q189(ge N):Ck ge 79 Q189 (fun x=>F_124 N x):=
 mkS ext0 [] (fun _=>none) ((.b .e .e)) N Tryz.func79 rfl (rv:=[.tmp 2]) J (by decide) J fun x=>by kernel_rfl
theorem h41:HasFn Tryz.prog 41:=hasFn Tryz.func41 rfl rfl
theorem z150(ge:Nat→Value)(N:Nat)(ih:Ck ge 41 Q150 (u9 (F_34 N))):Ck ge 41 Q150 (u9 (F_34 (N+1))):=
 mkS ext0 [pr h41 ih,pr h79 (q189 ge N)] (fun _=>none) ((.c (tagB 0) false [.v 3 false [.fi]] (.l [.kb (.s 1 0) [.ps 1 0 0,.ps 1 0 1,.ps 1 0 2,.ps 1 0 3,.ps 1 0 4,.ps 1 0 5,.ps 1 0 6,.ps 1 0 7,.ps 1 0 8],.y 1 1 0 0,.v 10 false [.fi],.v 3 false [.fi],.x 8,.x 9] (.b (.c (tagB 1) false [.kb (.s 1 0) [.ps 1 0 0,.ps 1 0 1,.ps 1 0 2,.ps 1 0 3,.ps 1 0 4,.ps 1 0 5,.ps 1 0 6,.ps 1 0 7,.ps 1 0 8],.y 1 1 0 0,.x 10,.v 3 false [.fi],.x 8,.x 9] (.c (tagR 6) false [.kb (.s 1 0) [.ps 1 0 0,.ps 1 0 1,.ps 1 0 2,.ps 1 0 3,.ps 1 0 4,.ps 1 0 5,.ps 1 0 6,.ps 1 0 7,.ps 1 0 8],.y 1 1 0 0,.x 10,.v 23 false [.lf .bool],.x 3,.x 6,.x 8,.x 9] (.b .e .e) (.c (tagC (.tmp 23)) false [.kb (.s 1 0) [.ps 1 0 0,.ps 1 0 1,.ps 1 0 2,.ps 1 0 3,.ps 1 0 4,.ps 1 0 5,.ps 1 0 6,.ps 1 0 7,.ps 1 0 8],.y 1 1 0 0,.x 10,.x 3,.v 6 false [.fi],.x 8,.x 9] (.b .e (.c (tagC (.tmp 32)) false [.kb (.s 1 0) [.ps 1 0 0,.ps 1 0 1,.ps 1 0 2,.ps 1 0 3,.ps 1 0 4,.ps 1 0 5,.ps 1 0 6,.ps 1 0 7,.ps 1 0 8],.y 1 1 0 0,.x 10,.x 3,.v 6 false [.fi],.x 8,.x 9] (.b .e .e) .e)) .e)) .e) .e)) .e)) N Tryz.func41 rfl (rv:=[.tmp 2]) J (by decide) J fun x=>by kernel_rfl
theorem q150(ge:Nat→Value):(N:Nat)→Ck ge 41 Q150 (u9 (F_34 N))
 |0=>Con.none
 |N+1=>z150 ge N (q150 ge N)
theorem h42:HasFn Tryz.prog 42:=hasFn Tryz.func42 rfl rfl
theorem q65(ge N):Ck ge 42 Q65 (u3 (F_29 N)):=
 mkS ext0 [] (fun t=>match t with|117=>some (.pair .unit (.pair (.list (.int .i64)) (.pair (.pair (.int .u64) (.pair (.int .u64) (.pair (.int .u64) (.int .u64)))) (.pair (.int .i64) (.int .i64)))))|_=>none) ((.b .e .e)) N Tryz.func42 rfl (rv:=[.tmp 2]) J (by decide) J fun x=>by kernel_rfl
theorem h43:HasFn Tryz.prog 43:=hasFn Tryz.func43 rfl rfl
theorem q68(ge N):Ck ge 43 Q68 (u5 (F_35 N)):=
 mkS ext0 [] (fun t=>match t with|3=>some (.int .i64)|_=>none) ((.c (tagC (.tmp 10)) false [.keep (.b (.h 0) 1),.kh 0 [.ao (.b (.h 0) 0) (.ns (.int .i64) (.pair (.pair (.int .u64) (.pair (.int .u64) (.pair (.int .u64) (.int .u64)))) (.pair (.int .i64) (.int .i64))) 0),.ph 0 1,.ph 0 2]] (.b (.c (tagR 1) false [.keep (.b (.h 0) 1),.kh 0 [.ao (.b (.h 0) 0) (.ns (.int .i64) (.pair (.pair (.int .u64) (.pair (.int .u64) (.pair (.int .u64) (.int .u64)))) (.pair (.int .i64) (.int .i64))) 0),.ph 0 1,.ph 0 2]] (.r (.tk 0 16 (.one 16 (.one 17 (.take 18 (.take 19 (.bar 20 none .done)))))) (some 20) [[(.b (.h 0) 0),(.c (.b (.h 0) 0) 0)],[]] .e) .e) .e) .e)) N Tryz.func43 rfl (rv:=[]) J (by decide) J fun x=>by kernel_rfl
theorem h44:HasFn Tryz.prog 44:=hasFn Tryz.func44 rfl rfl
theorem z69(ge:Nat→Value)(N:Nat)(ih:Ck ge 44 Q69 (u13 (F_2 N))):Ck ge 44 Q69 (u13 (F_2 (N+1))):=
 mkS ext0 [pr h42 (q65 ge N),pr h43 (q68 ge N),pr h44 ih] (fun t=>match t with|3=>some (.int .i64)|_=>none) ((.b .e (.b (.c (tagC (.tmp 40)) false [.keep (.b (.h 0) 1),.kh 0 [.ao (.b (.h 0) 0) (.ns (.int .i64) (.pair (.pair (.int .u64) (.pair (.int .u64) (.pair (.int .u64) (.int .u64)))) (.pair (.int .i64) (.int .i64))) 0),.ph 0 1,.ph 0 2],.x 7] (.b (.c (tagR 6) false [.keep (.b (.h 0) 1),.kh 0 [.ao (.b (.h 0) 0) (.ns (.int .i64) (.pair (.pair (.int .u64) (.pair (.int .u64) (.pair (.int .u64) (.int .u64)))) (.pair (.int .i64) (.int .i64))) 0),.ph 0 1,.ph 0 2],.v 0 false [.q (.h 0) 0],.x 2,.x 7] (.r (.tk 0 10 (.bar 10 none .done)) (some 10) [[],[]] .e) .e) .e) .e) (.b (.c (tagB 0) false [.kh 0 [.ow (.ns (.int .i64) (.pair (.pair (.int .u64) (.pair (.int .u64) (.pair (.int .u64) (.int .u64)))) (.pair (.int .i64) (.int .i64))) 0),.ar (.b (.h 0) 1) (.int .i64),.lf .bool],.v 2 false [.fi]] (.l [.kh 0 [.ow (.ns (.int .i64) (.pair (.pair (.int .u64) (.pair (.int .u64) (.pair (.int .u64) (.int .u64)))) (.pair (.int .i64) (.int .i64))) 0),.ar (.b (.h 0) 1) (.int .i64),.lf .bool],.v 0 false [.q (.h 0) 0],.v 2 false [.fi],.x 65,.x 66,.v 67 false [.fi]] (.b .e .e)) .e) (.b .e (.b (.c (tagB 2) false [.kh 0 [.ow (.ns (.int .i64) (.pair (.pair (.int .u64) (.pair (.int .u64) (.pair (.int .u64) (.int .u64)))) (.pair (.int .i64) (.int .i64))) 0),.ar (.b (.h 0) 1) (.int .i64),.lf .bool],.v 0 false [.q (.h 0) 0],.v 10 false [.own (.int .i64)]] (.l [.kh 0 [.ow (.ns (.int .i64) (.pair (.pair (.int .u64) (.pair (.int .u64) (.pair (.int .u64) (.int .u64)))) (.pair (.int .i64) (.int .i64))) 0),.ar (.b (.h 0) 1) (.int .i64),.lf .bool],.v 0 false [.q (.h 0) 0],.v 10 false [.own (.int .i64)],.x 2,.x 87,.x 88,.v 89 false [.fi]] (.b .e .e)) (.c (tagB 4) false [.kh 0 [.ao (.b (.h 0) 0) (.ns (.int .i64) (.pair (.pair (.int .u64) (.pair (.int .u64) (.pair (.int .u64) (.int .u64)))) (.pair (.int .i64) (.int .i64))) 0),.ar (.b (.h 0) 1) (.int .i64),.ph 0 2],.x 14] (.l [.kh 0 [.ao (.b (.h 0) 0) (.ns (.int .i64) (.pair (.pair (.int .u64) (.pair (.int .u64) (.pair (.int .u64) (.int .u64)))) (.pair (.int .i64) (.int .i64))) 0),.ar (.b (.h 0) 1) (.int .i64),.ph 0 2],.v 0 false [.q (.h 0) 0],.keep (.s 109 0),.x 109,.x 110,.v 111 false [.fi],.x 14] (.b .e .e)) .e)) (.c (tagB 6) false [.kh 0 [.ow (.ns (.int .i64) (.pair (.pair (.int .u64) (.pair (.int .u64) (.pair (.int .u64) (.int .u64)))) (.pair (.int .i64) (.int .i64))) 0),.ar (.b (.h 0) 1) (.int .i64),.lf .bool],.v 0 false [.q (.h 0) 0],.v 2 false [.fi],.kb (.s 4 0) [.ps 4 0 0,.ps 4 0 1,.ps 4 0 2,.ps 4 0 3,.ps 4 0 4,.ps 4 0 5,.ps 4 0 6,.ps 4 0 7,.ps 4 0 8],.y 4 4 0 0] (.l [.kh 0 [.ow (.ns (.int .i64) (.pair (.pair (.int .u64) (.pair (.int .u64) (.pair (.int .u64) (.int .u64)))) (.pair (.int .i64) (.int .i64))) 0),.ar (.b (.h 0) 1) (.int .i64),.lf .bool],.v 0 false [.q (.h 0) 0],.v 17 false [.fi],.v 2 false [.fi],.kb (.s 4 0) [.ps 4 0 0,.ps 4 0 1,.ps 4 0 2,.ps 4 0 3,.ps 4 0 4,.ps 4 0 5,.ps 4 0 6,.ps 4 0 7,.ps 4 0 8],.y 4 4 0 0] (.b .e .e)) (.b .e (.b .e (.c (tagB 8) false [.kh 0 [.ow (.ns (.int .i64) (.pair (.pair (.int .u64) (.pair (.int .u64) (.pair (.int .u64) (.int .u64)))) (.pair (.int .i64) (.int .i64))) 0),.ar (.b (.h 0) 1) (.int .i64),.lf .bool],.v 0 false [.q (.h 0) 0],.v 2 false [.fi],.v 21 false [.own (.int .i64)]] (.l [.kh 0 [.ow (.ns (.int .i64) (.pair (.pair (.int .u64) (.pair (.int .u64) (.pair (.int .u64) (.int .u64)))) (.pair (.int .i64) (.int .i64))) 0),.ar (.b (.h 0) 1) (.int .i64),.lf .bool],.v 0 false [.q (.h 0) 0],.v 2 false [.fi],.v 21 false [.own (.int .i64)],.v 22 false [.fi],.kb (.s 4 0) [.ps 4 0 0,.ps 4 0 1,.ps 4 0 2,.ps 4 0 3,.ps 4 0 4,.ps 4 0 5,.ps 4 0 6,.ps 4 0 7,.ps 4 0 8],.y 4 4 0 0] (.b .e .e)) (.c (tagB 10) false [.kh 0 [.ao (.b (.h 0) 0) (.ns (.int .i64) (.pair (.pair (.int .u64) (.pair (.int .u64) (.pair (.int .u64) (.int .u64)))) (.pair (.int .i64) (.int .i64))) 0),.ar (.b (.h 0) 1) (.int .i64),.ph 0 2],.x 24] (.l [.kh 0 [.ao (.b (.h 0) 0) (.ns (.int .i64) (.pair (.pair (.int .u64) (.pair (.int .u64) (.pair (.int .u64) (.int .u64)))) (.pair (.int .i64) (.int .i64))) 0),.ar (.b (.h 0) 1) (.int .i64),.ph 0 2],.v 0 false [.q (.h 0) 0],.keep (.s 203 0),.x 203,.x 204,.v 205 false [.fi],.x 24] (.b .e .e)) .e))))))))))) N Tryz.func44 rfl (rv:=[.tmp 6]) J (by decide) J fun x=>by kernel_rfl
theorem q69(ge:Nat→Value):(N:Nat)→Ck ge 44 Q69 (u13 (F_2 N))
 |0=>Con.none
 |N+1=>z69 ge N (q69 ge N)
theorem h10:HasFn Tryz.prog 10:=hasFn Tryz.func10 rfl rfl
theorem q170(ge N):Ck ge 10 Q170 (u3 (F_8 N)):=
 mkS ext0 [pr h40 (q165 ge N),pr h41 (q150 ge N),pr h42 (q65 ge N),pr h43 (q68 ge N),pr h44 (q69 ge N)] (fun t=>match t with|3=>some (.int .i64)|_=>none) ((.c (tagR 1) false [.kb (.s 1 0) [.ps 1 0 0,.ps 1 0 1,.ps 1 0 2],.y 1 1 0 0,.kb (.s 2 0) [.k (.slice none 0 0),.k (.slice none 0 0)],.y 2 2 0 0,.v 38 false [.lf .bool]] (.b .e (.b .e (.b .e .e))) (.b .e (.c (tagB 0) true [.kb (.s 1 0) [.ps 1 0 0,.ps 1 0 1,.ps 1 0 2],.y 1 1 0 0,.kb (.s 2 0) [.k (.slice none 0 0),.k (.slice none 0 0)],.y 2 2 0 0] (.l [.kb (.s 1 0) [.ps 1 0 0,.ps 1 0 1,.ps 1 0 2],.y 1 1 0 0,.kb (.s 2 0) [.k (.slice none 0 0),.k (.slice none 0 0)],.y 2 2 0 0,.x 41,.x 42,.v 43 false [.fi]] (.b (.b .e (.c (tagB 2) true [.kb (.s 1 0) [.ps 1 0 0,.ps 1 0 1,.ps 1 0 2],.y 1 1 0 0,.kb (.s 2 0) [.k (.slice none 0 0),.k (.slice none 0 0)],.y 2 2 0 0,.x 41,.x 42,.x 43] (.l [.kb (.s 1 0) [.ps 1 0 0,.ps 1 0 1,.ps 1 0 2],.y 1 1 0 0,.kb (.s 2 0) [.k (.slice none 0 0),.k (.slice none 0 0)],.y 2 2 0 0,.x 41,.x 42,.x 43,.x 53,.x 54,.v 55 false [.fi]] (.b (.c (tagR 11) false [.kb (.s 1 0) [.ps 1 0 0,.ps 1 0 1,.ps 1 0 2],.y 1 1 0 0,.kb (.s 2 0) [.k (.slice none 0 0),.k (.slice none 0 0)],.y 2 2 0 0,.x 41,.x 42,.x 43,.x 53,.x 54,.x 55,.v 67 false [.lf .bool]] (.b .e .e) (.b .e .e)) .e)) .e)) .e)) (.c (tagB 4) true [.kb (.s 1 0) [.ps 1 0 0,.ps 1 0 1,.ps 1 0 2],.y 1 1 0 0,.kb (.s 2 0) [.k (.slice none 0 0),.k (.slice none 0 0)],.y 2 2 0 0] (.l [.kb (.s 1 0) [.ps 1 0 0,.ps 1 0 1,.ps 1 0 2],.y 1 1 0 0,.kb (.s 2 0) [.k (.slice none 0 0),.k (.slice none 0 0)],.y 2 2 0 0,.x 72,.x 73,.v 74 false [.fi]] (.b (.b .e .e) .e)) (.c (tagB 6) false [.kb (.s 1 0) [.ps 1 0 0,.ps 1 0 1,.ps 1 0 2],.y 1 1 0 0,.kb (.s 10 0) [.ow (.ns (.int .i64) (.pair (.pair (.int .u64) (.pair (.int .u64) (.pair (.int .u64) (.int .u64)))) (.pair (.int .i64) (.int .i64))) 0),.own (.int .i64),.lf .bool],.y 10 10 0 0,.kb (.s 2 0) [.k (.slice none 0 0),.k (.slice none 0 0)],.y 2 2 0 0] (.l [.kb (.s 1 0) [.ps 1 0 0,.ps 1 0 1,.ps 1 0 2],.y 1 1 0 0,.kb (.s 10 0) [.ow (.ns (.int .i64) (.pair (.pair (.int .u64) (.pair (.int .u64) (.pair (.int .u64) (.int .u64)))) (.pair (.int .i64) (.int .i64))) 0),.own (.int .i64),.lf .bool],.y 10 10 0 0,.kb (.s 2 0) [.k (.slice none 0 0),.k (.slice none 0 0)],.y 2 2 0 0,.x 88,.v 89 false [.fi]] (.b (.c (tagR 24) false [.kb (.s 1 0) [.ps 1 0 0,.ps 1 0 1,.ps 1 0 2],.y 1 1 0 0,.kb (.s 10 0) [.ow (.ns (.int .i64) (.pair (.pair (.int .u64) (.pair (.int .u64) (.pair (.int .u64) (.int .u64)))) (.pair (.int .i64) (.int .i64))) 0),.own (.int .i64),.lf .bool],.y 10 10 0 0,.kb (.s 2 0) [.k (.slice none 0 0),.k (.slice none 0 0)],.y 2 2 0 0,.x 88,.x 89] (.r (.tk 0 7 (.one 7 (.one 8 (.one 9 (.tk 10 3 (.bar 13 none .done)))))) (some 13) [[(.s 10 0),(.b (.s 10 0) 0),(.b (.s 10 0) 1),(.c (.s 10 0) 1)],[]] .e) .e) .e)) (.c (tagB 8) true [.kb (.s 10 0) [.ow (.ns (.int .i64) (.pair (.pair (.int .u64) (.pair (.int .u64) (.pair (.int .u64) (.int .u64)))) (.pair (.int .i64) (.int .i64))) 0),.ar (.b (.s 10 0) 1) (.int .i64),.lf .bool],.y 10 10 0 0,.kb (.s 2 0) [.k (.slice none 0 0),.k (.slice none 0 0)],.y 2 2 0 0] (.l [.kb (.s 10 0) [.ow (.ns (.int .i64) (.pair (.pair (.int .u64) (.pair (.int .u64) (.pair (.int .u64) (.int .u64)))) (.pair (.int .i64) (.int .i64))) 0),.ar (.b (.s 10 0) 1) (.int .i64),.lf .bool],.y 10 10 0 0,.x 106,.x 107,.v 108 false [.fi],.kb (.s 2 0) [.k (.slice none 0 0),.k (.slice none 0 0)],.y 2 2 0 0] (.b (.c (tagB 10) false [.kb (.s 10 0) [.ao (.b (.s 10 0) 0) (.ns (.int .i64) (.pair (.pair (.int .u64) (.pair (.int .u64) (.pair (.int .u64) (.int .u64)))) (.pair (.int .i64) (.int .i64))) 0),.ar (.b (.s 10 0) 1) (.int .i64),.ps 10 0 2],.y 10 10 0 0,.x 106,.x 107,.x 108,.x 11,.kb (.s 12 0) [.ps 12 0 0,.ps 12 0 1,.ps 12 0 2,.ps 12 0 3,.ps 12 0 4,.ps 12 0 5,.ps 12 0 6,.ps 12 0 7,.ps 12 0 8,.ps 12 0 9,.ps 12 0 10,.ps 12 0 11],.y 12 12 0 0,.x 13,.kb (.s 2 0) [.k (.slice none 0 0),.k (.slice none 0 0)],.y 2 2 0 0] (.l [.kb (.s 10 0) [.ao (.b (.s 10 0) 0) (.ns (.int .i64) (.pair (.pair (.int .u64) (.pair (.int .u64) (.pair (.int .u64) (.int .u64)))) (.pair (.int .i64) (.int .i64))) 0),.ar (.b (.s 10 0) 1) (.int .i64),.ps 10 0 2],.y 10 10 0 0,.x 106,.x 107,.x 108,.x 11,.x 116,.x 117,.v 118 false [.fi],.kb (.s 12 0) [.ps 12 0 0,.ps 12 0 1,.ps 12 0 2,.ps 12 0 3,.ps 12 0 4,.ps 12 0 5,.ps 12 0 6,.ps 12 0 7,.ps 12 0 8,.ps 12 0 9,.ps 12 0 10,.ps 12 0 11],.y 12 12 0 0,.x 13,.kb (.s 2 0) [.k (.slice none 0 0),.k (.slice none 0 0)],.y 2 2 0 0] (.b .e .e)) (.b .e .e)) .e)) .e))))))) N Tryz.func10 rfl (rv:=[.cell 2 40,.tmp 3]) J (by decide) J fun x=>by kernel_rfl
theorem h46:HasFn Tryz.prog 46:=hasFn Tryz.func46 rfl rfl
theorem s_isO(ge:Nat→Value):Con (am ge) Tryz.prog 46 sgIs (fun x=>isO errIds x.1 x.2):=isS isC
theorem h12:HasFn Tryz.prog 12:=hasFn Tryz.func12 rfl rfl
theorem q205(ge N):Ck ge 12 Q205 (fun x=>F_122 N x):=
 mkS ext0 [pr h46 (s_isO ge)] (fun t=>match t with|29=>some .err|_=>none) ((.b .e (.c (tagB 0) true [] (.l [.x 0,.keep (.s 27 0),.x 27,.x 28,.v 29 false [.fi]] (.b (.b .e .e) .e)) .e))) N Tryz.func12 rfl (rv:=[.tmp 2]) J (by decide) J fun x=>by kernel_rfl
theorem h13:HasFn Tryz.prog 13:=hasFn Tryz.func13 rfl rfl
theorem q199(ge N):Ck ge 13 Q199 (u3 (F_74 N)):=
 mkS ext0 [] (fun t=>match t with|117=>some (.pair (.list (.int .i64)) (.pair (.pair (.int .u64) (.pair (.int .u64) (.pair (.int .u64) (.int .u64)))) (.pair (.int .i64) (.int .i64))))|_=>none) ((.c (tagR 2) false [.kb (.s 2 0) [.ps 2 0 0,.ps 2 0 1],.y 2 2 0 0,.v 22 false [.lf .bool],.kb (.s 4 0) [.k (.slice none 0 0),.k (.slice none 0 0)],.y 4 4 0 0,.kb (.s 6 0) [.k (.slice none 0 0),.ps 6 0 1],.y 6 6 0 0] (.b .e .e) (.b .e (.c (tagB 0) true [.kb (.s 4 0) [.k (.slice none 0 0),.k (.slice none 0 0)],.y 4 4 0 0,.kb (.s 6 0) [.own (.pair (.list (.int .i64)) (.pair (.pair (.int .u64) (.pair (.int .u64) (.pair (.int .u64) (.int .u64)))) (.pair (.int .i64) (.int .i64)))),.ps 6 0 1],.y 6 6 0 0] (.l [.x 25,.x 26,.v 27 false [.fi],.kb (.s 4 0) [.k (.slice none 0 0),.k (.slice none 0 0)],.y 4 4 0 0,.kb (.s 6 0) [.own (.pair (.list (.int .i64)) (.pair (.pair (.int .u64) (.pair (.int .u64) (.pair (.int .u64) (.int .u64)))) (.pair (.int .i64) (.int .i64)))),.ps 6 0 1],.y 6 6 0 0] (.b (.b .e .e) .e)) .e)))) N Tryz.func13 rfl (rv:=[.cell 4 40,.tmp 5]) J (by decide) J fun x=>by kernel_rfl
theorem h47:HasFn Tryz.prog 47:=hasFn Tryz.func47 rfl rfl
theorem q234(ge N):Ck ge 47 Q234 (u2 (F_129 N)):=
 mkS ext0 [] (fun _=>none) ((.c (tagR 1) false [.kh 0 [.ph 0 0],.v 3 false [.lf .bool]] (.b .e .e) .e)) N Tryz.func47 rfl (rv:=[.tmp 3]) J (by decide) J fun x=>by kernel_rfl
theorem q55(ge N):Ck ge 82 Q55 (u2 (F_110 N)):=
 mkS ext0 [pr h47 (q234 ge N)] (fun _=>none) ((.c (tagB 0) true [.kh 0 [.ph 0 0]] (.l [.kh 0 [.ph 0 0],.x 0,.fn 1 47 [.q (.h 0) 0],.x 7,.v 8 false [.fi]] (.b (.b .e .e) .e)) .e)) N Tryz.func82 rfl (rv:=[.tmp 4]) J (by decide) J fun x=>by kernel_rfl
theorem q49(ge N):Ck ge 49 Q49 (u2 (F_176 N)):=
 mkS ext0 [pr h82 (q55 ge N)] (fun _=>none) (.e) N Tryz.func49 rfl (rv:=[.tmp 4]) J (by decide) J fun x=>by kernel_rfl
theorem h14:HasFn Tryz.prog 14:=hasFn Tryz.func14 rfl rfl
theorem q244(ge N):Ck ge 14 Q244 (u2 (F_37 N)):=
 mkS ext0 [pr h47 (q234 ge N),pr h48 (q201 ge N),pr h49 (q49 ge N)] (fun _=>none) ((.c (tagB 0) true [.kb (.s 1 0) [.ps 1 0 0,.ps 1 0 1],.y 1 1 0 0,.kb (.s 3 0) [.ps 3 0 0],.y 3 3 0 0,.fn 4 47 [.q (.s 3 0) 0]] (.l [.kb (.s 1 0) [.ps 1 0 0,.ps 1 0 1],.y 1 1 0 0,.x 14,.x 15,.v 16 false [.fi],.kb (.s 3 0) [.ps 3 0 0],.y 3 3 0 0,.fn 4 47 [.q (.s 3 0) 0]] (.b (.c (tagR 6) false [.kb (.s 1 0) [.ps 1 0 0,.ps 1 0 1],.y 1 1 0 0,.x 14,.x 15,.x 16,.kb (.s 3 0) [.ps 3 0 0],.y 3 3 0 0,.fn 4 47 [.q (.s 3 0) 0],.kb (.s 6 0) [.ps 6 0 0,.ps 6 0 1,.ps 6 0 2,.ps 6 0 3,.ps 6 0 4,.ps 6 0 5,.ps 6 0 6],.y 6 6 0 0,.v 7 false [.lf .bool]] (.b (.b .e .e) .e) (.c (tagR 7) false [.kb (.s 1 0) [.ps 1 0 0,.ps 1 0 1],.y 1 1 0 0,.x 14,.x 15,.x 16,.kb (.s 3 0) [.ps 3 0 0],.y 3 3 0 0,.fn 4 47 [.q (.s 3 0) 0],.v 52 false [.lf .bool]] (.b .e (.b .e (.b .e .e))) (.b .e .e))) .e)) (.c (tagR 10) false [.kb (.s 1 0) [.ps 1 0 0,.ps 1 0 1],.y 1 1 0 0,.kb (.s 3 0) [.ps 3 0 0],.y 3 3 0 0,.fn 4 47 [.q (.s 3 0) 0],.v 8 false [.lf .bool]] (.b .e .e) (.c (tagR 11) false [.v 2 false [.lf .bool]] (.b (.b (.b .e .e) .e) .e) .e)))) N Tryz.func14 rfl (rv:=[.tmp 2]) J (by decide) J fun x=>by kernel_rfl
theorem h21:HasFn Tryz.prog 21:=hasFn Tryz.func21 rfl rfl
theorem q134(ge N):Ck ge 21 Q134 (u2 (F_66 N)):=
 mkS ext0 [] (fun _=>none) ((.b .e (.c (tagB 0) true [] (.l [.x 0,.x 1,.x 12,.v 13 false [.fi]] (.b (.r (.tk 0 9 .done) none [[]] (.b .e .e)) .e)) .e))) N Tryz.func21 rfl (rv:=[.tmp 4]) J (by decide) J fun x=>by kernel_rfl
theorem h15:HasFn Tryz.prog 15:=hasFn Tryz.func15 rfl rfl
theorem q187(ge N):Ck ge 15 Q187 (u4 (F_79 N)):=
 mkS ext0 [pr h21 (q134 ge N)] (fun _=>none) ((.c (tagR 1) false [.kb (.s 2 0) [.ps 2 0 0,.ps 2 0 1],.y 2 2 0 0,.v 22 false [.lf .bool],.kb (.s 3 0) [.ps 3 0 0,.ps 3 0 1],.y 3 3 0 0] (.b .e .e) (.b .e (.c (tagB 0) true [] (.l [.x 24,.x 25,.v 26 false [.fi],.kb (.s 3 0) [.ps 3 0 0,.ps 3 0 1],.y 3 3 0 0] (.b (.c (tagR 7) false [.x 24,.x 25,.x 26,.kb (.s 3 0) [.ps 3 0 0,.ps 3 0 1],.y 3 3 0 0,.v 62 false [.lf .bool]] (.b .e (.b .e (.b .e .e))) (.b .e .e)) .e)) .e)))) N Tryz.func15 rfl (rv:=[.tmp 4]) J (by decide) J fun x=>by kernel_rfl
theorem h3:HasFn Tryz.prog 3:=hasFn Tryz.func3 rfl rfl
theorem q88(ge N):Ck ge 3 Q88 (fun x=>F_73 N x):=
 mkS ext0 [pr h7 (q160 ge N),pr h8 (q237 ge N),pr h9 (q251 ge N),pr h10 (q170 ge N),pr h11 (q203 ge N),pr h12 (q205 ge N),pr h13 (q199 ge N),pr h14 (q244 ge N),pr h15 (q187 ge N)] (fun _=>none) ((.b .e (.b .e (.b .e (.b .e (.c (tagR 13) false [.v 2 false [.lf .bool]] (.b (.b (.b .e (.b .e .e)) .e) .e) .e)))))) N Tryz.func3 rfl (rv:=[.tmp 2]) J (by decide) J fun x=>by kernel_rfl
open Go Go.Eng Go.Dn
set_option maxRecDepth 100000
theorem law_bytes{X:Amb}{P:Program}{f:FuncId}{G:(tupT (Sig.mk 1 [.v 0 false [.sl (.int .u8)]] 1 [.v 0 false [.leaf .bool]]).tin).den→Option (tupT (Sig.mk 1 [.v 0 false [.sl (.int .u8)]] 1 [.v 0 false [.leaf .bool]]).tout).den}(K:Con X P f ⟨1,[.v 0 false [.sl (.int .u8)]],1,[.v 0 false [.leaf .bool]]⟩ G)
 {C:Cx} {w:World} {ρ:View} {hs:List Hl} {v:Value} {x:List Int} {r:Bool} (H:Hp C w ρ hs) (gle:GErrs ρ X.T X.ids X.ge) (h:RdSl ρ (eI .u8) v x) (hF:G x=some r):
 Calls P f [v].toArray w (Rets fun u w'=> ∃(ρ':View) (x':Bool),x'=r∧ .bool x'=u∧View.le ρ ρ'∧Hp C w' ρ' hs):=by
 have S:=K.ok (C:=C) (w:=w) (ρ:=ρ) (hs:=hs) (us:=[v]) (ls:=[⟨.list (.int .u8),x⟩]) (κ:=[v]) (γ:=[]) (A:=[]) (E':=[(0,v)]) (x:=x) (y:=r) rfl
  ⟨rfl,rfl,rfl,(fun f hf=>by rw[List.mem_singleton.1 hf];exact⟨v,x,rfl,rfl,h⟩),trivial,⟨rfl,rfl,trivial⟩⟩
  (fun p hp=>by rw[List.mem_singleton.1 hp];rfl) rfl H gle hF
 refine S.mono ?_;rintro e w' ⟨u,rfl,ρ',vs,M,κ',γ',E2,g1,rfl,g2,g3,g4,g5⟩;have B:=g5 (η:=[⟨.list (.int .u8),x⟩]) (ι:=[v]) (β:=[]) (b:=⟨1,1,0,id,id,id⟩) ⟨rfl,rfl,rfl⟩ (fun _ _ _ h=>h) (fun _ _ _ h=>h) (fun _ _ _ h=>h);have hh:=B.hx
 match M,hh,g4 with
 | [],_,g4=>
   match E2,B.env,g3 with
   | [(q,u)],⟨e1,e2,_⟩,g3=>
     have e1:0=q:=e1;subst e1;obtain rfl:=br_leaf (κ:=[v]++κ') (γ:=[]++γ') e2 (l:=⟨.bool,r⟩) rfl;have g3:=g3 _ (List.mem_singleton.2 rfl)
     match vs,g2,g3 with
     | [v0],_,g3=>
       obtain rfl:=Option.some.inj g3;exact⟨_,rfl,ρ',r,rfl,rfl,g1,g4⟩
   | [],h0,_=>exact h0.elim
   |_::_::_,h0,_=>exact h0.2.2.elim
 |_::_,hh,_=>exact hh.elim
theorem c_3{N:Nat}{C:Cx}{w:World}{ρ:View}{hs:List Hl}{gV:Nat→Value}{v1:Value}{x2:(List Int)}(H:Hp C w ρ (hs))(gle:GErrs ρ 383 errIds gV)(r3:RdSl ρ (eI .u8) v1 x2){r:Bool}(hF:F_73 N x2=some r):
 Calls Tryz.prog 3 [v1].toArray w (Rets (fun v w'=>(∃(ρ':View) (x107:Bool),x107=r∧ .bool x107=v∧View.le ρ ρ'∧Hp C w' ρ' (hs)))):=
 law_bytes (q88 gV N) H gle r3 hF
end Go.Proofs.YtnkednnnkifenaaGreatDoor
namespace Go.Eng
open Go
theorem iterO_for{σ τ:Type}{f:σ→Option (σ ⊕ τ)}{r:τ}(st:Nat→σ): ∀(n:Nat) {N k:Nat},n<N→(∀i,k≤i→i<k+n→f (st i)=some (.inl (st (i+1))))→f (st (k+n))=some (.inr r)→iterO N f (st k)=some r
 |0,0,_,h,_,_=>absurd h (Nat.not_lt_zero _)
 |0,N+1,k,_,_,he=>by simp only[iterO];rw[show f (st k)=_ from he]
 |n+1,0,_,h,_,_=>absurd h (Nat.not_lt_zero _)
 |n+1,N+1,k,h,hs,he=>by
   simp only[iterO];rw[hs k (Nat.le_refl _) (by omega)];exact iterO_for st n (by omega) (fun i h1 h2=>hs i (by omega) (by omega)) (by rw[show k+1+n=k+(n+1) by omega];exact he)
theorem iterO_for0{σ τ:Type}{f:σ→Option (σ ⊕ τ)}{r:τ}{s:σ}(st:Nat→σ)(n:Nat){N:Nat}(h0:st 0=s)(hN:n<N)(hs: ∀i,i<n→f (st i)=some (.inl (st (i+1))))(he:f (st n)=some (.inr r)):iterO N f s=some r:=by
 subst h0;exact iterO_for st n hN (fun i _ h=>hs i (by omega)) (by rw[Nat.zero_add];exact he)
theorem iterO_while{σ τ:Type}{f:σ→Option (σ ⊕ τ)}(I:σ→Prop)(μ:σ→Nat)(Q:τ→Prop)(step: ∀s,I s→(∃s',f s=some (.inl s')∧I s'∧μ s'<μ s)∨ ∃r,f s=some (.inr r)∧Q r):
 ∀{N:Nat} {s:σ},I s→μ s<N→ ∃r,iterO N f s=some r∧Q r
 |0,_,_,h=>absurd h (Nat.not_lt_zero _)
 |N+1,s,hI,h=>by
   rcases step s hI with⟨s',h1,h2,h3⟩|⟨r,h1,h2⟩
   ·obtain⟨r,h4,h5⟩:=iterO_while I μ Q step (N:=N) h2 (by omega);exact⟨r,by simp only[iterO,h1];exact h4,h5⟩
   exact⟨r,by simp only[iterO,h1],h2⟩
theorem wrap64{x:Int}(h1: -9223372036854775808≤x)(h2:x≤9223372036854775807):IntKind.wrap .i64 x=x:=by
 simp only[IntKind.wrap,IntKind.signed,IntKind.bits];simp;omega
theorem w64_succ{n:Nat}(h:n<9223372036854775807):w64 ((n:Int)+1)=((n+1:Nat):Int):=by
 rw[w64,wrap64]<;>omega
theorem idx_nat{α:Type}{xs:List α}{i:Nat}(h:i<xs.length):idx xs (i:Int)=some xs[i]:=by simp[idx,h]
theorem idx_int{α:Type}{xs:List α}{i:Int}(h0:0≤i)(h:i.toNat<xs.length):idx xs i=some xs[i.toNat]:=by simp[idx,h,h0]
theorem idx_of{α:Type}{xs:List α}{i:Nat}{x:α}(h:xs[i]? =some x):idx xs (i:Int)=some x:=by simp[idx,h]
theorem setI_nat{α:Type}{xs:List α}{i:Nat}{x:α}(h:i<xs.length):setI xs (i:Int) x=some (xs.set i x):=by simp[setI,h]
theorem setI_int{α:Type}{xs:List α}{i:Int}{x:α}(h0:0≤i)(h:i.toNat<xs.length):setI xs i x=some (xs.set i.toNat x):=by simp[setI,h,h0]
theorem app_eq{α:Type}{xs ys:List α}(h:xs.length+ys.length≤4294967296):app xs ys=some (xs++ys):=by simp[app,h]
theorem mk_eq{α:Type}{z:α}{n:Nat}(h:n≤4294967296):mk z (n:Int)=some (List.replicate n z):=by
 simp[mk];omega
theorem loop_find{α τ:Type}{f:Int→Option (Int ⊕ (Unit ⊕ τ))}(xs:List α)(p:α→Bool)(g:Nat→τ){N:Nat}(hN:xs.length<N)
 (hb: ∀(i:Nat) (x:α),xs[i]? =some x→f (i:Int)=if p x then some (.inr (.inr (g i)))else some (.inl ((i+1:Nat):Int))) (he:f (xs.length:Int)=some (.inr (.inl ()))):
 iterO N f 0=some (match xs.findIdx? p with|some i=> .inr (g i)|none=> .inl ()):=by
 cases h:xs.findIdx? p with
 |none=>
   have h':=List.findIdx?_eq_none_iff.1 h;refine iterO_for0 (fun i=>(i:Int)) xs.length rfl hN (fun i hi=>?_) he;rw[hb i xs[i] (List.getElem?_eq_getElem hi),h' _ (List.getElem_mem hi)];simp
 |some k=>
   obtain⟨hk,hp,hlt⟩:=List.findIdx?_eq_some_iff_getElem.1 h;refine iterO_for0 (fun i=>(i:Int)) k rfl (by omega) (fun i hi=>?_) ?_
   ·rw[hb i _ (List.getElem?_eq_getElem (by omega))];have:=hlt i hi;simp[this]
   rw[hb k _ (List.getElem?_eq_getElem hk)];simp[hp]
theorem loop_any{α τ:Type}{f:Int→Option (Int ⊕ (Unit ⊕ τ))}(xs:List α)(p:α→Bool)(b:τ){N:Nat}(hN:xs.length<N)
 (hb: ∀(i:Nat) (x:α),xs[i]? =some x→f (i:Int)=if p x then some (.inr (.inr b))else some (.inl ((i+1:Nat):Int))) (he:f (xs.length:Int)=some (.inr (.inl ()))):
 iterO N f 0=some (if xs.any p then .inr b else .inl ()):=by
 rw[loop_find xs p (fun _=>b) hN hb he]
 cases h:xs.findIdx? p with
 |none=>
   have h':=List.findIdx?_eq_none_iff.1 h;have:xs.any p=false:=by rw[List.any_eq_false];intro x hx;rw[h' x hx];simp
   simp[this]
 |some k=>
   obtain⟨hk,hp,hlt⟩:=List.findIdx?_eq_some_iff_getElem.1 h;have:xs.any p=true:=List.any_eq_true.2 ⟨_,List.getElem_mem hk,hp⟩;simp[this]
theorem loop_fold{α σ τ:Type}{ι:Type}{f:ι→Option (ι ⊕ τ)}(st:Nat→σ→ι)(out:σ→τ)(xs:List α)(step:σ→α→σ)(I:Nat→σ→Prop){N:Nat}{s:σ}(hN:xs.length<N)
 (hI:I 0 s) (hb: ∀(i:Nat) (x:α) (s:σ),xs[i]? =some x→I i s→f (st i s)=some (.inl (st (i+1) (step s x)))∧I (i+1) (step s x)) (he: ∀s,I xs.length s→f (st xs.length s)=some (.inr (out s))):
 iterO N f (st 0 s)=some (out (xs.foldl step s)):=by
 have hI': ∀i,i≤xs.length→I i ((xs.take i).foldl step s):=by
  intro i
  induction i with
  |zero=>intro _;simpa using hI
  |succ i ih=>
    intro hi;have hx:xs[i]? =some xs[i]:=List.getElem?_eq_getElem (by omega);rw[List.take_add_one,hx,List.foldl_append];exact(hb i _ _ hx (ih (by omega))).2
 refine iterO_for0 (fun i=>st i ((xs.take i).foldl step s)) xs.length (by simp) hN (fun i hi=>?_) ?_
 ·have hx:xs[i]? =some xs[i]:=List.getElem?_eq_getElem hi;rw[(hb i _ _ hx (hI' i (by omega))).1,List.take_add_one,hx,List.foldl_append];rfl
 have:=he _ (hI' _ (Nat.le_refl _));rw[List.take_length]at this;simp only[List.take_length];exact this
theorem loop_inv{α σ τ ι:Type}{f:ι→Option (ι ⊕ τ)}(st:Nat→σ→ι)(out:σ→τ)(xs:List α)(I:Nat→σ→Prop){N:Nat}{s:σ}(hN:xs.length<N)
 (hI:I 0 s) (hb: ∀(i:Nat) (x:α) (s:σ),xs[i]? =some x→I i s→ ∃s',f (st i s)=some (.inl (st (i+1) s'))∧I (i+1) s') (he: ∀s,I xs.length s→f (st xs.length s)=some (.inr (out s))):
 ∃s',iterO N f (st 0 s)=some (out s')∧I xs.length s':=by
 have key: ∀(k i:Nat) (s:σ) (M:Nat),i+k=xs.length→k<M→I i s→ ∃s',iterO M f (st i s)=some (out s')∧I xs.length s':=by
  intro k
  induction k with
  |zero=>
    intro i s M hi hM h;obtain⟨M,rfl⟩: ∃m,M=m+1:=⟨M-1,by omega⟩;obtain rfl:i=xs.length:=by omega
    exact⟨s,by simp only[iterO];rw[he s h],h⟩
  |succ k ih=>
    intro i s M hi hM h;obtain⟨M,rfl⟩: ∃m,M=m+1:=⟨M-1,by omega⟩;obtain⟨s',h1,h2⟩:=hb i _ s (List.getElem?_eq_getElem (by omega)) h;obtain⟨s'',h3,h4⟩:=ih (i+1) s' M (by omega) (by omega) h2;exact⟨s'',by simp only[iterO];rw[h1];exact h3,h4⟩
 exact key xs.length 0 s N (by omega) hN hI
open Go
def Has{α:Type}(o:Option α)(P:α→Prop):Prop:= ∃a,o=some a∧P a
theorem Has.ret{α:Type}{a:α}{P:α→Prop}(h:P a):Has (some a) P:=⟨a,rfl,h⟩
theorem Has.bind{α β:Type}{o:Option α}{f:α→Option β}{P:α→Prop}{Q:β→Prop}(h:Has o P)(k: ∀a,P a→Has (f a) Q):Has (o >>= f) Q:=by
 obtain⟨a,rfl,ha⟩:=h;exact k a ha
theorem Has.ite{α:Type}{c:Prop}[Decidable c]{a b:Option α}{P:α→Prop}(h1:c→Has a P)(h2: ¬c→Has b P):Has (if c then a else b) P:=by
 by_cases h:c
 ·rw[if_pos h];exact h1 h
 rw[if_neg h];exact h2 h
theorem Has.mono{α:Type}{o:Option α}{P Q:α→Prop}(h:Has o P)(k: ∀a,P a→Q a):Has o Q:=by
 obtain⟨a,e,ha⟩:=h;exact⟨a,e,k a ha⟩
theorem Has.loop{σ τ:Type}{f:σ→Option (σ ⊕ τ)}{N:Nat}{s:σ}(I:σ→Prop)(μ:σ→Nat)(Q:τ→Prop)(hs:I s)(hN:μ s<N)
 (step: ∀s,I s→Has (f s) fun z=>match z with| .inl s'=>I s'∧μ s'<μ s| .inr r=>Q r):Has (iterO N f s) Q:=by
 obtain⟨r,h1,h2⟩:=iterO_while I μ Q (fun s hs=>by
  obtain⟨z,h1,h2⟩:=step s hs
  cases z with
  |inl s'=>exact .inl ⟨s',h1,h2⟩
  |inr r=>exact .inr ⟨r,h1,h2⟩) hs hN
 exact⟨r,h1,h2⟩
theorem sidx_has{b:ByteArray}{i:Int}(h0:0≤i)(h1:i<b.size):Has (sidx b i) fun v=>0≤v∧v<256:=by
 have hl:i.toNat<b.data.toList.length:=by
  have:b.data.toList.length=b.size:=rfl;omega
 refine⟨((b.data.toList[i.toNat].toNat:Nat):Int),?_,?_⟩
 ·unfold sidx;rw[if_pos h0,List.getElem?_eq_getElem hl];rfl
 have:=b.data.toList[i.toNat].toNat_lt;omega
theorem sslc_has{b:ByteArray}{lo hi:Int}(h0:0≤lo)(h1:lo≤hi)(h2:hi≤b.size):Has (sslc b lo hi) fun r=>(r.size:Int)=hi-lo:=by
 refine⟨b.extract lo.toNat hi.toNat,?_,?_⟩
 ·unfold sslc;rw[if_pos ⟨h0,h1,h2⟩]
 show(((b.extract lo.toNat hi.toNat).size:Nat):Int)=_;rw[ByteArray.size_extract];omega
theorem sfind_lt(b:ByteArray)(c:Int): -1≤sfind b c∧sfind b c<b.size:=by
 unfold sfind firstIdx;split
 ·rename_i i h;have:=List.mem_range.1 (List.mem_of_find?_eq_some h);omega
 omega
theorem idx_has{α:Type}{xs:List α}{i:Int}(h0:0≤i)(h:i<xs.length):Has (idx xs i) fun x=>x∈xs:=by
 have hl:i.toNat<xs.length:=by omega
 exact⟨_,idx_int h0 hl,List.getElem_mem hl⟩
theorem w64_id{x:Int}(h1: -9223372036854775808≤x)(h2:x≤9223372036854775807):w64 x=x:=wrap64 h1 h2
end Go.Eng
namespace Go.Proofs.YtnkednnnkifenaaGreatDoor
open Go Go.Eng
set_option maxRecDepth 100000
section
variable {N:Nat}
def Pos(s:ByteArray)(p:Int):Prop:=0≤p∧p≤s.size
def Sm(s:ByteArray):Prop:=s.size≤1000000
theorem rest_has{s:ByteArray}{a p:Int}(h:Pos s p):Has (F_25 N s a p) fun r=>(r.size:Int)=s.size-p:=by
 unfold F_25;exact(sslc_has h.1 h.2 (Int.le_refl _)).bind fun r hr=> .ret hr
theorem rest1_has{s:ByteArray}{a p e:Int}(h:Pos s p):Has (F_50 N s a p e) fun r=>(r.size:Int)=s.size-p:=by
 unfold F_50;exact(sslc_has h.1 h.2 (Int.le_refl _)).bind fun r hr=> .ret hr
theorem bt_list(b:ByteArray):b.toList=b.data.toList:=by
 have go: ∀(k i:Nat) (r:List UInt8),i+k=b.size→ByteArray.toList.loop b i r=r.reverse++b.data.toList.drop i:=by
  intro k
  induction k with
  |zero=>
    intro i r h;unfold ByteArray.toList.loop;rw[if_neg (by omega),List.drop_of_length_le (by have:b.data.toList.length=b.size:=(by rw[Array.length_toList];rfl);omega),List.append_nil]
  |succ k ih=>
    intro i r h;unfold ByteArray.toList.loop;have hl:b.data.toList.length=b.size:=by rw[Array.length_toList];rfl
    have hi:i<b.data.toList.length:=by omega
    rw[if_pos (by omega),ih (i+1) _ (by omega),List.drop_eq_getElem_cons hi,List.reverse_cons,List.append_assoc]
    have:b.get! i=b.data.toList[i]:=by
     have hi':i<b.data.size:=by simpa using hi
     show b.data[i]! =_;rw[getElem!_pos b.data i hi'];simp
    rw[this];rfl
 have:=go b.size 0 [] (by omega);simpa[ByteArray.toList]using this
theorem toList_size{a b:ByteArray}(h:a.toList=b.toList):a.size=b.size:=by
 have e: ∀x:ByteArray,x.toList.length=x.size:=fun x=>by
  rw[bt_list];rfl
 rw[←e a,←e b,h]
theorem index_has(c:UInt8){s:ByteArray}:Has (((some ((⟨#[c]⟩:ByteArray).toList==s.toList)):Option Bool) >>= fun x10=>
 if x10=true then(some 0)else(F_5 N s (c.toNat:Int) >>= fun x15=>some x15)) fun k=> -1≤k∧k<s.size:=by
 refine(Has.ret (P:=fun b=>b=((⟨#[c]⟩:ByteArray).toList==s.toList)) rfl).bind fun b hb=> .ite (fun h=>?_) fun _=>?_
 ·rw[h]at hb;have:=toList_size (by simpa using hb.symm:(⟨#[c]⟩:ByteArray).toList=s.toList);have e:(⟨#[c]⟩:ByteArray).size=1:=rfl;exact .ret (by omega)
 unfold F_5;exact .ret (sfind_lt s _)
theorem cut_has{s:ByteArray}(hs:Sm s):Has (F_113 N s) fun r=>r.1.size≤s.size:=by
 unfold F_113 F_152 F_1;unfold Sm at hs;refine Has.bind (P:=fun r=>r.1.size≤s.size) ?_ fun r hr=> .ret hr;refine(index_has (N:=N) 32 (s:=s)).bind fun k hk=> .ite (fun h=>?_) fun _=> .ret (Nat.le_refl _);have h0:0≤k:=by simpa using h
 refine(sslc_has (Int.le_refl 0) h0 (by omega)).bind fun a ha=>?_;rw[w64_id (by omega) (by omega)];exact(sslc_has (by omega) (by omega) (Int.le_refl _)).bind fun b _=> .ret (by simp only;omega)
theorem word_has{s:ByteArray}{a p:Int}(hs:Sm s)(h:Pos s p):Has (F_51 N s a p) fun r=>Pos s r.1∧r.1=p+r.2.size:=by
 unfold F_51;unfold Sm at hs;have h1:=h.1;have h2:=h.2;refine(rest_has h).bind fun r hr=>(cut_has (by unfold Sm;omega)).bind fun⟨c,_,_⟩ hc=> .ret ?_;simp only at hc;simp only;rw[w64_id (by omega) (by omega)];exact⟨⟨by omega,by omega⟩,rfl⟩
theorem word1_has{s:ByteArray}{a p e:Int}(hs:Sm s)(h:Pos s p):Has (F_106 N s a p e) fun r=>Pos s r.1∧r.1=p+r.2.size:=by
 unfold F_106;unfold Sm at hs;have h1:=h.1;have h2:=h.2;refine(rest1_has h).bind fun r hr=>(cut_has (by unfold Sm;omega)).bind fun⟨c,_,_⟩ hc=> .ret ?_;simp only at hc;simp only;rw[w64_id (by omega) (by omega)];exact⟨⟨by omega,by omega⟩,rfl⟩
theorem prefix1_has{s:ByteArray}:Has (F_114 N s) fun b=>b=true→1≤s.size:=by
 unfold F_114 F_153;refine Has.bind (P:=fun b=>b=true→1≤s.size) ?_ fun b hb=> .ret hb;refine Has.bind (P:=fun b=>b=true→1≤s.size) ?_ fun b hb=> .ret hb;refine .ite (fun h=>?_) fun _=> .ret (fun h=>by cases h);have h:(1:Int)≤s.size:=by simpa using h
 exact(sslc_has (by omega) (by omega) h).bind fun r _=> .ret fun _=>by omega
theorem prefix_has{s:ByteArray}:Has (F_52 N s) fun _=>True:=by
 unfold F_52 F_67;refine Has.bind (P:=fun _=>True) ?_ fun b hb=> .ret hb;refine Has.bind (P:=fun _=>True) ?_ fun b hb=> .ret hb;refine .ite (fun h=>?_) fun _=> .ret trivial;have h:(1:Int)≤s.size:=by simpa using h
 exact(sslc_has (by omega) (by omega) h).bind fun r _=> .ret trivial
theorem behind_has{s:ByteArray}{a p:Int}(hs:Sm s)(h:Pos s p):Has (F_47 N s a p) fun r=>Pos s r.1∧(r.2.2=true→r.2.1=0)∧(r.2.2=false→eOk errIds r.2.1=true):=by
 unfold F_47;unfold Sm at hs;have h1:=h.1;have h2:=h.2;refine .ite (fun _=>?_) fun _=>?_
 ·exact .bind (P:=fun _=>True) (by unfold F_6;exact .ret trivial) fun _ _=> .ret ⟨h,fun h=>(by cases h),fun _=>(by rfl)⟩
 refine(rest_has h).bind fun r hr=>prefix1_has.bind fun b hb=> .ite (fun _=>?_) fun hb2=>?_
 ·exact .bind (P:=fun _=>True) (by unfold F_104;exact .ret trivial) fun _ _=> .ret ⟨h,fun h=>(by cases h),fun _=>(by rfl)⟩
 have hb3:b=true:=by simpa using hb2
 have:=hb hb3;refine .ret ⟨?_,fun _=>rfl,fun h=>(by cases h)⟩;simp only;rw[w64_id (by omega) (by omega)];exact⟨by omega,by omega⟩
theorem isName_has{s:ByteArray}(hs:Sm s)(hN:1000010≤N):Has (F_21 N s) fun b=>b=true→s.size≤12∧1≤s.size:=by
 unfold F_21;unfold Sm at hs;refine Has.bind (P:=fun z=>match z with| .inl _=>True| .inr b=>b=false) ?_ fun z hz=>?_
 ·refine Has.loop (fun i:Int=>0≤i∧i≤s.size) (fun i:Int=>s.size+1-i.toNat) _ ⟨by omega,by omega⟩ (by omega) fun i hi=>?_;obtain⟨hi0,hi1⟩:=hi;unfold F_117;refine .ite (fun h=>?_) fun _=> .ret trivial;have h:i<s.size:=by simpa using h
  refine Has.bind (P:=fun _=>True) ?_ fun b _=>Has.bind (P:=fun _=>True) ?_ fun b2 _=> .ite (fun _=> .ret rfl) fun _=> .ret ?_
  ·refine(sidx_has hi0 h).bind fun v hv=> .ite (fun _=>(sidx_has hi0 h).bind fun _ _=> .ret trivial) fun _=> .ret trivial
  ·refine .ite (fun _=> .ite (fun _=> .ret trivial) fun _=>(sidx_has hi0 h).bind fun _ _=> .ite (fun _=> .ret trivial) fun _=>(sidx_has hi0 h).bind fun _ _=> .ret trivial) fun _=> .ret trivial
  simp only;rw[w64_id (by omega) (by omega)];exact⟨⟨by omega,by omega⟩,by omega⟩
 cases z with
 |inr b=>subst hz;exact .ret fun h=>by cases h
 |inl u=>
   refine Has.bind (P:=fun b=>b=true→s.size≤12∧1≤s.size) (.ite (fun h=> .ret fun h2=>⟨by
    have:(s.size:Int)≤12:=by simpa using h2
    omega,by
    have hz:s.size≠0:=fun hz=>by
     have:s=ByteArray.empty:=ByteArray.ext (Array.eq_empty_of_size_eq_zero hz);rw[this]at h;simp at h
    omega⟩) fun _=> .ret fun h=>(by cases h)) fun b hb=> .ret hb
theorem fail2_has{s:ByteArray}{a p e q:Int}(h:Pos s p)(hq:Pos s q):Has (F_105 N s a p e q) fun r=>Pos s r.1∧eOk errIds r.2=true:=by
 unfold F_105;refine Has.bind (P:=fun r=>Pos s r.1∧eOk errIds r.2=true) (.ite (fun _=> .ret ⟨hq,(by rfl)⟩) fun he=> .ret ⟨h,by simpa using he⟩) fun r hr=> .ret hr
theorem fail3_has{s:ByteArray}{a p e q:Int}(h:Pos s p)(hq:Pos s q):Has (F_225 N s a p e q) fun r=>Pos s r.1∧eOk errIds r.2=true:=by
 unfold F_225;refine Has.bind (P:=fun r=>Pos s r.1∧eOk errIds r.2=true) (.ite (fun _=> .ret ⟨hq,(by rfl)⟩) fun he=> .ret ⟨h,by simpa using he⟩) fun r hr=> .ret hr
theorem fail4_has{s:ByteArray}{a p e q:Int}(h:Pos s p)(hq:Pos s q):Has (F_85 N s a p e q) fun r=>Pos s r.1∧eOk errIds r.2=true:=by
 unfold F_85;refine Has.bind (P:=fun r=>Pos s r.1∧eOk errIds r.2=true) (.ite (fun _=> .ret ⟨hq,(by rfl)⟩) fun he=> .ret ⟨h,by simpa using he⟩) fun r hr=> .ret hr
theorem fail5_has{s:ByteArray}{a p e q:Int}(h:Pos s p)(hq:Pos s q):Has (F_163 N s a p e q) fun r=>Pos s r.1∧eOk errIds r.2=true:=by
 unfold F_163;refine Has.bind (P:=fun r=>Pos s r.1∧eOk errIds r.2=true) (.ite (fun _=> .ret ⟨hq,(by rfl)⟩) fun he=> .ret ⟨h,by simpa using he⟩) fun r hr=> .ret hr
theorem fail6_has{s:ByteArray}{a p e q:Int}(h:Pos s p)(hq:Pos s q):Has (F_164 N s a p e q) fun r=>Pos s r.1∧eOk errIds r.2=true:=by
 unfold F_164;refine Has.bind (P:=fun r=>Pos s r.1∧eOk errIds r.2=true) (.ite (fun _=> .ret ⟨hq,(by rfl)⟩) fun he=> .ret ⟨h,by simpa using he⟩) fun r hr=> .ret hr
theorem fail7_has{s:ByteArray}{a p e q:Int}(h:Pos s p)(hq:Pos s q):Has (F_165 N s a p e q) fun r=>Pos s r.1∧eOk errIds r.2=true:=by
 unfold F_165;refine Has.bind (P:=fun r=>Pos s r.1∧eOk errIds r.2=true) (.ite (fun _=> .ret ⟨hq,(by rfl)⟩) fun he=> .ret ⟨h,by simpa using he⟩) fun r hr=> .ret hr
theorem name_has{s:ByteArray}{a p:Int}(hs:Sm s)(hN:1000010≤N)(h:Pos s p):Has (F_166 N s a p) fun r=>Pos s r.1∧r.2.2.1.size≤s.size∧(Pos s r.2.2.2)∧(eOk errIds r.2.1=false→r.2.2.1.size≤12):=by
 unfold F_166;refine(behind_has hs h).bind fun⟨q,e,ok⟩ ⟨h1,h2,h3⟩=> .ite (fun hk=> .ret ?_) fun hk=>?_
 ·have hk:ok=false:=by simpa using hk
  refine⟨h1,by simp,⟨by simp,by simp⟩,fun h=>?_⟩;have:=h3 hk;simp only at this h;rw[this]at h;cases h
 refine(word1_has hs h1).bind fun⟨u,w⟩ ⟨g1,g2⟩=>?_;simp only at g1 g2 h1
 have hw:w.size≤s.size:=by
  have:=g1.2;have:=h1.1;omega
 refine(isName_has (by unfold Sm at hs ⊢;omega) hN).bind fun b hb=>?_;refine Has.bind (P:=fun r=>Pos s r.1∧(eOk errIds r.2=false→w.size≤12)) (.ite (fun _=>?_) fun hb2=> .ret ⟨g1,fun _=>(hb (by simpa using hb2)).1⟩) fun r hr=> .ret ⟨hr.1,hw,h1,hr.2⟩;exact(fail2_has g1 h1).bind fun r hr=> .ret ⟨hr.1,fun h=>by rw[hr.2]at h;cases h⟩
theorem over_has{s:ByteArray}{a p e:Int}(h:Pos s p):Has (F_167 N s a p e) fun r=>Pos s r.1∧(eOk errIds r.2=false→eOk errIds e=false):=by
 unfold F_167;refine Has.bind (P:=fun _=>True) (.ite (fun _=> .ret trivial) fun _=> .ret trivial) fun b _=>?_;refine Has.bind (P:=fun r=>Pos s r.1∧(eOk errIds r.2=false→eOk errIds e=false)) (.ite (fun _=>?_) fun _=> .ret ⟨h,id⟩) fun r hr=> .ret hr;exact(fail3_has h h).bind fun r hr=> .ret ⟨hr.1,fun h=>by rw[hr.2]at h;cases h⟩
theorem contains_has{l:List ByteArray}{x:ByteArray}(hl:l.length≤1000000)(hN:1000010≤N):Has (F_49 N l x) fun _=>True:=by
 unfold F_49 F_26;refine Has.bind (P:=fun _=>True) ?_ fun _ _=> .ret trivial;refine Has.bind (P:=fun _=>True) ?_ fun z _=>?_
 ·refine Has.loop (fun i:Int=>0≤i∧i≤l.length) (fun i:Int=>l.length+1-i.toNat) _ ⟨by omega,by omega⟩ (by omega) fun i hi=>?_;obtain⟨hi0,hi1⟩:=hi;unfold F_72;refine .ite (fun h=>?_) fun _=> .ret trivial;have h:i<l.length:=by simpa using h
  refine(idx_has hi0 h).bind fun v _=> .ite (fun _=> .ret trivial) fun _=> .ret ?_;simp only;rw[w64_id (by omega) (by omega)];exact⟨⟨by omega,by omega⟩,by omega⟩
 cases z<;>exact .ret trivial
theorem limit_has{s:ByteArray}{a p e q:Int}{b:Bool}{x y:Int}(h:Pos s p)(hq:Pos s q):Has (F_86 N s a p e q b x y) fun r=>Pos s r.1∧r.2.2= !(eOk errIds r.2.1)∧(r.2.2=true→eOk errIds e=false∧x<y):=by
 unfold F_86;have R: ∀{r:Int×Int},Pos s r.1∧eOk errIds r.2=true→Pos s r.1∧(eOk errIds r.2=false→eOk errIds e=false∧x<y):=fun hr=>⟨hr.1,fun h=>by rw[hr.2]at h;cases h⟩;refine Has.bind (P:=fun r=>Pos s r.1∧(eOk errIds r.2=false→eOk errIds e=false∧x<y)) ?_ fun r hr=> .ret ⟨hr.1,rfl,fun h=>hr.2 (by simpa using h)⟩;refine Has.bind (P:=fun r=>Pos s r.1∧(eOk errIds r.2=false→eOk errIds e=false∧x<y)) ?_ fun r hr=> .ret hr;refine .ite (fun he=> .ret (R ⟨h,he⟩)) fun he=>?_;have he:eOk errIds e=false:=by simpa using he
 refine Has.bind (P:=fun r=>Pos s r.1∧(eOk errIds r.2=false→eOk errIds e=false∧x<y)) ?_ fun r hr=> .ret hr;refine .ite (fun _=>(fail4_has h hq).bind fun r hr=> .ret (R hr)) fun _=>?_;refine Has.bind (P:=fun r=>Pos s r.1∧(eOk errIds r.2=false→eOk errIds e=false∧x<y)) ?_ fun r hr=> .ret hr;exact .ite (fun _=>(fail5_has h hq).bind fun r hr=> .ret (R hr)) fun hx=> .ret ⟨h,fun _=>⟨he,by simpa using hx⟩⟩
end
end Go.Proofs.YtnkednnnkifenaaGreatDoor
namespace Go.Eng
open Go
theorem u8_has(x:Int):0≤IntKind.wrap .u8 x∧IntKind.wrap .u8 x<256:=by
 simp only[IntKind.wrap,IntKind.signed,IntKind.bits];simp;omega
theorem setI_has{α:Type}{xs:List α}{i:Int}{x:α}(h0:0≤i)(h:i<xs.length):Has (setI xs i x) fun ys=>ys.length=xs.length:=
 ⟨_,setI_int h0 (by omega),by simp⟩
theorem nn_has{x:Int}(h:0≤x):Has (nn x) fun _=>True:=by
 unfold nn;rw[if_pos h];exact .ret trivial
end Go.Eng
namespace Go.Proofs.YtnkednnnkifenaaGreatDoor
open Go Go.Eng
set_option maxRecDepth 100000
section
variable {N:Nat}
theorem fig_has(x:Int):Has (F_232 N x) fun r=> -1≤r.1∧r.1<16:=by
 unfold F_232;refine Has.bind (P:=fun _=>True) (.ite (fun _=> .ret trivial) fun _=> .ret trivial) fun b _=>?_;refine Has.bind (P:=fun _=>True) (.ite (fun _=> .ret trivial) fun _=> .ret trivial) fun c _=>?_;unfold F_264 F_249;refine Has.bind (P:=fun v=> -1≤v∧v<16) (.ret (sfind_lt _ c)) fun v hv=> .ret hv
theorem pair_has{s:ByteArray}{p:Int}(hs:Sm s)(hN:1000010≤N)(h:Pos s p):Has (F_112 N s p) fun r=>Pos s r.2.1∧p≤r.2.1∧0≤r.1∧r.1<256:=by
 unfold F_112;unfold Sm at hs;refine Has.bind (P:=fun z=>match z with| .inl r=>Pos s r.1∧p≤r.1| .inr r=>Pos s r.2.1∧p≤r.2.1∧0≤r.1∧r.1<256) ?_ fun z hz=>?_
 ·refine Has.loop (fun st:Int×Int×Int=>Pos s st.1∧p≤st.1∧0≤st.2.1∧st.2.1≤2) (fun st=>3-st.2.1.toNat) _ ⟨h,Int.le_refl _,by simp,by simp⟩ (by simp;omega) fun⟨q,i,v⟩ ⟨h1,h2,h3,h4⟩=>?_;simp only at h1 h2 h3 h4;have:=h1.1;have:=h1.2;unfold F_291;refine .ite (fun hi=>?_) fun _=> .ret ⟨h1,h2⟩;have hi:i<2:=by simpa using hi
  refine .ite (fun _=> .ret ⟨h1,h2,Int.le_refl _,by simp⟩) fun hq=>?_;have hq:q<s.size:=by simpa using hq
  refine(sidx_has h1.1 hq).bind fun c _=>(fig_has c).bind fun⟨d,ok⟩ _=> .ite (fun _=> .ret ⟨h1,h2,Int.le_refl _,by simp⟩) fun _=> .ret ?_;simp only;rw[w64_id (x:=q+1) (by omega) (by omega),w64_id (x:=i+1) (by omega) (by omega)];exact⟨⟨⟨by omega,by omega⟩,by omega,by omega,by omega⟩,by omega⟩
 cases z with
 |inr r=>exact .ret hz
 |inl r=>exact .ret ⟨hz.1,hz.2,(u8_has _).1,(u8_has _).2⟩
theorem mark_has(x:Int):Has (F_233 N x) fun _=>True:=by
 unfold F_233;refine Has.bind (P:=fun _=>True) ?_ fun b _=>?_
 ·repeat' first
   |exact .ret trivial
   |refine .ite (fun _=>?_) fun _=>?_
 refine Has.bind (P:=fun _=>True) ?_ fun b _=> .ret trivial
 repeat' first
  |exact .ret trivial
  |refine .ite (fun _=>?_) fun _=>?_
theorem read_has{s:ByteArray}{p:Int}(hs:Sm s)(hN:1000010≤N)(h:0≤p)(h':p≤s.size):Has (F_177 N s p) fun r=>Pos s r.2.1∧p≤r.2.1∧(eOk errIds r.2.2=false→p<r.2.1)∧0≤r.1∧r.1<256:=by
 unfold F_177;unfold Sm at hs;have he: ∀q:Int,Pos s q→p≤q→ ∀e:Int,eOk errIds e=true→Pos s q∧p≤q∧(eOk errIds e=false→p<q)∧(0:Int)≤0∧(0:Int)<256:=fun q h1 h2 e h3=>⟨h1,h2,fun h=>(by rw[h3]at h;cases h),Int.le_refl _,by decide⟩;refine Has.bind (P:=fun b=>b=false→p<s.size) (.ite (fun _=> .ret fun h=>(by cases h)) fun _=> .ret fun h=>by simpa using h) fun b hb=> .ite (fun _=> .ret (he _ ⟨by omega,Int.le_refl _⟩ h' 4 (by rfl))) fun hb2=>?_;have hp:=hb (by simpa using hb2);refine(sidx_has h hp).bind fun c hc=> .ite (fun _=>?_) fun _=>?_
 ·refine(sidx_has h hp).bind fun v hv=> .ret ?_;simp only;rw[w64_id (by omega) (by omega)];exact⟨⟨by omega,by omega⟩,by omega,fun _=>by omega,hv.1,hv.2⟩
 rw[w64_id (x:=p+1) (by omega) (by omega),w64_id (x:=p+2) (by omega) (by omega)];refine .ite (fun _=> .ret (he _ ⟨by omega,Int.le_refl _⟩ h' 4 (by rfl))) fun hq=>?_;have hq:p+1<s.size:=by simpa using hq
 refine(sidx_has (by omega) hq).bind fun v hv=>?_;unfold F_263 F_248;refine Has.bind (P:=fun k=> -1≤k∧k<4) (.ret (sfind_lt _ v)) fun k hk=> .ite (fun h0=>?_) fun _=>?_
 ·have h0:0≤k:=by simpa using h0
  have h4:k<((⟨#[10,9,13,32]⟩:ByteArray).size:Int):=hk.2;refine(sidx_has h0 h4).bind fun c hc=> .ret ⟨⟨by simp only;omega,by simp only;omega⟩,by simp only;omega,fun _=>by simp only;omega,hc.1,hc.2⟩
 refine .ite (fun _=>?_) fun _=>?_
 ·refine(pair_has (by exact hs) hN ⟨by omega,by omega⟩).bind fun⟨a,b,c⟩ ⟨h1,h2,h3,h4⟩=> .ret ⟨h1,by simp only at h2 ⊢;omega,fun _=>by simp only at h2 ⊢;omega,h3,h4⟩
 refine(mark_has v).bind fun b _=> .ite (fun _=> .ret ⟨⟨by simp only;omega,by simp only;omega⟩,by simp only;omega,fun _=>by simp only;omega,hv.1,hv.2⟩) fun _=> .ret (he (p+1) ⟨by omega,by omega⟩ (by omega) 1 (by rfl))
theorem end_has{s:ByteArray}{p:Int}:Has (F_121 N s p) fun b=>b=false→0≤p∧p<s.size:=by
 unfold F_121;refine Has.bind (P:=fun b=>b=false→0≤p∧p<s.size) (.ite (fun _=> .ret fun h=>(by cases h)) fun h1=> .ret fun h=>⟨by simpa using h1,by simpa using h⟩) fun b hb=> .ret hb
theorem next_has{s:ByteArray}{p:Int}:Has (F_148 N s p) fun _=>True:=by
 unfold F_148;refine Has.bind (P:=fun b=>b=false→0≤p∧p<s.size) (.ite (fun _=> .ret fun h=>(by cases h)) fun h1=> .ret fun h=>⟨by simpa using h1,by simpa using h⟩) fun b hb=> .ite (fun _=> .ret trivial) fun h=>?_;have:=hb (by simpa using h);exact(sidx_has this.1 this.2).bind fun _ _=> .ret trivial
theorem btake_has{s:ByteArray}{p c:Int}(hs:Sm s)(h:Pos s p):Has (F_93 N s p c) fun r=>Pos s r.1∧p≤r.1∧(r.2=true→p<r.1):=by
 unfold F_93;unfold Sm at hs;refine Has.bind (P:=fun b=>b=false→0≤p∧p<s.size) ?_ fun b hb=> .ite (fun _=> .ret ⟨h,Int.le_refl _,fun h=>(by cases h)⟩) fun h2=> .ret ?_
 ·refine end_has.bind fun b hb=> .ite (fun _=> .ret fun h=>(by cases h)) fun h2=>next_has.bind fun _ _=> .ret fun _=>hb (by simpa using h2)
 have:=hb (by simpa using h2);simp only;rw[w64_id (by omega) (by omega)];exact⟨⟨by omega,by omega⟩,by omega,fun _=>by omega⟩
theorem one_has{s:ByteArray}{p:Int}(hs:Sm s)(hN:1000010≤N)(h:Pos s p):Has (F_149 N s p) fun r=>Pos s r.1∧p≤r.1∧(eOk errIds r.2.2=false→p<r.1)∧0≤r.2.1∧r.2.1<256:=by
 unfold F_149;refine Has.bind (P:=fun _=>True) ?_ fun b _=> .ite (fun _=> .ret ⟨h,Int.le_refl _,fun h=>(by cases h),Int.le_refl _,by simp⟩) fun _=>?_
 ·refine end_has.bind fun b _=> .ite (fun _=>next_has.bind fun c _=>?_) fun _=> .ret trivial;unfold F_262 F_247;exact .ret trivial
 exact(read_has hs hN h.1 h.2).bind fun⟨v,q,e⟩ ⟨h1,h2,h3,h4,h5⟩=> .ret ⟨h1,h2,h3,h4,h5⟩
theorem sone_has{x:Int}(h0:0≤x)(h1:x<256):Has (F_108 N x) fun _=>True:=by
 unfold F_108;have e:x.tdiv 64=x/64:=Int.tdiv_eq_ediv_of_nonneg h0;have e2:x.tmod 64=x %64:=Int.tmod_eq_emod_of_nonneg h0
 have e3:IntKind.wrap .u8 (x/64)=x/64:=by
  simp only[IntKind.wrap,IntKind.signed,IntKind.bits];simp;omega
 rw[e,e2,e3];refine(nn_has (by omega)).bind fun _ _=>(idx_has (by omega) (by simp;omega)).bind fun _ _=>(setI_has (by omega) (by simp;omega)).bind fun _ _=> .ret trivial
theorem below_has(x:Int):Has (F_172 N x) fun _=>True:=by
 unfold F_172;refine .ite (fun _=> .ret trivial) fun _=>(nn_has (by unfold imax;split<;>omega)).bind fun _ _=> .ret trivial
theorem span_has(x y:Int)(hN:1000010≤N):Has (F_109 N x y) fun _=>True:=by
 unfold F_109;refine .ite (fun _=> .ret trivial) fun _=>?_;refine Has.bind (P:=fun _=>True) ?_ fun _ _=> .ret trivial;refine Has.loop (fun st:Int×Int×Int×Int×Int=>0≤st.1∧st.1≤4) (fun st=>5-st.1.toNat) _ ⟨by simp,by simp⟩ (by simp;omega) fun⟨i,a,b,c,d⟩ ⟨h1,h2⟩=>?_;simp only at h1 h2;unfold F_289;refine .ite (fun h=>?_) fun _=> .ret trivial;have h:i<4:=by simpa using h
 refine(below_has _).bind fun _ _=>(below_has _).bind fun _ _=>(idx_has h1 (by simp;omega)).bind fun _ _=>(setI_has h1 (by simp;omega)).bind fun _ _=> .ret ?_;simp only;rw[w64_id (by omega) (by omega)];exact⟨⟨by omega,by omega⟩,by omega⟩
theorem or_has(a b c d x y z u:Int)(hN:1000010≤N):Has (F_23 N a b c d x y z u) fun _=>True:=by
 unfold F_23;refine Has.bind (P:=fun _=>True) ?_ fun _ _=> .ret trivial;refine Has.loop (fun st:Int×Int×Int×Int×Int=>0≤st.2.2.2.2∧st.2.2.2.2≤4) (fun st=>5-st.2.2.2.2.toNat) _ ⟨by simp,by simp⟩ (by simp;omega) fun⟨a,b,c,d,i⟩ ⟨h1,h2⟩=>?_;simp only at h1 h2;unfold F_171;refine .ite (fun h=>?_) fun _=> .ret trivial;have h:i<4:=by simpa using h
 refine Has.bind (P:=fun _=>True) ((idx_has h1 (by simp;omega)).bind fun _ _=>(idx_has h1 (by simp;omega)).bind fun _ _=>(idx_has h1 (by simp;omega)).bind fun _ _=>(setI_has h1 (by simp;omega)).bind fun _ _=> .ret trivial) fun _ _=> .ret ?_;simp only;rw[w64_id (by omega) (by omega)];exact⟨⟨by omega,by omega⟩,by omega⟩
theorem not_has(a b c d:Int)(hN:1000010≤N):Has (F_87 N a b c d) fun _=>True:=by
 unfold F_87;refine Has.bind (P:=fun _=>True) ?_ fun _ _=> .ret trivial;refine Has.loop (fun st:Int×Int×Int×Int×Int=>0≤st.2.2.2.2∧st.2.2.2.2≤4) (fun st=>5-st.2.2.2.2.toNat) _ ⟨by simp,by simp⟩ (by simp;omega) fun⟨a,b,c,d,i⟩ ⟨h1,h2⟩=>?_;simp only at h1 h2;unfold F_288;refine .ite (fun h=>?_) fun _=> .ret trivial;have h:i<4:=by simpa using h
 refine(idx_has h1 (by simp;omega)).bind fun _ _=>(idx_has h1 (by simp;omega)).bind fun _ _=>(setI_has h1 (by simp;omega)).bind fun _ _=> .ret ?_;simp only;rw[w64_id (by omega) (by omega)];exact⟨⟨by omega,by omega⟩,by omega⟩
theorem item_has{s:ByteArray}{p:Int}(hs:Sm s)(hN:1000010≤N)(h:Pos s p):Has (F_184 N s p) fun r=>Pos s r.1∧p≤r.1∧(eOk errIds r.2.2.2.2.2=false→p<r.1):=by
 unfold F_184;refine(one_has hs hN h).bind fun⟨q,v,e⟩ ⟨h1,h2,h3,h4,h5⟩=>?_;simp only at h1 h2 h3 h4 h5;refine Has.bind (P:=fun r=>Pos s r.1∧q≤r.1∧(eOk errIds e=true→r.2=true)) (.ite (fun _=> .ret ⟨h1,Int.le_refl _,fun _=>rfl⟩) fun he=>(btake_has hs h1).bind fun r hr=> .ret ⟨hr.1,hr.2.1,fun h=>(he h).elim⟩) fun⟨q2,b⟩ ⟨g1,g2,g3⟩=>?_;simp only at g1 g2 g3;refine .ite (fun _=>(sone_has h4 h5).bind fun _ _=> .ret ⟨g1,by simp only;omega,fun he=>by have:=h3 he;simp only;omega⟩) fun hb=>?_;refine(one_has hs hN g1).bind fun⟨q3,v3,e3⟩ ⟨k1,k2,k3,k4,k5⟩=>?_;simp only at k1 k2 k3 k4 k5
 have he:eOk errIds e=false:=by
  cases h:eOk errIds e with
  |false=>rfl
  |true=>exact(hb (g3 h)).elim
 have:=h3 he;refine .ite (fun _=> .ret ⟨k1,by simp only;omega,fun _=>by simp only;omega⟩) fun _=> .ite (fun _=>?_) fun _=>?_
 ·exact .bind (P:=fun _=>True) (.ret trivial) fun _ _=> .ret ⟨g1,by simp only;omega,fun _=>by simp only;omega⟩
 exact(span_has _ _ hN).bind fun _ _=> .ret ⟨k1,by simp only;omega,fun _=>by simp only;omega⟩
theorem bracket_has{s:ByteArray}{p:Int}(hs:Sm s)(hN:1000010≤N)(h:Pos s p):Has (F_183 N s p) fun r=>Pos s r.2.2.2.2.1∧(eOk errIds r.2.2.2.2.2=false→p<r.2.2.2.2.1):=by
 unfold F_183 F_120;have hs':=hs;unfold Sm at hs';refine Has.bind (P:=fun r=>Pos s r.1∧(eOk errIds r.2.2.2.2.2=false→p<r.1)) ?_ fun r hr=> .bind (P:=fun _=>True) (.ret trivial) fun _ _=> .ret hr;refine end_has.bind fun b _=> .ite (fun _=> .bind (P:=fun _=>True) (.ret trivial) fun _ _=> .ret ⟨⟨by simp,Int.le_refl _⟩,fun h=>(by cases h)⟩) fun _=>?_;refine(btake_has hs h).bind fun⟨q,ok⟩ ⟨h1,h2,h3⟩=> .ite (fun _=> .bind (P:=fun _=>True) (.ret trivial) fun _ _=> .ret ⟨h1,fun h=>(by cases h)⟩) fun hok=>?_;have h3:=h3 (by simpa using hok);refine(btake_has hs h1).bind fun⟨q2,ng⟩ ⟨g1,g2,_⟩=>?_;simp only at h1 h2 h3 g1 g2;refine Has.bind (P:=fun z=>match z with| .inl r=>Pos s r.1∧p<r.1| .inr r=>Pos s r.1∧(eOk errIds r.2.2.2.2.2=false→p<r.1)) ?_ fun z hz=>?_
 ·refine Has.loop (fun st:Int×Int×Int×Int×Int×Bool=>Pos s st.1∧p<st.1) (fun st=>s.size+1-st.1.toNat) _ ⟨g1,by simp only;omega⟩ (by omega) fun⟨u,a,b,c,d,f⟩ ⟨k1,k2⟩=>?_;simp only at k1 k2;unfold F_269;refine Has.bind (P:=fun r=>Pos s r.1∧u≤r.1) (.ite (fun _=> .ret ⟨k1,Int.le_refl _⟩) fun _=>(btake_has hs k1).bind fun r hr=> .ret ⟨hr.1,hr.2.1⟩) fun⟨u2,b2⟩ ⟨l1,l2⟩=> .ite (fun _=>?_) fun _=> .ret ⟨l1,by simp only at l2 ⊢;omega⟩;simp only at l1 l2;refine(item_has hs hN l1).bind fun⟨u3,w1,w2,w3,w4,e⟩ ⟨m1,m2,m3⟩=>?_;simp only at m1 m2 m3;refine .ite (fun he=> .ret ⟨m1,fun h=>by simp only at h;rw[h]at he;cases he⟩) fun he=>(or_has _ _ _ _ _ _ _ _ hN).bind fun _ _=> .ret ?_;have:=m3 (by simpa using he);have:=k1.1;have:=m1.2;exact⟨⟨m1,by simp only;omega⟩,by simp only;omega⟩
 cases z with
 |inr r=>exact .ret hz
 |inl r=>exact Has.bind (P:=fun _=>True) (.ite (fun _=>(not_has _ _ _ _ hN).bind fun _ _=> .ret trivial) fun _=> .ret trivial) fun _ _=> .ret ⟨hz.1,fun _=>hz.2⟩
end
open Go Go.Eng
set_option maxRecDepth 100000
section
variable {N:Nat}{s:ByteArray}{p e:Int}
theorem more_has:Has (F_24 N s p e) fun b=>b=true→p<s.size∧eOk errIds e=false:=by
 unfold F_24;refine Has.bind (P:=fun b=>b=true→p<s.size∧eOk errIds e=false) (.ite (fun h=> .ret fun h2=>⟨by simpa using h2,by simpa using h⟩) fun _=> .ret fun h=>(by cases h)) fun b hb=> .ret hb
def OnP(s:ByteArray)(p e:Int)(b:Bool):Prop:=b=true→p<s.size∧eOk errIds e=false
def TkR(s:ByteArray)(p e:Int)(r:Int×Bool):Prop:=Pos s r.1∧p≤r.1∧(r.2=true→r.1=p+1∧eOk errIds e=false)∧(r.2=false→r.1=p)
theorem on_gen{f:Int→Option Int}(h:Pos s p)(hf: ∀c,Has (f c) fun _=>True):Has (((F_24 N s p e >>= fun b=>if b=true then(sidx s p >>= fun x=>f x >>= fun k=>some (decide (k≥0)))else(some false)):Option Bool) >>= fun z=>some z) (OnP s p e):=by
 refine Has.bind (P:=OnP s p e) ?_ fun b hb=> .ret hb;refine more_has.bind fun b hb=> .ite (fun hb2=>?_) fun _=> .ret fun h=>(by cases h);exact(sidx_has h.1 (hb hb2).1).bind fun c _=>(hf c).bind fun k _=> .ret fun _=>hb hb2
theorem take_gen{o:Option Bool}(hs:Sm s)(h:Pos s p)(ho:Has o (OnP s p e)):Has (o >>= fun b=>if(!b)=true then(some (p,false))else(some (w64 (p+1),true))) (TkR s p e):=by
 unfold Sm at hs;have h1:=h.1;refine ho.bind fun b hb=> .ite (fun _=> .ret ⟨h,Int.le_refl _,fun h=>(by cases h),fun _=>rfl⟩) fun hb2=> .ret ?_;have:=hb (by simpa using hb2);rw[w64_id (by omega) (by omega)];exact⟨⟨by simp only;omega,by simp only;omega⟩,by simp only;omega,fun _=>⟨rfl,this.2⟩,fun h=>(by cases h)⟩
theorem on_has(h:Pos s p):Has (F_4 N s p e) (OnP s p e):=by
 unfold F_4;exact on_gen h fun _=>⟨_,rfl,trivial⟩
theorem on_1_has(h:Pos s p):Has (F_20 N s p e) (OnP s p e):=by
 unfold F_20;exact on_gen h fun _=>⟨_,rfl,trivial⟩
theorem on_2_has(h:Pos s p):Has (F_207 N s p e) (OnP s p e):=by
 unfold F_207;exact on_gen h fun _=>⟨_,rfl,trivial⟩
theorem on_3_has(h:Pos s p):Has (F_158 N s p e) (OnP s p e):=by
 unfold F_158;exact on_gen h fun _=>⟨_,rfl,trivial⟩
theorem on_4_has(h:Pos s p):Has (F_208 N s p e) (OnP s p e):=by
 unfold F_208;exact on_gen h fun _=>⟨_,rfl,trivial⟩
theorem on_5_has(h:Pos s p):Has (F_209 N s p e) (OnP s p e):=by
 unfold F_209;exact on_gen h fun _=>⟨_,rfl,trivial⟩
theorem on_6_has(h:Pos s p):Has (F_210 N s p e) (OnP s p e):=by
 unfold F_210;exact on_gen h fun _=>⟨_,rfl,trivial⟩
theorem on_7_has(h:Pos s p):Has (F_211 N s p e) (OnP s p e):=by
 unfold F_211;exact on_gen h fun _=>⟨_,rfl,trivial⟩
theorem on_8_has(h:Pos s p):Has (F_212 N s p e) (OnP s p e):=by
 unfold F_212;exact on_gen h fun _=>⟨_,rfl,trivial⟩
theorem on_9_has(h:Pos s p):Has (F_159 N s p e) (OnP s p e):=by
 unfold F_159;exact on_gen h fun _=>⟨_,rfl,trivial⟩
theorem on_10_has(h:Pos s p):Has (F_203 N s p e) (OnP s p e):=by
 unfold F_203;exact on_gen h fun _=>⟨_,rfl,trivial⟩
theorem on_11_has(h:Pos s p):Has (F_204 N s p e) (OnP s p e):=by
 unfold F_204;exact on_gen h fun _=>⟨_,rfl,trivial⟩
theorem on_12_has(h:Pos s p):Has (F_205 N s p e) (OnP s p e):=by
 unfold F_205;exact on_gen h fun _=>⟨_,rfl,trivial⟩
theorem on_13_has(h:Pos s p):Has (F_206 N s p e) (OnP s p e):=by
 unfold F_206;exact on_gen h fun _=>⟨_,rfl,trivial⟩
theorem take_has(hs:Sm s)(h:Pos s p):Has (F_10 N s p e) (TkR s p e):=by
 unfold F_10;exact take_gen hs h (on_1_has h)
theorem take_1_has(hs:Sm s)(h:Pos s p):Has (F_213 N s p e) (TkR s p e):=by
 unfold F_213;exact take_gen hs h (on_4_has h)
theorem take_2_has(hs:Sm s)(h:Pos s p):Has (F_214 N s p e) (TkR s p e):=by
 unfold F_214;exact take_gen hs h (on_6_has h)
theorem take_3_has(hs:Sm s)(h:Pos s p):Has (F_215 N s p e) (TkR s p e):=by
 unfold F_215;exact take_gen hs h (on_7_has h)
theorem take_4_has(hs:Sm s)(h:Pos s p):Has (F_216 N s p e) (TkR s p e):=by
 unfold F_216;exact take_gen hs h (on_8_has h)
theorem take_5_has(hs:Sm s)(h:Pos s p):Has (F_217 N s p e) (TkR s p e):=by
 unfold F_217;exact take_gen hs h (on_10_has h)
theorem take_6_has(hs:Sm s)(h:Pos s p):Has (F_218 N s p e) (TkR s p e):=by
 unfold F_218;exact take_gen hs h (on_11_has h)
theorem take_7_has(hs:Sm s)(h:Pos s p):Has (F_219 N s p e) (TkR s p e):=by
 unfold F_219;exact take_gen hs h (on_12_has h)
theorem take_8_has(hs:Sm s)(h:Pos s p):Has (F_220 N s p e) (TkR s p e):=by
 unfold F_220;exact take_gen hs h (on_13_has h)
def Er(s:ByteArray)(r:Int×Int):Prop:=Pos s r.1∧eOk errIds r.2=true
theorem rfail_has{q x:Int}(h:Pos s p)(hq:Pos s q)(hx:eOk errIds x=true):Has (F_11 N s p e q x) (Er s):=by
 unfold F_11;exact Has.bind (P:=Er s) (.ite (fun _=> .ret ⟨hq,hx⟩) fun he=> .ret ⟨h,by simpa using he⟩) fun r hr=> .ret hr
theorem rfail1_has{q:Int}(h:Pos s p)(hq:Pos s q):Has (F_133 N s p e q) (Er s):=by
 unfold F_133;exact Has.bind (P:=Er s) (.ite (fun _=> .ret ⟨hq,(by rfl)⟩) fun he=> .ret ⟨h,by simpa using he⟩) fun r hr=> .ret hr
theorem rfail2_has{q:Int}(h:Pos s p)(hq:Pos s q):Has (F_199 N s p e q) (Er s):=by
 unfold F_199;exact Has.bind (P:=Er s) (.ite (fun _=> .ret ⟨hq,(by rfl)⟩) fun he=> .ret ⟨h,by simpa using he⟩) fun r hr=> .ret hr
theorem rfail3_has{q:Int}(h:Pos s p)(hq:Pos s q):Has (F_134 N s p e q) (Er s):=by
 unfold F_134;exact Has.bind (P:=Er s) (.ite (fun _=> .ret ⟨hq,(by rfl)⟩) fun he=> .ret ⟨h,by simpa using he⟩) fun r hr=> .ret hr
theorem rfail4_has{q:Int}(h:Pos s p)(hq:Pos s q):Has (F_135 N s p e q) (Er s):=by
 unfold F_135;exact Has.bind (P:=Er s) (.ite (fun _=> .ret ⟨hq,(by rfl)⟩) fun he=> .ret ⟨h,by simpa using he⟩) fun r hr=> .ret hr
theorem rfail5_has{q:Int}(h:Pos s p)(hq:Pos s q):Has (F_200 N s p e q) (Er s):=by
 unfold F_200;exact Has.bind (P:=Er s) (.ite (fun _=> .ret ⟨hq,(by rfl)⟩) fun he=> .ret ⟨h,by simpa using he⟩) fun r hr=> .ret hr
theorem rfail6_has{q:Int}(h:Pos s p)(hq:Pos s q):Has (F_201 N s p e q) (Er s):=by
 unfold F_201;exact Has.bind (P:=Er s) (.ite (fun _=> .ret ⟨hq,(by rfl)⟩) fun he=> .ret ⟨h,by simpa using he⟩) fun r hr=> .ret hr
def Go1(s:ByteArray)(p e:Int)(r:Int×Int):Prop:=Pos s r.1∧(eOk errIds r.2=false→eOk errIds e=false∧p≤r.1)
theorem Er.go{r:Int×Int}(h:Er s r):Go1 s p e r:=⟨h.1,fun he=>by rw[h.2]at he;cases he⟩
theorem Go1.to{q x:Int}{r:Int×Int}(h:Go1 s q x r)(h1:eOk errIds x=false→eOk errIds e=false∧p≤q):Go1 s p e r:=⟨h.1,fun he=>by
 have h2:=h.2 he;have h3:=h1 h2.1;exact⟨h3.1,by omega⟩⟩
theorem number_has(hs:Sm s)(hN:1000010≤N)(h:Pos s p):Has (F_83 N s p e) fun r=>Go1 s p e (r.1,r.2.1):=by
 unfold F_83;have hs':=hs;unfold Sm at hs';refine Has.bind (P:=fun z=>match z with| .inl r=>Pos s r.1∧p≤r.1| .inr r=>Go1 s p e (r.1,r.2.1)) ?_ fun z hz=>?_
 ·refine Has.loop (fun st:Int×Int=>Pos s st.1∧p≤st.1) (fun st=>s.size+1-st.1.toNat) _ ⟨h,Int.le_refl _⟩ (by omega) fun⟨q,v⟩ ⟨h1,h2⟩=>?_;simp only at h1 h2;unfold F_285;refine(on_9_has h1).bind fun b hb=> .ite (fun hb2=>?_) fun _=> .ret ⟨h1,h2⟩;have hq:=(hb hb2).1;refine .ite (fun _=>(rfail4_has h1 h).bind fun r hr=> .ret hr.go) fun _=>?_;refine(sidx_has h1.1 hq).bind fun c _=> .ret ?_;have:=h1.1;simp only;rw[w64_id (by omega) (by omega)];exact⟨⟨⟨by omega,by omega⟩,by omega⟩,by omega⟩
 cases z with
 |inr r=>exact .ret hz
 |inl r=>
   refine Has.bind (P:=Go1 s p e) (.ite (fun _=>(rfail4_has hz.1 h).bind fun r hr=> .ret hr.go) fun _=> .ret ⟨hz.1,fun he=>⟨he,hz.2⟩⟩) fun r hr=> .ret hr
theorem bounds_has(hs:Sm s)(hN:1000010≤N)(h:Pos s p)(hp:p<s.size):Has (F_198 N s p e) fun r=>Go1 s (p+1) e (r.1,r.2.1):=by
 unfold F_198;have hs':=hs;unfold Sm at hs';have h0:=h.1;rw[w64_id (x:=p+1) (by omega) (by omega)];have hp1:Pos s (p+1):=⟨by omega,by omega⟩;refine(number_has hs hN hp1).bind fun⟨q,e1,n1⟩ h1=>(take_5_has hs h1.1).bind fun⟨q2,b2⟩ h2=>?_;simp only at h1 h2;have h21:=h2.2.1;have h20:=h2.1;simp only at h21 h20;refine Has.bind (P:=fun r=>Go1 s (p+1) e (r.1,r.2.1)∧Pos s r.2.2.1) (.ite (fun _=>?_) fun _=> .ret ⟨⟨h20,fun he=>⟨(h1.2 he).1,by have:=(h1.2 he).2;simp only at this ⊢;omega⟩⟩,hp1⟩) fun⟨q3,e3,k3,m3⟩ ⟨h3,h3k⟩=>?_
 ·refine(on_9_has h20).bind fun b hb=>?_;refine Has.bind (P:=fun r=>Go1 s (p+1) e (r.1,r.2.1)∧Pos s r.2.2.1) (.ite (fun _=>?_) fun _=> .ret ⟨⟨h20,fun he=>⟨(h1.2 he).1,by have:=(h1.2 he).2;simp only at this ⊢;omega⟩⟩,hp1⟩) fun r hr=> .ret hr;exact(number_has hs hN h20).bind fun r hr=> .ret ⟨Go1.to hr fun he=>⟨(h1.2 he).1,by have:=(h1.2 he).2;simp only at this ⊢;omega⟩,h20⟩
 simp only at h3 h3k;have h30:=h3.1;simp only at h30;refine Has.bind (P:=Go1 s (p+1) e) ?_ fun r hr=> .ret hr;refine Has.bind (P:=fun _=>True) (.ite (fun _=>more_has.bind fun _ _=> .ret trivial) fun _=> .ret trivial) fun b _=>?_;refine Has.bind (P:=Go1 s (p+1) e) ?_ fun r hr=> .ret hr;refine .ite (fun _=>(rfail1_has h30 ⟨by omega,Int.le_refl _⟩).bind fun r hr=> .ret hr.go) fun _=>?_;refine(take_6_has hs h30).bind fun⟨q4,b4⟩ h4=>?_;have h40:=h4.1;have h41:=h4.2.1;simp only at h40 h41;refine Has.bind (P:=Go1 s (p+1) e) ?_ fun r hr=> .ret hr;refine .ite (fun _=>(rfail3_has h40 h40).bind fun r hr=> .ret hr.go) fun _=>?_;refine Has.bind (P:=fun _=>True) (.ite (fun _=> .ite (fun _=> .ret trivial) fun _=> .ret trivial) fun _=> .ret trivial) fun b _=>?_;refine Has.bind (P:=Go1 s (p+1) e) ?_ fun r hr=> .ret hr;exact .ite (fun _=>(rfail4_has h40 h3k).bind fun r hr=> .ret hr.go) fun _=> .ret ⟨h40,fun he=>⟨(h3.2 he).1,by have:=(h3.2 he).2;simp only at this ⊢;omega⟩⟩
theorem rname_has(hs:Sm s)(hN:1000010≤N)(h:Pos s p)(hp:p<s.size):Has (F_202 N s p e) fun r=>Go1 s (p+1) e (r.1,r.2.1)∧r.2.2.2.size≤s.size:=by
 unfold F_202;have hs':=hs;unfold Sm at hs';have h0:=h.1;rw[w64_id (x:=p+1) (by omega) (by omega)];refine(sslc_has (by omega) (by omega) (Int.le_refl _)).bind fun r hr=>?_;unfold F_265 F_5;refine Has.bind (P:=fun k:Int=> -1≤k∧k<r.size) (Has.bind (P:=fun k:Int=> -1≤k∧k<r.size) (.ret (sfind_lt r 125)) fun k hk=> .ret hk) fun k hk=> .ite (fun _=>?_) fun hk0=>?_
 ·exact(rfail1_has h ⟨by omega,Int.le_refl _⟩).bind fun r hr=> .ret ⟨hr.go,by simp⟩
 have hk0:0≤k:=by simpa using hk0
 rw[w64_id (x:=p+1+k) (by omega) (by omega),w64_id (x:=p+1+k+1) (by omega) (by omega)];refine(sslc_has (by omega) (by omega) (by omega)).bind fun nm hnm=>(isName_has (by unfold Sm;omega) hN).bind fun b _=> .ite (fun _=>?_) fun _=>?_
 ·exact(rfail2_has h ⟨by omega,by omega⟩).bind fun r hr=> .ret ⟨hr.go,by simp⟩
 exact(sslc_has (by omega) (by omega) (by omega)).bind fun nm2 hnm2=> .ret ⟨⟨⟨by simp only;omega,by simp only;omega⟩,fun he=>⟨he,by simp only;omega⟩⟩,by simp only;omega⟩
end
end Go.Proofs.YtnkednnnkifenaaGreatDoor
