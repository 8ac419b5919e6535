import Derived.Test.YtfokmjocophnoaaGreatDoorRulesCheckE3
import Derived.Test.YtfokmjocophnoaaGreatDoorRulesChecke
import Derived.Test.YtfokmjocophnoaaGreatDoorCards
import Derived.Test.YtfokmjocophnoaaGreatDoorTie
import Derived.Deep.DeepHandedRow
import Derived.Deep.DeepWitnessRowRef
import Derived.LaidMore
import Derived.Lay
import Derived.ProofKit
namespace Go.Proofs.YtfokmjocophnoaaGreatDoor
namespace RulesCheck
open Go Go.Eng Go.ChangeShapes Go.WideShapes Go.ChangeAt Go.RowKit
set_option maxRecDepth 100000
theorem own:ownKnob Tryz.prog.godebug=none:=by kernel_rfl
theorem laidOut:laidOutB Tryz.prog=true:=by kernel_rfl
theorem met(os:Os)(args:Array Value):laidMetH Tryz.prog Rows.rulesCheckRow.laid ((World.laidAll Tryz.prog os Rows.rulesCheckRow.laid).forCall (fun _ _=>0) ⟨#[],args,[]⟩).memory:=by
  rw[MakeChecks.laidMetH_plain _ _ _ (by kernel_rfl)];exact laidMet_laidAll _ (by kernel_rfl) (by kernel_rfl)
theorem star: "*" ++ "errors.errorString" = "*errors.errorString" :=by decide
theorem row391(u:TypeId)(h:Tryz.prog.typeName? 3 u=some "*errors.errorString"):u=391:=
  typeName_ptr_named (nm:= "errors.errorString") (by rw[star];kernel_rfl) (by kernel_rfl) (by decide) u (by rw[star];exact h)
theorem errs{W:World}(h:laidMetH Tryz.prog Rows.rulesCheckRow.laid W): ∃ge,GErrs (hv W) 391 errIds ge:=by
  rw[MakeChecks.laidMetH_plain _ _ _ (by kernel_rfl)]at h;refine gErrs_of (nm:= "*errors.errorString") (ti:=29) (te:=414) (ts:=9) ⟨Tryz.underlying29,row391,Tryz.underlying391,Tryz.underlying414,rfl,rfl,Tryz.underlying9,by kernel_rfl,by kernel_rfl⟩ h fun k hk=>?_;have hk:k=0∨k=1∨k=2∨k=3∨k=4∨k=5∨k=6∨k=7∨k=8∨k=9∨k=10∨k=11∨k=12∨k=13∨k=14∨k=15∨k=16∨k=17:=by simpa[errIds]using hk
  rcases hk with rfl|rfl|rfl|rfl|rfl|rfl|rfl|rfl|rfl|rfl|rfl|rfl|rfl|rfl|rfl|rfl|rfl|rfl
  ·exact⟨"doffer/api.ErrForm",_,mm (mm (mm (mm (mm (ms))))),by kernel_rfl,by kernel_rfl⟩
  ·exact⟨"doffer/api.ErrLimit",_,mm (mm (mm (mm (mm (mm (mm (mm (mm (mm (ms)))))))))),by kernel_rfl,by kernel_rfl⟩
  ·exact⟨"doffer/api.ErrRange",_,mm (mm (ms)),by kernel_rfl,by kernel_rfl⟩
  ·exact⟨"doffer/api.ErrShort",_,mm (mm (mm (ms))),by kernel_rfl,by kernel_rfl⟩
  ·exact⟨"doffer/api.ErrLong",_,mm (mm (mm (mm (ms)))),by kernel_rfl,by kernel_rfl⟩
  ·exact⟨"doffer/api.ErrName",_,mm (mm (mm (mm (mm (mm (ms)))))),by kernel_rfl,by kernel_rfl⟩
  ·exact⟨"doffer/api.ErrDup",_,mm (mm (mm (mm (mm (mm (mm (ms))))))),by kernel_rfl,by kernel_rfl⟩
  ·exact⟨"doffer/api.ErrDepth",_,mm (mm (mm (mm (mm (mm (mm (mm (ms)))))))),by kernel_rfl,by kernel_rfl⟩
  ·exact⟨"doffer/api.ErrLoop",_,mm (mm (mm (mm (mm (mm (mm (mm (mm (ms))))))))),by kernel_rfl,by kernel_rfl⟩
  ·exact⟨"doffer/api.ErrSum",_,mm (mm (mm (mm (mm (mm (mm (mm (mm (mm (mm (ms))))))))))),by kernel_rfl,by kernel_rfl⟩
  ·exact⟨"doffer/api.ErrVersion",_,mm (mm (mm (mm (mm (mm (mm (mm (mm (mm (mm (mm (ms)))))))))))),by kernel_rfl,by kernel_rfl⟩
  ·exact⟨"doffer/api.ErrIndex",_,mm (mm (mm (mm (mm (mm (mm (mm (mm (mm (mm (mm (mm (ms))))))))))))),by kernel_rfl,by kernel_rfl⟩
  ·exact⟨"doffer/api.ErrFull",_,mm (mm (mm (mm (mm (mm (mm (mm (mm (mm (mm (mm (mm (mm (ms)))))))))))))),by kernel_rfl,by kernel_rfl⟩
  ·exact⟨"doffer/api.ErrCredit",_,mm (mm (mm (mm (mm (mm (mm (mm (mm (mm (mm (mm (mm (mm (mm (ms))))))))))))))),by kernel_rfl,by kernel_rfl⟩
  ·exact⟨"doffer/api.ErrNone",_,mm (mm (mm (mm (mm (mm (mm (mm (mm (mm (mm (mm (mm (mm (mm (mm (ms)))))))))))))))),by kernel_rfl,by kernel_rfl⟩
  ·exact⟨"doffer/api.ErrState",_,mm (mm (mm (mm (mm (mm (mm (mm (mm (mm (mm (mm (mm (mm (mm (mm (mm (ms))))))))))))))))),by kernel_rfl,by kernel_rfl⟩
  ·exact⟨"doffer/api.ErrParked",_,mm (mm (mm (mm (mm (mm (mm (mm (mm (mm (mm (mm (mm (mm (mm (mm (mm (mm (ms)))))))))))))))))),by kernel_rfl,by kernel_rfl⟩
  exact⟨"doffer/api.ErrTag",_,mm (mm (mm (mm (mm (mm (mm (mm (mm (mm (mm (mm (mm (mm (mm (mm (mm (mm (mm (ms))))))))))))))))))),by kernel_rfl,by kernel_rfl⟩
theorem globTab21:Tryz.prog.globalNamed "math/bits.deBruijn64tab" =some 21:=by kernel_rfl
theorem table21{W:World}(h:laidMetH Tryz.prog Rows.rulesCheckRow.laid W):GTab (hv W) 21 .u8 tab_math_bits_deBruijn64tab:=by
  rw[MakeChecks.laidMetH_plain _ _ _ (by kernel_rfl)]at h;exact gTab_of (t:=371) (e:=5) (n:=64) (laid:=Rows.rulesCheckRow.laid) globTab21 (by kernel_rfl) Tryz.underlying371 Tryz.underlying5 (by kernel_rfl) (by kernel_rfl) (ms) h
theorem r9:Reads Tryz.prog 9 eS (fun s=>s.size≤maxLen) (fun s=>s.size+1):= .str Tryz.underlying9 (by kernel_rfl)
theorem r24:Reads Tryz.prog 24 (eL eS) (fun l=>l.length≤maxLen∧ ∀x∈l,(fun s=>s.size≤maxLen) x) (fun l=>sumOf (fun s=>s.size+1) l+1):= .slice r9 Tryz.underlying24 (by kernel_rfl) (by decide)
theorem r3:Reads Tryz.prog 3 (eI .i64) (InK .i64) (fun _=>1):= .int Tryz.underlying3 (by kernel_rfl)
theorem r57:Reads Tryz.prog 57 (eI .u64) (InK .u64) (fun _=>1):= .int Tryz.underlying57 (by kernel_rfl)
theorem r97:Reads Tryz.prog 97 (eP (eI .u64) (eP (eI .u64) (eP (eI .u64) (eI .u64)))) (fun x=>(InK .u64) x.1∧(InK .u64) x.2.1∧(InK .u64) x.2.2.1∧(InK .u64) x.2.2.2) (fun _=>0):= .arr4 r57 Tryz.underlying97 (by kernel_rfl)
theorem r106:Reads Tryz.prog 106 eN NdQ (fun _=>0):= .node Tryz.underlying106 (by kernel_rfl) r3 rfl r97 rfl Tryz.underlying104 (by kernel_rfl) rfl r3 rfl r3 rfl r9 rfl
theorem r141:Reads Tryz.prog 141 (eP eS (eP eN (eI .i64))) (fun x=>(fun s=>s.size≤maxLen) x.1∧(fun x=>NdQ x.1∧(InK .i64) x.2) x.2) (fun x=>(fun x=>(fun s=>s.size+1) x.1+(fun x=>(fun _=>0) x.1+(fun _=>1) x.2) x.2) x+1):=by
  refine Reads.struct (e:=(eP eS (eP eN (eI .i64)))) (Q:=(fun x=>(fun s=>s.size≤maxLen) x.1∧(fun x=>NdQ x.1∧(InK .i64) x.2) x.2)) (m:=(fun x=>(fun s=>s.size+1) x.1+(fun x=>(fun _=>0) x.1+(fun _=>1) x.2) x.2)) Tryz.underlying141 (by kernel_rfl) ?_;refine ReadsFs.cons (e:=eS) (e2:=(eP eN (eI .i64))) (Q:=(fun s=>s.size≤maxLen)) (Q2:=(fun x=>NdQ x.1∧(InK .i64) x.2)) (m:=(fun s=>s.size+1)) (m2:=(fun x=>(fun _=>0) x.1+(fun _=>1) x.2)) r9 rfl ?_;refine ReadsFs.cons (e:=eN) (e2:=(eI .i64)) (Q:=NdQ) (Q2:=(InK .i64)) (m:=(fun _=>0)) (m2:=(fun _=>1)) r106 rfl ?_;exact .one r3 rfl
theorem r69:Reads Tryz.prog 69 (eL (eP eS (eP eN (eI .i64)))) (fun l=>l.length≤maxLen∧ ∀x∈l,(fun x=>(fun s=>s.size≤maxLen) x.1∧(fun x=>NdQ x.1∧(InK .i64) x.2) x.2) x) (fun l=>sumOf (fun x=>(fun x=>(fun s=>s.size+1) x.1+(fun x=>(fun _=>0) x.1+(fun _=>1) x.2) x.2) x+1) l+1):= .slice r141 Tryz.underlying69 (by kernel_rfl) (by decide)
theorem r145:Reads Tryz.prog 145 (eP eS eS) (fun x=>(fun s=>s.size≤maxLen) x.1∧(fun s=>s.size≤maxLen) x.2) (fun x=>(fun x=>(fun s=>s.size+1) x.1+(fun s=>s.size+1) x.2) x+1):=by
  refine Reads.struct (e:=(eP eS eS)) (Q:=(fun x=>(fun s=>s.size≤maxLen) x.1∧(fun s=>s.size≤maxLen) x.2)) (m:=(fun x=>(fun s=>s.size+1) x.1+(fun s=>s.size+1) x.2)) Tryz.underlying145 (by kernel_rfl) ?_;refine ReadsFs.cons (e:=eS) (e2:=eS) (Q:=(fun s=>s.size≤maxLen)) (Q2:=(fun s=>s.size≤maxLen)) (m:=(fun s=>s.size+1)) (m2:=(fun s=>s.size+1)) r9 rfl ?_;exact .one r9 rfl
theorem r147:Reads Tryz.prog 147 (eP (eL eS) (eP eN (eP (eP eS eS) (eI .i64)))) (fun x=>(fun l=>l.length≤maxLen∧ ∀x∈l,(fun s=>s.size≤maxLen) x) x.1∧(fun x=>NdQ x.1∧(fun x=>(fun x=>(fun s=>s.size≤maxLen) x.1∧(fun s=>s.size≤maxLen) x.2) x.1∧(InK .i64) x.2) x.2) x.2) (fun x=>(fun x=>(fun l=>sumOf (fun s=>s.size+1) l+1) x.1+(fun x=>(fun _=>0) x.1+(fun x=>(fun x=>(fun x=>(fun s=>s.size+1) x.1+(fun s=>s.size+1) x.2) x+1) x.1+(fun _=>1) x.2) x.2) x.2) x+1):=by
  refine Reads.struct (e:=(eP (eL eS) (eP eN (eP (eP eS eS) (eI .i64))))) (Q:=(fun x=>(fun l=>l.length≤maxLen∧ ∀x∈l,(fun s=>s.size≤maxLen) x) x.1∧(fun x=>NdQ x.1∧(fun x=>(fun x=>(fun s=>s.size≤maxLen) x.1∧(fun s=>s.size≤maxLen) x.2) x.1∧(InK .i64) x.2) x.2) x.2)) (m:=(fun x=>(fun l=>sumOf (fun s=>s.size+1) l+1) x.1+(fun x=>(fun _=>0) x.1+(fun x=>(fun x=>(fun x=>(fun s=>s.size+1) x.1+(fun s=>s.size+1) x.2) x+1) x.1+(fun _=>1) x.2) x.2) x.2)) Tryz.underlying147 (by kernel_rfl) ?_;refine ReadsFs.cons (e:=(eL eS)) (e2:=(eP eN (eP (eP eS eS) (eI .i64)))) (Q:=(fun l=>l.length≤maxLen∧ ∀x∈l,(fun s=>s.size≤maxLen) x)) (Q2:=(fun x=>NdQ x.1∧(fun x=>(fun x=>(fun s=>s.size≤maxLen) x.1∧(fun s=>s.size≤maxLen) x.2) x.1∧(InK .i64) x.2) x.2)) (m:=(fun l=>sumOf (fun s=>s.size+1) l+1)) (m2:=(fun x=>(fun _=>0) x.1+(fun x=>(fun x=>(fun x=>(fun s=>s.size+1) x.1+(fun s=>s.size+1) x.2) x+1) x.1+(fun _=>1) x.2) x.2)) r24 rfl ?_;refine ReadsFs.cons (e:=eN) (e2:=(eP (eP eS eS) (eI .i64))) (Q:=NdQ) (Q2:=(fun x=>(fun x=>(fun s=>s.size≤maxLen) x.1∧(fun s=>s.size≤maxLen) x.2) x.1∧(InK .i64) x.2)) (m:=(fun _=>0)) (m2:=(fun x=>(fun x=>(fun x=>(fun s=>s.size+1) x.1+(fun s=>s.size+1) x.2) x+1) x.1+(fun _=>1) x.2)) r106 rfl ?_;refine ReadsFs.cons (e:=(eP eS eS)) (e2:=(eI .i64)) (Q:=(fun x=>(fun s=>s.size≤maxLen) x.1∧(fun s=>s.size≤maxLen) x.2)) (Q2:=(InK .i64)) (m:=(fun x=>(fun x=>(fun s=>s.size+1) x.1+(fun s=>s.size+1) x.2) x+1)) (m2:=(fun _=>1)) r145 rfl ?_;exact .one r3 rfl
theorem r70:Reads Tryz.prog 70 (eL (eP (eL eS) (eP eN (eP (eP eS eS) (eI .i64))))) (fun l=>l.length≤maxLen∧ ∀x∈l,(fun x=>(fun l=>l.length≤maxLen∧ ∀x∈l,(fun s=>s.size≤maxLen) x) x.1∧(fun x=>NdQ x.1∧(fun x=>(fun x=>(fun s=>s.size≤maxLen) x.1∧(fun s=>s.size≤maxLen) x.2) x.1∧(InK .i64) x.2) x.2) x.2) x) (fun l=>sumOf (fun x=>(fun x=>(fun l=>sumOf (fun s=>s.size+1) l+1) x.1+(fun x=>(fun _=>0) x.1+(fun x=>(fun x=>(fun x=>(fun s=>s.size+1) x.1+(fun s=>s.size+1) x.2) x+1) x.1+(fun _=>1) x.2) x.2) x.2) x+1) l+1):= .slice r147 Tryz.underlying70 (by kernel_rfl) (by decide)
theorem r72:Reads Tryz.prog 72 (eP (eL eS) (eP (eL (eP eS (eP eN (eI .i64)))) (eL (eP (eL eS) (eP eN (eP (eP eS eS) (eI .i64))))))) (fun x=>(fun l=>l.length≤maxLen∧ ∀x∈l,(fun s=>s.size≤maxLen) x) x.1∧(fun x=>(fun l=>l.length≤maxLen∧ ∀x∈l,(fun x=>(fun s=>s.size≤maxLen) x.1∧(fun x=>NdQ x.1∧(InK .i64) x.2) x.2) x) x.1∧(fun l=>l.length≤maxLen∧ ∀x∈l,(fun x=>(fun l=>l.length≤maxLen∧ ∀x∈l,(fun s=>s.size≤maxLen) x) x.1∧(fun x=>NdQ x.1∧(fun x=>(fun x=>(fun s=>s.size≤maxLen) x.1∧(fun s=>s.size≤maxLen) x.2) x.1∧(InK .i64) x.2) x.2) x.2) x) x.2) x.2) (fun x=>(fun x=>(fun l=>sumOf (fun s=>s.size+1) l+1) x.1+(fun x=>(fun l=>sumOf (fun x=>(fun x=>(fun s=>s.size+1) x.1+(fun x=>(fun _=>0) x.1+(fun _=>1) x.2) x.2) x+1) l+1) x.1+(fun l=>sumOf (fun x=>(fun x=>(fun l=>sumOf (fun s=>s.size+1) l+1) x.1+(fun x=>(fun _=>0) x.1+(fun x=>(fun x=>(fun x=>(fun s=>s.size+1) x.1+(fun s=>s.size+1) x.2) x+1) x.1+(fun _=>1) x.2) x.2) x.2) x+1) l+1) x.2) x.2) x+1):=by
  refine Reads.struct (e:=(eP (eL eS) (eP (eL (eP eS (eP eN (eI .i64)))) (eL (eP (eL eS) (eP eN (eP (eP eS eS) (eI .i64)))))))) (Q:=(fun x=>(fun l=>l.length≤maxLen∧ ∀x∈l,(fun s=>s.size≤maxLen) x) x.1∧(fun x=>(fun l=>l.length≤maxLen∧ ∀x∈l,(fun x=>(fun s=>s.size≤maxLen) x.1∧(fun x=>NdQ x.1∧(InK .i64) x.2) x.2) x) x.1∧(fun l=>l.length≤maxLen∧ ∀x∈l,(fun x=>(fun l=>l.length≤maxLen∧ ∀x∈l,(fun s=>s.size≤maxLen) x) x.1∧(fun x=>NdQ x.1∧(fun x=>(fun x=>(fun s=>s.size≤maxLen) x.1∧(fun s=>s.size≤maxLen) x.2) x.1∧(InK .i64) x.2) x.2) x.2) x) x.2) x.2)) (m:=(fun x=>(fun l=>sumOf (fun s=>s.size+1) l+1) x.1+(fun x=>(fun l=>sumOf (fun x=>(fun x=>(fun s=>s.size+1) x.1+(fun x=>(fun _=>0) x.1+(fun _=>1) x.2) x.2) x+1) l+1) x.1+(fun l=>sumOf (fun x=>(fun x=>(fun l=>sumOf (fun s=>s.size+1) l+1) x.1+(fun x=>(fun _=>0) x.1+(fun x=>(fun x=>(fun x=>(fun s=>s.size+1) x.1+(fun s=>s.size+1) x.2) x+1) x.1+(fun _=>1) x.2) x.2) x.2) x+1) l+1) x.2) x.2)) Tryz.underlying72 (by kernel_rfl) ?_
  refine ReadsFs.cons (e:=(eL eS)) (e2:=(eP (eL (eP eS (eP eN (eI .i64)))) (eL (eP (eL eS) (eP eN (eP (eP eS eS) (eI .i64))))))) (Q:=(fun l=>l.length≤maxLen∧ ∀x∈l,(fun s=>s.size≤maxLen) x)) (Q2:=(fun x=>(fun l=>l.length≤maxLen∧ ∀x∈l,(fun x=>(fun s=>s.size≤maxLen) x.1∧(fun x=>NdQ x.1∧(InK .i64) x.2) x.2) x) x.1∧(fun l=>l.length≤maxLen∧ ∀x∈l,(fun x=>(fun l=>l.length≤maxLen∧ ∀x∈l,(fun s=>s.size≤maxLen) x) x.1∧(fun x=>NdQ x.1∧(fun x=>(fun x=>(fun s=>s.size≤maxLen) x.1∧(fun s=>s.size≤maxLen) x.2) x.1∧(InK .i64) x.2) x.2) x.2) x) x.2)) (m:=(fun l=>sumOf (fun s=>s.size+1) l+1)) (m2:=(fun x=>(fun l=>sumOf (fun x=>(fun x=>(fun s=>s.size+1) x.1+(fun x=>(fun _=>0) x.1+(fun _=>1) x.2) x.2) x+1) l+1) x.1+(fun l=>sumOf (fun x=>(fun x=>(fun l=>sumOf (fun s=>s.size+1) l+1) x.1+(fun x=>(fun _=>0) x.1+(fun x=>(fun x=>(fun x=>(fun s=>s.size+1) x.1+(fun s=>s.size+1) x.2) x+1) x.1+(fun _=>1) x.2) x.2) x.2) x+1) l+1) x.2)) r24 rfl ?_
  refine ReadsFs.cons (e:=(eL (eP eS (eP eN (eI .i64))))) (e2:=(eL (eP (eL eS) (eP eN (eP (eP eS eS) (eI .i64)))))) (Q:=(fun l=>l.length≤maxLen∧ ∀x∈l,(fun x=>(fun s=>s.size≤maxLen) x.1∧(fun x=>NdQ x.1∧(InK .i64) x.2) x.2) x)) (Q2:=(fun l=>l.length≤maxLen∧ ∀x∈l,(fun x=>(fun l=>l.length≤maxLen∧ ∀x∈l,(fun s=>s.size≤maxLen) x) x.1∧(fun x=>NdQ x.1∧(fun x=>(fun x=>(fun s=>s.size≤maxLen) x.1∧(fun s=>s.size≤maxLen) x.2) x.1∧(InK .i64) x.2) x.2) x.2) x)) (m:=(fun l=>sumOf (fun x=>(fun x=>(fun s=>s.size+1) x.1+(fun x=>(fun _=>0) x.1+(fun _=>1) x.2) x.2) x+1) l+1)) (m2:=(fun l=>sumOf (fun x=>(fun x=>(fun l=>sumOf (fun s=>s.size+1) l+1) x.1+(fun x=>(fun _=>0) x.1+(fun x=>(fun x=>(fun x=>(fun s=>s.size+1) x.1+(fun s=>s.size+1) x.2) x+1) x.1+(fun _=>1) x.2) x.2) x.2) x+1) l+1)) r69 rfl ?_;exact .one r70 rfl
structure Came(l1:List ByteArray)(l4:List (ByteArray×Nd×Int))(l7:List ((List ByteArray)×Nd×(ByteArray×ByteArray)×Int)):Prop where
  hArg0:(fun x=>(fun l=>l.length≤maxLen∧ ∀x∈l,(fun s=>s.size≤maxLen) x) x.1∧(fun x=>(fun l=>l.length≤maxLen∧ ∀x∈l,(fun x=>(fun s=>s.size≤maxLen) x.1∧(fun x=>NdQ x.1∧(InK .i64) x.2) x.2) x) x.1∧(fun l=>l.length≤maxLen∧ ∀x∈l,(fun x=>(fun l=>l.length≤maxLen∧ ∀x∈l,(fun s=>s.size≤maxLen) x) x.1∧(fun x=>NdQ x.1∧(fun x=>(fun x=>(fun s=>s.size≤maxLen) x.1∧(fun s=>s.size≤maxLen) x.2) x.1∧(InK .i64) x.2) x.2) x.2) x) x.2) x.2) (l1,l4,l7)
theorem contract(pure: ∀l1 l4 l7,Came l1 l4 l7→ ∃N,F_52 N l1 l4 l7=some true)
    (H:Type) (enc:TypeId×Value→H) (W:World) (base:Nat) (args:Array Value) (ds gs:List (DataW H)) (before:List MemPlace)
    (hval: ∀(j:Nat) t v,Tryz.f5.params[j]? =some t→args[j]? =some v→Value.okWide Tryz.prog W .any base t v)
    (hW:DataW.Whole enc Tryz.prog Tryz.f5.params.toList Rows.rulesCheckSpec.vars false W args.toList ds gs before) (hL:laidMetH Tryz.prog Rows.rulesCheckRow.laid W):
    Calls Tryz.prog 5 args W fun e W'=> ∃v,e= .returned v∧Rows.rulesCheckSpec.post enc Tryz.prog Tryz.f5 false true false false W args v W':=by
  have hW':=hW;obtain⟨p,q,hA0,hV,rfl,hfz,hnd⟩:=hW;have hA:DataW.TrodAll enc Tryz.prog W 0 (fun _=>true) true Tryz.f5.params.toList args.toList ds p:=hA0;rw[Tryz.params5]at hA hval;obtain⟨w0,vs0,d0,ds0,p0,q0,hv0,rfl,rfl,h0,r0⟩:=trodAll_cons hA;obtain⟨rfl,rfl,rfl⟩:=trodAll_nil r0;obtain rfl:args= #[w0]:=by cases args;simp_all
  obtain⟨rfl,rfl⟩:=trodVars_none hV;obtain⟨cs0,rfl,sz0⟩:=okWide_struct Tryz.underlying72 (hval 0 72 w0 rfl rfl);obtain⟨_,h0⟩:=h0;obtain⟨a0,k0,u0,_⟩:=r72.rd h0;obtain⟨cs0⟩:=cs0;replace k0:(eP (eL eS) (eP (eL (eP eS (eP eN (eI .i64)))) (eL (eP (eL eS) (eP eN (eP (eP eS eS) (eI .i64))))))).rd (hv W) a0 cs0:=k0;obtain⟨l1,l4,l7⟩:=a0;obtain⟨_,_,rfl,⟨v2,rfl,g3⟩,⟨_,_,rfl,⟨v5,rfl,g6⟩,⟨v8,rfl,g9⟩⟩⟩:=k0;obtain⟨N,hF⟩:=pure _ _ _ ⟨u0⟩;obtain⟨ge,gle⟩:=errs hL;refine(c_5 (Hp.start W) gle (table21 hL) g3 g6 g9 hF).mono fun e W' he=>?_;obtain⟨v,rfl,_,x,rfl,rfl,_,Hend⟩:=he
  exact⟨_,rfl,post_law (tb:=4) laidOut (fun t ht=>by
    rw[Tryz.params5]at ht;obtain rfl:t=72:=by simpa using ht
    exact⟨by kernel_rfl,by decide+kernel⟩) rfl ⟨rfl,rfl,rfl⟩ rfl Tryz.underlying4 hW' Hend.below⟩
theorem reads(os:Os){H:Type}(enc:TypeId×Value→H): ∃places,DataW.whole enc Tryz.prog ((World.laidAll Tryz.prog os Rows.rulesCheckRow.laid).forCall (fun _ _=>0) ⟨#[], #[.agg #[.slice none 0 0,.slice none 0 0,.slice none 0 0]],[]⟩).memory Tryz.f5.params.toList Rows.rulesCheckSpec.vars false
    (#[.agg #[.slice none 0 0,.slice none 0 0,.slice none 0 0]]:Array Value).toList 8=some ([.agg [.nil,.nil,.nil]],[],places):=
  ⟨[],by kernel_rfl⟩
set_option maxRecDepth 100000 in
theorem lifted(pure: ∀l1 l4 l7,Came l1 l4 l7→ ∃N,F_52 N l1 l4 l7=some true)(os:Os)(started:os.Started)(H:Type)(enc:TypeId×Value→H)(F:Stop.Interp):
    ReturnsInHanded {} Tryz.checked os 5 .any ((OpenSpec.ofChange Rows.rulesCheckSpec).preRow enc Tryz.prog Tryz.f5 Rows.rulesCheckRow.domain false Rows.rulesCheckRow.laid) (((OpenSpec.ofChange Rows.rulesCheckSpec).at F).post enc Tryz.prog Tryz.f5 false true false false):=by
  obtain⟨places,hx⟩:=reads os enc
  refine returnsInHanded_of_row (C:=Tryz.checked) (s:=OpenSpec.ofChange Rows.rulesCheckSpec) own started (by kernel_rfl) Tryz.func5
    (witness_row_atRef (enc:=enc) (C:=Tryz.checked) false (World.laidAll Tryz.prog os Rows.rulesCheckRow.laid) #[.agg #[.slice none 0 0,.slice none 0 0,.slice none 0 0]] (World.laidAll_os _ _ _) (by kernel_rfl) (by kernel_rfl) (by kernel_rfl)
      (OpenSpec.preRow_of_cond 8 hx (by kernel_rfl) (fun k hk=>by cases hk) (by kernel_rfl) (met os _))) ?_
  intro W base args ds gs before hval hW _ _ _ hL _ _;exact contract pure H enc W base args ds gs before hval hW hL
theorem cl1:(Rows.rulesCheckRow.inPlace==Tryz.pinned.checked.prog.inPlace 5)=true:=by kernel_rfl
theorem cl2:(Rows.rulesCheckRow.unfollowed==Tryz.pinned.checked.prog.unfollowed 5)=true:=by kernel_rfl
theorem cl3:(Rows.rulesCheckRow.recurses==Tryz.pinned.checked.prog.recurses 5)=true:=by kernel_rfl
theorem cl4:(Rows.rulesCheckRow.named==Tryz.pinned.checked.prog.varsNamed 5)=true:=by kernel_rfl
theorem cl5:laidOutB Tryz.pinned.checked.prog=true:=laidOut
theorem closed:joinedFacts Tryz.pinned.checked.prog 5 Tryz.f5 (OpenSpec.ofChange Rows.rulesCheckSpec).bare Rows.rulesCheckRow=true:=by
  unfold joinedFacts;rw[cl1,cl2,cl3,cl4,cl5]
  kernel_rfl
end RulesCheck
end Go.Proofs.YtfokmjocophnoaaGreatDoor
