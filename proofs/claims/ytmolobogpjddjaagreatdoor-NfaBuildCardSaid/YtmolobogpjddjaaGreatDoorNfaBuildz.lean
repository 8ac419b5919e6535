import Derived.Test.YtmolobogpjddjaaGreatDoorNfaBuildE3
import Derived.Test.YtmolobogpjddjaaGreatDoorNfaBuildd
import Derived.Test.YtmolobogpjddjaaGreatDoorCards
import Derived.Test.YtmolobogpjddjaaGreatDoorTie
import Derived.Deep.DeepHandedRow
import Derived.Deep.DeepWitnessRowRef
import Derived.LaidMore
import Derived.Lay
import Derived.ProofKit
namespace Go.Proofs.YtmolobogpjddjaaGreatDoor
namespace NfaBuild
open Go Go.Eng Go.ChangeShapes Go.WideShapes Go.ChangeAt Go.RowKit
set_option maxRecDepth 100000
theorem own:ownKnob Tryz.prog.godebug=none:=by kernel_rfl
theorem laidOut:laidOutB Tryz.prog=true:=by kernel_rfl
theorem met(os:Os)(args:Array Value):laidMetH Tryz.prog Rows.nfaBuildRow.laid ((World.laidAll Tryz.prog os Rows.nfaBuildRow.laid).forCall (fun _ _=>0) ⟨#[],args,[]⟩).memory:=by
  rw[MakeChecks.laidMetH_plain _ _ _ (by kernel_rfl)];exact laidMet_laidAll _ (by kernel_rfl) (by kernel_rfl)
theorem star: "*" ++ "errors.errorString" = "*errors.errorString" :=by decide
theorem row274(u:TypeId)(h:Tryz.prog.typeName? 3 u=some "*errors.errorString"):u=274:=
  typeName_ptr_named (nm:= "errors.errorString") (by rw[star];kernel_rfl) (by kernel_rfl) (by decide) u (by rw[star];exact h)
theorem errs{W:World}(h:laidMetH Tryz.prog Rows.nfaBuildRow.laid W): ∃ge,GErrs (hv W) 274 errIds ge:=by
  rw[MakeChecks.laidMetH_plain _ _ _ (by kernel_rfl)]at h;refine gErrs_of (nm:= "*errors.errorString") (ti:=33) (te:=297) (ts:=9) ⟨Tryz.underlying33,row274,Tryz.underlying274,Tryz.underlying297,rfl,rfl,Tryz.underlying9,by kernel_rfl,by kernel_rfl⟩ h fun k hk=>?_;have hk:k=0∨k=1∨k=2∨k=3∨k=4∨k=5∨k=6∨k=7∨k=8∨k=9∨k=10∨k=11∨k=12∨k=13∨k=14∨k=15∨k=16∨k=17:=by simpa[errIds]using hk
  rcases hk with rfl|rfl|rfl|rfl|rfl|rfl|rfl|rfl|rfl|rfl|rfl|rfl|rfl|rfl|rfl|rfl|rfl|rfl
  ·exact⟨"doffer/api.ErrForm",_,List.mem_cons_of_mem _ (List.mem_cons_of_mem _ (List.mem_cons_of_mem _ (List.mem_cons_of_mem _ (List.mem_cons_self ..)))),by kernel_rfl,by kernel_rfl⟩
  ·exact⟨"doffer/api.ErrLimit",_,List.mem_cons_of_mem _ (List.mem_cons_of_mem _ (List.mem_cons_of_mem _ (List.mem_cons_of_mem _ (List.mem_cons_of_mem _ (List.mem_cons_of_mem _ (List.mem_cons_of_mem _ (List.mem_cons_of_mem _ (List.mem_cons_of_mem _ (List.mem_cons_self ..))))))))),by kernel_rfl,by kernel_rfl⟩
  ·exact⟨"doffer/api.ErrRange",_,List.mem_cons_of_mem _ (List.mem_cons_self ..),by kernel_rfl,by kernel_rfl⟩
  ·exact⟨"doffer/api.ErrShort",_,List.mem_cons_of_mem _ (List.mem_cons_of_mem _ (List.mem_cons_self ..)),by kernel_rfl,by kernel_rfl⟩
  ·exact⟨"doffer/api.ErrLong",_,List.mem_cons_of_mem _ (List.mem_cons_of_mem _ (List.mem_cons_of_mem _ (List.mem_cons_self ..))),by kernel_rfl,by kernel_rfl⟩
  ·exact⟨"doffer/api.ErrName",_,List.mem_cons_of_mem _ (List.mem_cons_of_mem _ (List.mem_cons_of_mem _ (List.mem_cons_of_mem _ (List.mem_cons_of_mem _ (List.mem_cons_self ..))))),by kernel_rfl,by kernel_rfl⟩
  ·exact⟨"doffer/api.ErrDup",_,List.mem_cons_of_mem _ (List.mem_cons_of_mem _ (List.mem_cons_of_mem _ (List.mem_cons_of_mem _ (List.mem_cons_of_mem _ (List.mem_cons_of_mem _ (List.mem_cons_self ..)))))),by kernel_rfl,by kernel_rfl⟩
  ·exact⟨"doffer/api.ErrDepth",_,List.mem_cons_of_mem _ (List.mem_cons_of_mem _ (List.mem_cons_of_mem _ (List.mem_cons_of_mem _ (List.mem_cons_of_mem _ (List.mem_cons_of_mem _ (List.mem_cons_of_mem _ (List.mem_cons_self ..))))))),by kernel_rfl,by kernel_rfl⟩
  ·exact⟨"doffer/api.ErrLoop",_,List.mem_cons_of_mem _ (List.mem_cons_of_mem _ (List.mem_cons_of_mem _ (List.mem_cons_of_mem _ (List.mem_cons_of_mem _ (List.mem_cons_of_mem _ (List.mem_cons_of_mem _ (List.mem_cons_of_mem _ (List.mem_cons_self ..)))))))),by kernel_rfl,by kernel_rfl⟩
  ·exact⟨"doffer/api.ErrSum",_,List.mem_cons_of_mem _ (List.mem_cons_of_mem _ (List.mem_cons_of_mem _ (List.mem_cons_of_mem _ (List.mem_cons_of_mem _ (List.mem_cons_of_mem _ (List.mem_cons_of_mem _ (List.mem_cons_of_mem _ (List.mem_cons_of_mem _ (List.mem_cons_of_mem _ (List.mem_cons_self ..)))))))))),by kernel_rfl,by kernel_rfl⟩
  ·exact⟨"doffer/api.ErrVersion",_,List.mem_cons_of_mem _ (List.mem_cons_of_mem _ (List.mem_cons_of_mem _ (List.mem_cons_of_mem _ (List.mem_cons_of_mem _ (List.mem_cons_of_mem _ (List.mem_cons_of_mem _ (List.mem_cons_of_mem _ (List.mem_cons_of_mem _ (List.mem_cons_of_mem _ (List.mem_cons_of_mem _ (List.mem_cons_self ..))))))))))),by kernel_rfl,by kernel_rfl⟩
  ·exact⟨"doffer/api.ErrIndex",_,List.mem_cons_of_mem _ (List.mem_cons_of_mem _ (List.mem_cons_of_mem _ (List.mem_cons_of_mem _ (List.mem_cons_of_mem _ (List.mem_cons_of_mem _ (List.mem_cons_of_mem _ (List.mem_cons_of_mem _ (List.mem_cons_of_mem _ (List.mem_cons_of_mem _ (List.mem_cons_of_mem _ (List.mem_cons_of_mem _ (List.mem_cons_self ..)))))))))))),by kernel_rfl,by kernel_rfl⟩
  ·exact⟨"doffer/api.ErrFull",_,List.mem_cons_of_mem _ (List.mem_cons_of_mem _ (List.mem_cons_of_mem _ (List.mem_cons_of_mem _ (List.mem_cons_of_mem _ (List.mem_cons_of_mem _ (List.mem_cons_of_mem _ (List.mem_cons_of_mem _ (List.mem_cons_of_mem _ (List.mem_cons_of_mem _ (List.mem_cons_of_mem _ (List.mem_cons_of_mem _ (List.mem_cons_of_mem _ (List.mem_cons_self ..))))))))))))),by kernel_rfl,by kernel_rfl⟩
  ·exact⟨"doffer/api.ErrCredit",_,List.mem_cons_of_mem _ (List.mem_cons_of_mem _ (List.mem_cons_of_mem _ (List.mem_cons_of_mem _ (List.mem_cons_of_mem _ (List.mem_cons_of_mem _ (List.mem_cons_of_mem _ (List.mem_cons_of_mem _ (List.mem_cons_of_mem _ (List.mem_cons_of_mem _ (List.mem_cons_of_mem _ (List.mem_cons_of_mem _ (List.mem_cons_of_mem _ (List.mem_cons_of_mem _ (List.mem_cons_self ..)))))))))))))),by kernel_rfl,by kernel_rfl⟩
  ·exact⟨"doffer/api.ErrNone",_,List.mem_cons_of_mem _ (List.mem_cons_of_mem _ (List.mem_cons_of_mem _ (List.mem_cons_of_mem _ (List.mem_cons_of_mem _ (List.mem_cons_of_mem _ (List.mem_cons_of_mem _ (List.mem_cons_of_mem _ (List.mem_cons_of_mem _ (List.mem_cons_of_mem _ (List.mem_cons_of_mem _ (List.mem_cons_of_mem _ (List.mem_cons_of_mem _ (List.mem_cons_of_mem _ (List.mem_cons_of_mem _ (List.mem_cons_self ..))))))))))))))),by kernel_rfl,by kernel_rfl⟩
  ·exact⟨"doffer/api.ErrState",_,List.mem_cons_of_mem _ (List.mem_cons_of_mem _ (List.mem_cons_of_mem _ (List.mem_cons_of_mem _ (List.mem_cons_of_mem _ (List.mem_cons_of_mem _ (List.mem_cons_of_mem _ (List.mem_cons_of_mem _ (List.mem_cons_of_mem _ (List.mem_cons_of_mem _ (List.mem_cons_of_mem _ (List.mem_cons_of_mem _ (List.mem_cons_of_mem _ (List.mem_cons_of_mem _ (List.mem_cons_of_mem _ (List.mem_cons_of_mem _ (List.mem_cons_self ..)))))))))))))))),by kernel_rfl,by kernel_rfl⟩
  ·exact⟨"doffer/api.ErrParked",_,List.mem_cons_of_mem _ (List.mem_cons_of_mem _ (List.mem_cons_of_mem _ (List.mem_cons_of_mem _ (List.mem_cons_of_mem _ (List.mem_cons_of_mem _ (List.mem_cons_of_mem _ (List.mem_cons_of_mem _ (List.mem_cons_of_mem _ (List.mem_cons_of_mem _ (List.mem_cons_of_mem _ (List.mem_cons_of_mem _ (List.mem_cons_of_mem _ (List.mem_cons_of_mem _ (List.mem_cons_of_mem _ (List.mem_cons_of_mem _ (List.mem_cons_of_mem _ (List.mem_cons_self ..))))))))))))))))),by kernel_rfl,by kernel_rfl⟩
  exact⟨"doffer/api.ErrTag",_,List.mem_cons_of_mem _ (List.mem_cons_of_mem _ (List.mem_cons_of_mem _ (List.mem_cons_of_mem _ (List.mem_cons_of_mem _ (List.mem_cons_of_mem _ (List.mem_cons_of_mem _ (List.mem_cons_of_mem _ (List.mem_cons_of_mem _ (List.mem_cons_of_mem _ (List.mem_cons_of_mem _ (List.mem_cons_of_mem _ (List.mem_cons_of_mem _ (List.mem_cons_of_mem _ (List.mem_cons_of_mem _ (List.mem_cons_of_mem _ (List.mem_cons_of_mem _ (List.mem_cons_of_mem _ (List.mem_cons_self ..)))))))))))))))))),by kernel_rfl,by kernel_rfl⟩
theorem r9:Reads Tryz.prog 9 eS (fun s=>s.size≤maxLen) (fun s=>s.size+1):= .str Tryz.underlying9 (by kernel_rfl)
theorem r22:Reads Tryz.prog 22 (eL eS) (fun l=>l.length≤maxLen∧ ∀x∈l,(fun s=>s.size≤maxLen) x) (fun l=>sumOf (fun s=>s.size+1) l+1):= .slice r9 Tryz.underlying22 (by kernel_rfl) (by decide)
theorem r3:Reads Tryz.prog 3 (eI .i64) (InK .i64) (fun _=>1):= .int Tryz.underlying3 (by kernel_rfl)
theorem r29:Reads Tryz.prog 29 (eL (eI .i64)) (fun l=>l.length≤maxLen∧ ∀x∈l,(InK .i64) x) (fun l=>sumOf (fun _=>1) l+1):= .slice r3 Tryz.underlying29 (by kernel_rfl) (by decide)
theorem r54:Reads Tryz.prog 54 (eI .u64) (InK .u64) (fun _=>1):= .int Tryz.underlying54 (by kernel_rfl)
theorem r56:Reads Tryz.prog 56 (eP (eI .u64) (eP (eI .u64) (eP (eI .u64) (eI .u64)))) (fun x=>(InK .u64) x.1∧(InK .u64) x.2.1∧(InK .u64) x.2.2.1∧(InK .u64) x.2.2.2) (fun _=>0):= .arr4 r54 Tryz.underlying56 (by kernel_rfl)
theorem r62:Reads Tryz.prog 62 eN NdQ (fun _=>0):= .node Tryz.underlying62 (by kernel_rfl) r3 rfl r56 rfl Tryz.underlying60 (by kernel_rfl) rfl r3 rfl r3 rfl r9 rfl
theorem r64:Reads Tryz.prog 64 (eP (eL (eI .i64)) (eP eN (eP (eI .i64) (eI .i64)))) (fun x=>(fun l=>l.length≤maxLen∧ ∀x∈l,(InK .i64) x) x.1∧(fun x=>NdQ x.1∧(fun x=>(InK .i64) x.1∧(InK .i64) x.2) x.2) x.2) (fun x=>(fun x=>(fun l=>sumOf (fun _=>1) l+1) x.1+(fun x=>(fun _=>0) x.1+(fun x=>(fun _=>1) x.1+(fun _=>1) x.2) x.2) x.2) x+1):=by
  refine Reads.struct (e:=(eP (eL (eI .i64)) (eP eN (eP (eI .i64) (eI .i64))))) (Q:=(fun x=>(fun l=>l.length≤maxLen∧ ∀x∈l,(InK .i64) x) x.1∧(fun x=>NdQ x.1∧(fun x=>(InK .i64) x.1∧(InK .i64) x.2) x.2) x.2)) (m:=(fun x=>(fun l=>sumOf (fun _=>1) l+1) x.1+(fun x=>(fun _=>0) x.1+(fun x=>(fun _=>1) x.1+(fun _=>1) x.2) x.2) x.2)) Tryz.underlying64 (by kernel_rfl) ?_;refine ReadsFs.cons (e:=(eL (eI .i64))) (e2:=(eP eN (eP (eI .i64) (eI .i64)))) (Q:=(fun l=>l.length≤maxLen∧ ∀x∈l,(InK .i64) x)) (Q2:=(fun x=>NdQ x.1∧(fun x=>(InK .i64) x.1∧(InK .i64) x.2) x.2)) (m:=(fun l=>sumOf (fun _=>1) l+1)) (m2:=(fun x=>(fun _=>0) x.1+(fun x=>(fun _=>1) x.1+(fun _=>1) x.2) x.2)) r29 rfl ?_;refine ReadsFs.cons (e:=eN) (e2:=(eP (eI .i64) (eI .i64))) (Q:=NdQ) (Q2:=(fun x=>(InK .i64) x.1∧(InK .i64) x.2)) (m:=(fun _=>0)) (m2:=(fun x=>(fun _=>1) x.1+(fun _=>1) x.2)) r62 rfl ?_;refine ReadsFs.cons (e:=(eI .i64)) (e2:=(eI .i64)) (Q:=(InK .i64)) (Q2:=(InK .i64)) (m:=(fun _=>1)) (m2:=(fun _=>1)) r3 rfl ?_;exact .one r3 rfl
theorem r23:Reads Tryz.prog 23 (eL (eP (eL (eI .i64)) (eP eN (eP (eI .i64) (eI .i64))))) (fun l=>l.length≤maxLen∧ ∀x∈l,(fun x=>(fun l=>l.length≤maxLen∧ ∀x∈l,(InK .i64) x) x.1∧(fun x=>NdQ x.1∧(fun x=>(InK .i64) x.1∧(InK .i64) x.2) x.2) x.2) x) (fun l=>sumOf (fun x=>(fun x=>(fun l=>sumOf (fun _=>1) l+1) x.1+(fun x=>(fun _=>0) x.1+(fun x=>(fun _=>1) x.1+(fun _=>1) x.2) x.2) x.2) x+1) l+1):= .slice r64 Tryz.underlying23 (by kernel_rfl) (by decide)
theorem r25:Reads Tryz.prog 25 (eP (eL eS) (eP (eL eS) (eL (eP (eL (eI .i64)) (eP eN (eP (eI .i64) (eI .i64))))))) (fun x=>(fun l=>l.length≤maxLen∧ ∀x∈l,(fun s=>s.size≤maxLen) x) x.1∧(fun x=>(fun l=>l.length≤maxLen∧ ∀x∈l,(fun s=>s.size≤maxLen) x) x.1∧(fun l=>l.length≤maxLen∧ ∀x∈l,(fun x=>(fun l=>l.length≤maxLen∧ ∀x∈l,(InK .i64) x) x.1∧(fun x=>NdQ x.1∧(fun x=>(InK .i64) x.1∧(InK .i64) x.2) x.2) x.2) x) x.2) x.2) (fun x=>(fun x=>(fun l=>sumOf (fun s=>s.size+1) l+1) x.1+(fun x=>(fun l=>sumOf (fun s=>s.size+1) l+1) x.1+(fun l=>sumOf (fun x=>(fun x=>(fun l=>sumOf (fun _=>1) l+1) x.1+(fun x=>(fun _=>0) x.1+(fun x=>(fun _=>1) x.1+(fun _=>1) x.2) x.2) x.2) x+1) l+1) x.2) x.2) x+1):=by
  refine Reads.struct (e:=(eP (eL eS) (eP (eL eS) (eL (eP (eL (eI .i64)) (eP eN (eP (eI .i64) (eI .i64)))))))) (Q:=(fun x=>(fun l=>l.length≤maxLen∧ ∀x∈l,(fun s=>s.size≤maxLen) x) x.1∧(fun x=>(fun l=>l.length≤maxLen∧ ∀x∈l,(fun s=>s.size≤maxLen) x) x.1∧(fun l=>l.length≤maxLen∧ ∀x∈l,(fun x=>(fun l=>l.length≤maxLen∧ ∀x∈l,(InK .i64) x) x.1∧(fun x=>NdQ x.1∧(fun x=>(InK .i64) x.1∧(InK .i64) x.2) x.2) x.2) x) x.2) x.2)) (m:=(fun x=>(fun l=>sumOf (fun s=>s.size+1) l+1) x.1+(fun x=>(fun l=>sumOf (fun s=>s.size+1) l+1) x.1+(fun l=>sumOf (fun x=>(fun x=>(fun l=>sumOf (fun _=>1) l+1) x.1+(fun x=>(fun _=>0) x.1+(fun x=>(fun _=>1) x.1+(fun _=>1) x.2) x.2) x.2) x+1) l+1) x.2) x.2)) Tryz.underlying25 (by kernel_rfl) ?_;refine ReadsFs.cons (e:=(eL eS)) (e2:=(eP (eL eS) (eL (eP (eL (eI .i64)) (eP eN (eP (eI .i64) (eI .i64))))))) (Q:=(fun l=>l.length≤maxLen∧ ∀x∈l,(fun s=>s.size≤maxLen) x)) (Q2:=(fun x=>(fun l=>l.length≤maxLen∧ ∀x∈l,(fun s=>s.size≤maxLen) x) x.1∧(fun l=>l.length≤maxLen∧ ∀x∈l,(fun x=>(fun l=>l.length≤maxLen∧ ∀x∈l,(InK .i64) x) x.1∧(fun x=>NdQ x.1∧(fun x=>(InK .i64) x.1∧(InK .i64) x.2) x.2) x.2) x) x.2)) (m:=(fun l=>sumOf (fun s=>s.size+1) l+1)) (m2:=(fun x=>(fun l=>sumOf (fun s=>s.size+1) l+1) x.1+(fun l=>sumOf (fun x=>(fun x=>(fun l=>sumOf (fun _=>1) l+1) x.1+(fun x=>(fun _=>0) x.1+(fun x=>(fun _=>1) x.1+(fun _=>1) x.2) x.2) x.2) x+1) l+1) x.2)) r22 rfl ?_
  refine ReadsFs.cons (e:=(eL eS)) (e2:=(eL (eP (eL (eI .i64)) (eP eN (eP (eI .i64) (eI .i64)))))) (Q:=(fun l=>l.length≤maxLen∧ ∀x∈l,(fun s=>s.size≤maxLen) x)) (Q2:=(fun l=>l.length≤maxLen∧ ∀x∈l,(fun x=>(fun l=>l.length≤maxLen∧ ∀x∈l,(InK .i64) x) x.1∧(fun x=>NdQ x.1∧(fun x=>(InK .i64) x.1∧(InK .i64) x.2) x.2) x.2) x)) (m:=(fun l=>sumOf (fun s=>s.size+1) l+1)) (m2:=(fun l=>sumOf (fun x=>(fun x=>(fun l=>sumOf (fun _=>1) l+1) x.1+(fun x=>(fun _=>0) x.1+(fun x=>(fun _=>1) x.1+(fun _=>1) x.2) x.2) x.2) x+1) l+1)) r22 rfl ?_;exact .one r23 rfl
structure Came(l1:List ByteArray)(l4:List ByteArray)(l7:List ((List Int)×Nd×Int×Int)):Prop where
  hArg0:(fun x=>(fun l=>l.length≤maxLen∧ ∀x∈l,(fun s=>s.size≤maxLen) x) x.1∧(fun x=>(fun l=>l.length≤maxLen∧ ∀x∈l,(fun s=>s.size≤maxLen) x) x.1∧(fun l=>l.length≤maxLen∧ ∀x∈l,(fun x=>(fun l=>l.length≤maxLen∧ ∀x∈l,(InK .i64) x) x.1∧(fun x=>NdQ x.1∧(fun x=>(InK .i64) x.1∧(InK .i64) x.2) x.2) x.2) x) x.2) x.2) (l1,l4,l7)
theorem contract(pure: ∀l1 l4 l7,Came l1 l4 l7→ ∃N,F_64 N l1 l4 l7=some true)
    (H:Type) (enc:TypeId×Value→H) (W:World) (base:Nat) (args:Array Value) (ds gs:List (DataW H)) (before:List MemPlace)
    (hval: ∀(j:Nat) t v,Tryz.f3.params[j]? =some t→args[j]? =some v→Value.okWide Tryz.prog W .any base t v)
    (hW:DataW.Whole enc Tryz.prog Tryz.f3.params.toList Rows.nfaBuildSpec.vars false W args.toList ds gs before) (hL:laidMetH Tryz.prog Rows.nfaBuildRow.laid W):
    Calls Tryz.prog 3 args W fun e W'=> ∃v,e= .returned v∧Rows.nfaBuildSpec.post enc Tryz.prog Tryz.f3 false true false false W args v W':=by
  have hW':=hW;obtain⟨p,q,hA0,hV,rfl,hfz,hnd⟩:=hW;have hA:DataW.TrodAll enc Tryz.prog W 0 (fun _=>true) true Tryz.f3.params.toList args.toList ds p:=hA0;rw[Tryz.params3]at hA hval;obtain⟨w0,vs0,d0,ds0,p0,q0,hv0,rfl,rfl,h0,r0⟩:=trodAll_cons hA;obtain⟨rfl,rfl,rfl⟩:=trodAll_nil r0;obtain rfl:args= #[w0]:=by cases args;simp_all
  obtain⟨rfl,rfl⟩:=trodVars_none hV;obtain⟨cs0,rfl,sz0⟩:=okWide_struct Tryz.underlying25 (hval 0 25 w0 rfl rfl);obtain⟨_,h0⟩:=h0;obtain⟨a0,k0,u0,_⟩:=r25.rd h0;obtain⟨cs0⟩:=cs0;replace k0:(eP (eL eS) (eP (eL eS) (eL (eP (eL (eI .i64)) (eP eN (eP (eI .i64) (eI .i64))))))).rd (hv W) a0 cs0:=k0;obtain⟨l1,l4,l7⟩:=a0;obtain⟨_,_,rfl,⟨v2,rfl,g3⟩,⟨_,_,rfl,⟨v5,rfl,g6⟩,⟨v8,rfl,g9⟩⟩⟩:=k0;obtain⟨N,hF⟩:=pure _ _ _ ⟨u0⟩;obtain⟨ge,gle⟩:=errs hL;refine(c_3 (Hp.start W) gle g3 g6 g9 hF).mono fun e W' he=>?_;obtain⟨v,rfl,_,x,rfl,rfl,_,Hend⟩:=he
  exact⟨_,rfl,post_law (tb:=4) laidOut (fun t ht=>by
    rw[Tryz.params3]at ht;obtain rfl:t=25:=by simpa using ht
    exact⟨by kernel_rfl,by decide+kernel⟩) rfl ⟨rfl,rfl,rfl⟩ rfl Tryz.underlying4 hW' Hend.below⟩
theorem reads(os:Os){H:Type}(enc:TypeId×Value→H): ∃places,DataW.whole enc Tryz.prog ((World.laidAll Tryz.prog os Rows.nfaBuildRow.laid).forCall (fun _ _=>0) ⟨#[], #[.agg #[.slice none 0 0,.slice none 0 0,.slice none 0 0]],[]⟩).memory Tryz.f3.params.toList Rows.nfaBuildSpec.vars false
    (#[.agg #[.slice none 0 0,.slice none 0 0,.slice none 0 0]]:Array Value).toList 8=some ([.agg [.nil,.nil,.nil]],[],places):=
  ⟨[],by kernel_rfl⟩
set_option maxRecDepth 100000 in
theorem lifted(pure: ∀l1 l4 l7,Came l1 l4 l7→ ∃N,F_64 N l1 l4 l7=some true)(os:Os)(started:os.Started)(H:Type)(enc:TypeId×Value→H)(F:Stop.Interp):
    ReturnsInHanded {} Tryz.checked os 3 .any ((OpenSpec.ofChange Rows.nfaBuildSpec).preRow enc Tryz.prog Tryz.f3 Rows.nfaBuildRow.domain false Rows.nfaBuildRow.laid) (((OpenSpec.ofChange Rows.nfaBuildSpec).at F).post enc Tryz.prog Tryz.f3 false true false false):=by
  obtain⟨places,hx⟩:=reads os enc
  refine returnsInHanded_of_row (C:=Tryz.checked) (s:=OpenSpec.ofChange Rows.nfaBuildSpec) own started (by kernel_rfl) Tryz.func3
    (witness_row_atRef (enc:=enc) (C:=Tryz.checked) false (World.laidAll Tryz.prog os Rows.nfaBuildRow.laid) #[.agg #[.slice none 0 0,.slice none 0 0,.slice none 0 0]] (World.laidAll_os _ _ _) (by kernel_rfl) (by kernel_rfl) (by kernel_rfl)
      (OpenSpec.preRow_of_cond 8 hx (by kernel_rfl) (fun k hk=>by cases hk) (by kernel_rfl) (met os _))) ?_
  intro W base args ds gs before hval hW _ _ _ hL _ _;exact contract pure H enc W base args ds gs before hval hW hL
theorem cl1:(Rows.nfaBuildRow.inPlace==Tryz.pinned.checked.prog.inPlace 3)=true:=by kernel_rfl
theorem cl2:(Rows.nfaBuildRow.unfollowed==Tryz.pinned.checked.prog.unfollowed 3)=true:=by kernel_rfl
theorem cl3:(Rows.nfaBuildRow.recurses==Tryz.pinned.checked.prog.recurses 3)=true:=by kernel_rfl
theorem cl4:(Rows.nfaBuildRow.named==Tryz.pinned.checked.prog.varsNamed 3)=true:=by kernel_rfl
theorem cl5:laidOutB Tryz.pinned.checked.prog=true:=laidOut
theorem closed:joinedFacts Tryz.pinned.checked.prog 3 Tryz.f3 (OpenSpec.ofChange Rows.nfaBuildSpec).bare Rows.nfaBuildRow=true:=by
  unfold joinedFacts;rw[cl1,cl2,cl3,cl4,cl5]
  kernel_rfl
end NfaBuild
end Go.Proofs.YtmolobogpjddjaaGreatDoor
