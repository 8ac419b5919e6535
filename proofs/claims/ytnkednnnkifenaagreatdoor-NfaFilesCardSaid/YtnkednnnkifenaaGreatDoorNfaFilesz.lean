import Derived.Test.YtnkednnnkifenaaGreatDoorNfaFilesE2
import Derived.Test.YtnkednnnkifenaaGreatDoorNfaFilesP7
import Derived.Test.YtnkednnnkifenaaGreatDoorCards
import Derived.Test.YtnkednnnkifenaaGreatDoorTie
import Derived.Deep.DeepHandedRow
import Derived.Deep.DeepWitnessRowRef
import Derived.LaidMore
import Derived.Lay
import Derived.ProofKit
namespace Go.Proofs.YtnkednnnkifenaaGreatDoor
namespace NfaFiles
open Go Go.Eng Go.ChangeShapes Go.WideShapes Go.ChangeAt Go.RowKit
set_option maxRecDepth 100000
theorem own:ownKnob Tryz.prog.godebug=none:=by kernel_rfl
theorem laidOut:laidOutB Tryz.prog=true:=by kernel_rfl
theorem met(os:Os)(args:Array Value):laidMetH Tryz.prog Rows.nfaFilesRow.laid ((World.laidAll Tryz.prog os Rows.nfaFilesRow.laid).forCall (fun _ _=>0) ⟨#[],args,[]⟩).memory:=by
  rw[MakeChecks.laidMetH_plain _ _ _ (by kernel_rfl)];exact laidMet_laidAll _ (by kernel_rfl) (by kernel_rfl)
theorem star: "*" ++ "errors.errorString" = "*errors.errorString" :=by decide
theorem row383(u:TypeId)(h:Tryz.prog.typeName? 3 u=some "*errors.errorString"):u=383:=
  typeName_ptr_named (nm:= "errors.errorString") (by rw[star];kernel_rfl) (by kernel_rfl) (by decide) u (by rw[star];exact h)
theorem errs{W:World}(h:laidMetH Tryz.prog Rows.nfaFilesRow.laid W): ∃ge,GErrs (hv W) 383 errIds ge:=by
  rw[MakeChecks.laidMetH_plain _ _ _ (by kernel_rfl)]at h;refine gErrs_of (nm:= "*errors.errorString") (ti:=29) (te:=406) (ts:=9) ⟨Tryz.underlying29,row383,Tryz.underlying383,Tryz.underlying406,rfl,rfl,Tryz.underlying9,by kernel_rfl,by kernel_rfl⟩ h fun k hk=>?_;have hk:k=0∨k=1∨k=2∨k=3∨k=4∨k=5∨k=6∨k=7∨k=8∨k=9∨k=10∨k=11∨k=12∨k=13∨k=14∨k=15∨k=16∨k=17:=by simpa[errIds]using hk
  rcases hk with rfl|rfl|rfl|rfl|rfl|rfl|rfl|rfl|rfl|rfl|rfl|rfl|rfl|rfl|rfl|rfl|rfl|rfl
  ·exact⟨"doffer/api.ErrForm",_,List.mem_cons_of_mem _ (List.mem_cons_of_mem _ (List.mem_cons_of_mem _ (List.mem_cons_of_mem _ (List.mem_cons_self ..)))),by kernel_rfl,by kernel_rfl⟩
  ·exact⟨"doffer/api.ErrLimit",_,List.mem_cons_of_mem _ (List.mem_cons_of_mem _ (List.mem_cons_of_mem _ (List.mem_cons_of_mem _ (List.mem_cons_of_mem _ (List.mem_cons_of_mem _ (List.mem_cons_of_mem _ (List.mem_cons_of_mem _ (List.mem_cons_of_mem _ (List.mem_cons_self ..))))))))),by kernel_rfl,by kernel_rfl⟩
  ·exact⟨"doffer/api.ErrRange",_,List.mem_cons_of_mem _ (List.mem_cons_self ..),by kernel_rfl,by kernel_rfl⟩
  ·exact⟨"doffer/api.ErrShort",_,List.mem_cons_of_mem _ (List.mem_cons_of_mem _ (List.mem_cons_self ..)),by kernel_rfl,by kernel_rfl⟩
  ·exact⟨"doffer/api.ErrLong",_,List.mem_cons_of_mem _ (List.mem_cons_of_mem _ (List.mem_cons_of_mem _ (List.mem_cons_self ..))),by kernel_rfl,by kernel_rfl⟩
  ·exact⟨"doffer/api.ErrName",_,List.mem_cons_of_mem _ (List.mem_cons_of_mem _ (List.mem_cons_of_mem _ (List.mem_cons_of_mem _ (List.mem_cons_of_mem _ (List.mem_cons_self ..))))),by kernel_rfl,by kernel_rfl⟩
  ·exact⟨"doffer/api.ErrDup",_,List.mem_cons_of_mem _ (List.mem_cons_of_mem _ (List.mem_cons_of_mem _ (List.mem_cons_of_mem _ (List.mem_cons_of_mem _ (List.mem_cons_of_mem _ (List.mem_cons_self ..)))))),by kernel_rfl,by kernel_rfl⟩
  ·exact⟨"doffer/api.ErrDepth",_,List.mem_cons_of_mem _ (List.mem_cons_of_mem _ (List.mem_cons_of_mem _ (List.mem_cons_of_mem _ (List.mem_cons_of_mem _ (List.mem_cons_of_mem _ (List.mem_cons_of_mem _ (List.mem_cons_self ..))))))),by kernel_rfl,by kernel_rfl⟩
  ·exact⟨"doffer/api.ErrLoop",_,List.mem_cons_of_mem _ (List.mem_cons_of_mem _ (List.mem_cons_of_mem _ (List.mem_cons_of_mem _ (List.mem_cons_of_mem _ (List.mem_cons_of_mem _ (List.mem_cons_of_mem _ (List.mem_cons_of_mem _ (List.mem_cons_self ..)))))))),by kernel_rfl,by kernel_rfl⟩
  ·exact⟨"doffer/api.ErrSum",_,List.mem_cons_of_mem _ (List.mem_cons_of_mem _ (List.mem_cons_of_mem _ (List.mem_cons_of_mem _ (List.mem_cons_of_mem _ (List.mem_cons_of_mem _ (List.mem_cons_of_mem _ (List.mem_cons_of_mem _ (List.mem_cons_of_mem _ (List.mem_cons_of_mem _ (List.mem_cons_self ..)))))))))),by kernel_rfl,by kernel_rfl⟩
  ·exact⟨"doffer/api.ErrVersion",_,List.mem_cons_of_mem _ (List.mem_cons_of_mem _ (List.mem_cons_of_mem _ (List.mem_cons_of_mem _ (List.mem_cons_of_mem _ (List.mem_cons_of_mem _ (List.mem_cons_of_mem _ (List.mem_cons_of_mem _ (List.mem_cons_of_mem _ (List.mem_cons_of_mem _ (List.mem_cons_of_mem _ (List.mem_cons_self ..))))))))))),by kernel_rfl,by kernel_rfl⟩
  ·exact⟨"doffer/api.ErrIndex",_,List.mem_cons_of_mem _ (List.mem_cons_of_mem _ (List.mem_cons_of_mem _ (List.mem_cons_of_mem _ (List.mem_cons_of_mem _ (List.mem_cons_of_mem _ (List.mem_cons_of_mem _ (List.mem_cons_of_mem _ (List.mem_cons_of_mem _ (List.mem_cons_of_mem _ (List.mem_cons_of_mem _ (List.mem_cons_of_mem _ (List.mem_cons_self ..)))))))))))),by kernel_rfl,by kernel_rfl⟩
  ·exact⟨"doffer/api.ErrFull",_,List.mem_cons_of_mem _ (List.mem_cons_of_mem _ (List.mem_cons_of_mem _ (List.mem_cons_of_mem _ (List.mem_cons_of_mem _ (List.mem_cons_of_mem _ (List.mem_cons_of_mem _ (List.mem_cons_of_mem _ (List.mem_cons_of_mem _ (List.mem_cons_of_mem _ (List.mem_cons_of_mem _ (List.mem_cons_of_mem _ (List.mem_cons_of_mem _ (List.mem_cons_self ..))))))))))))),by kernel_rfl,by kernel_rfl⟩
  ·exact⟨"doffer/api.ErrCredit",_,List.mem_cons_of_mem _ (List.mem_cons_of_mem _ (List.mem_cons_of_mem _ (List.mem_cons_of_mem _ (List.mem_cons_of_mem _ (List.mem_cons_of_mem _ (List.mem_cons_of_mem _ (List.mem_cons_of_mem _ (List.mem_cons_of_mem _ (List.mem_cons_of_mem _ (List.mem_cons_of_mem _ (List.mem_cons_of_mem _ (List.mem_cons_of_mem _ (List.mem_cons_of_mem _ (List.mem_cons_self ..)))))))))))))),by kernel_rfl,by kernel_rfl⟩
  ·exact⟨"doffer/api.ErrNone",_,List.mem_cons_of_mem _ (List.mem_cons_of_mem _ (List.mem_cons_of_mem _ (List.mem_cons_of_mem _ (List.mem_cons_of_mem _ (List.mem_cons_of_mem _ (List.mem_cons_of_mem _ (List.mem_cons_of_mem _ (List.mem_cons_of_mem _ (List.mem_cons_of_mem _ (List.mem_cons_of_mem _ (List.mem_cons_of_mem _ (List.mem_cons_of_mem _ (List.mem_cons_of_mem _ (List.mem_cons_of_mem _ (List.mem_cons_self ..))))))))))))))),by kernel_rfl,by kernel_rfl⟩
  ·exact⟨"doffer/api.ErrState",_,List.mem_cons_of_mem _ (List.mem_cons_of_mem _ (List.mem_cons_of_mem _ (List.mem_cons_of_mem _ (List.mem_cons_of_mem _ (List.mem_cons_of_mem _ (List.mem_cons_of_mem _ (List.mem_cons_of_mem _ (List.mem_cons_of_mem _ (List.mem_cons_of_mem _ (List.mem_cons_of_mem _ (List.mem_cons_of_mem _ (List.mem_cons_of_mem _ (List.mem_cons_of_mem _ (List.mem_cons_of_mem _ (List.mem_cons_of_mem _ (List.mem_cons_self ..)))))))))))))))),by kernel_rfl,by kernel_rfl⟩
  ·exact⟨"doffer/api.ErrParked",_,List.mem_cons_of_mem _ (List.mem_cons_of_mem _ (List.mem_cons_of_mem _ (List.mem_cons_of_mem _ (List.mem_cons_of_mem _ (List.mem_cons_of_mem _ (List.mem_cons_of_mem _ (List.mem_cons_of_mem _ (List.mem_cons_of_mem _ (List.mem_cons_of_mem _ (List.mem_cons_of_mem _ (List.mem_cons_of_mem _ (List.mem_cons_of_mem _ (List.mem_cons_of_mem _ (List.mem_cons_of_mem _ (List.mem_cons_of_mem _ (List.mem_cons_of_mem _ (List.mem_cons_self ..))))))))))))))))),by kernel_rfl,by kernel_rfl⟩
  exact⟨"doffer/api.ErrTag",_,List.mem_cons_of_mem _ (List.mem_cons_of_mem _ (List.mem_cons_of_mem _ (List.mem_cons_of_mem _ (List.mem_cons_of_mem _ (List.mem_cons_of_mem _ (List.mem_cons_of_mem _ (List.mem_cons_of_mem _ (List.mem_cons_of_mem _ (List.mem_cons_of_mem _ (List.mem_cons_of_mem _ (List.mem_cons_of_mem _ (List.mem_cons_of_mem _ (List.mem_cons_of_mem _ (List.mem_cons_of_mem _ (List.mem_cons_of_mem _ (List.mem_cons_of_mem _ (List.mem_cons_of_mem _ (List.mem_cons_self ..)))))))))))))))))),by kernel_rfl,by kernel_rfl⟩
theorem r5:Reads Tryz.prog 5 (eI .u8) (InK .u8) (fun _=>1):= .int Tryz.underlying5 (by kernel_rfl)
theorem r22:Reads Tryz.prog 22 (eL (eI .u8)) (fun l=>l.length≤maxLen∧ ∀x∈l,(InK .u8) x) (fun l=>sumOf (fun _=>1) l+1):= .slice r5 Tryz.underlying22 (by kernel_rfl) (by decide)
structure Came(l1:List Int):Prop where
  hArg0:(fun l=>l.length≤maxLen∧ ∀x∈l,(InK .u8) x) l1
theorem contract(pure: ∀l1,Came l1→ ∃N,F_73 N l1=some true)
    (H:Type) (enc:TypeId×Value→H) (W:World) (base:Nat) (args:Array Value) (ds gs:List (DataW H)) (before:List MemPlace)
    (hval: ∀(j:Nat) t v,Tryz.f3.params[j]? =some t→args[j]? =some v→Value.okWide Tryz.prog W .any base t v)
    (hW:DataW.Whole enc Tryz.prog Tryz.f3.params.toList Rows.nfaFilesSpec.vars false W args.toList ds gs before) (hL:laidMetH Tryz.prog Rows.nfaFilesRow.laid W):
    Calls Tryz.prog 3 args W fun e W'=> ∃v,e= .returned v∧Rows.nfaFilesSpec.post enc Tryz.prog Tryz.f3 false true false false W args v W':=by
  have hW':=hW;obtain⟨p,q,hA0,hV,rfl,hfz,hnd⟩:=hW;have hA:DataW.TrodAll enc Tryz.prog W 0 (fun _=>true) true Tryz.f3.params.toList args.toList ds p:=hA0;rw[Tryz.params3]at hA hval;obtain⟨w0,vs0,d0,ds0,p0,q0,hv0,rfl,rfl,h0,r0⟩:=trodAll_cons hA;obtain⟨rfl,rfl,rfl⟩:=trodAll_nil r0;obtain rfl:args= #[w0]:=by cases args;simp_all
  obtain⟨rfl,rfl⟩:=trodVars_none hV;obtain⟨ad0,ln0,cp0,rfl⟩:=okWide_slice Tryz.underlying22 (hval 0 22 w0 rfl rfl);obtain⟨_,h0⟩:=h0;obtain⟨l1,⟨_,e0,g3⟩,u0,_⟩:=r22.rd h0;obtain rfl:=(List.cons.inj e0).1;obtain⟨N,hF⟩:=pure _ ⟨u0⟩;obtain⟨ge,gle⟩:=errs hL;refine(c_3 (Hp.start W) gle g3 hF).mono fun e W' he=>?_;obtain⟨v,rfl,_,x,rfl,rfl,_,Hend⟩:=he
  exact⟨_,rfl,post_law (tb:=4) laidOut (fun t ht=>by
    rw[Tryz.params3]at ht;obtain rfl:t=22:=by simpa using ht
    exact⟨by kernel_rfl,by decide+kernel⟩) rfl ⟨rfl,rfl,rfl⟩ rfl Tryz.underlying4 hW' Hend.below⟩
theorem reads(os:Os){H:Type}(enc:TypeId×Value→H): ∃places,DataW.whole enc Tryz.prog ((World.laidAll Tryz.prog os Rows.nfaFilesRow.laid).forCall (fun _ _=>0) ⟨#[], #[.slice none 0 0],[]⟩).memory Tryz.f3.params.toList Rows.nfaFilesSpec.vars false
    (#[.slice none 0 0]:Array Value).toList 8=some ([.nil],[],places):=
  ⟨[],by kernel_rfl⟩
set_option maxRecDepth 100000 in
theorem lifted(pure: ∀l1,Came l1→ ∃N,F_73 N l1=some true)(os:Os)(started:os.Started)(H:Type)(enc:TypeId×Value→H)(F:Stop.Interp):
    ReturnsInHanded {} Tryz.checked os 3 .any ((OpenSpec.ofChange Rows.nfaFilesSpec).preRow enc Tryz.prog Tryz.f3 Rows.nfaFilesRow.domain false Rows.nfaFilesRow.laid) (((OpenSpec.ofChange Rows.nfaFilesSpec).at F).post enc Tryz.prog Tryz.f3 false true false false):=by
  obtain⟨places,hx⟩:=reads os enc
  refine returnsInHanded_of_row (C:=Tryz.checked) (s:=OpenSpec.ofChange Rows.nfaFilesSpec) own started (by kernel_rfl) Tryz.func3
    (witness_row_atRef (enc:=enc) (C:=Tryz.checked) false (World.laidAll Tryz.prog os Rows.nfaFilesRow.laid) #[.slice none 0 0] (World.laidAll_os _ _ _) (by kernel_rfl) (by kernel_rfl) (by kernel_rfl)
      (OpenSpec.preRow_of_cond 8 hx (by kernel_rfl) (fun k hk=>by cases hk) (by kernel_rfl) (met os _))) ?_
  intro W base args ds gs before hval hW _ _ _ hL _ _;exact contract pure H enc W base args ds gs before hval hW hL
theorem cl1:(Rows.nfaFilesRow.inPlace==Tryz.pinned.checked.prog.inPlace 3)=true:=by kernel_rfl
theorem cl2:(Rows.nfaFilesRow.unfollowed==Tryz.pinned.checked.prog.unfollowed 3)=true:=by kernel_rfl
theorem cl3:(Rows.nfaFilesRow.recurses==Tryz.pinned.checked.prog.recurses 3)=true:=by kernel_rfl
theorem cl4:(Rows.nfaFilesRow.named==Tryz.pinned.checked.prog.varsNamed 3)=true:=by kernel_rfl
theorem cl5:laidOutB Tryz.pinned.checked.prog=true:=laidOut
theorem closed:joinedFacts Tryz.pinned.checked.prog 3 Tryz.f3 (OpenSpec.ofChange Rows.nfaFilesSpec).bare Rows.nfaFilesRow=true:=by
  unfold joinedFacts;rw[cl1,cl2,cl3,cl4,cl5]
  kernel_rfl
end NfaFiles
end Go.Proofs.YtnkednnnkifenaaGreatDoor
