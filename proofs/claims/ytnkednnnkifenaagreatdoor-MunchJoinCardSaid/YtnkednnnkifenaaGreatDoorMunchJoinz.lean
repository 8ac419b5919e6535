import Derived.Test.YtnkednnnkifenaaGreatDoorMunchJoinE2
import Derived.Test.YtnkednnnkifenaaGreatDoorMunchJoinb
import Derived.Test.YtnkednnnkifenaaGreatDoorCards
import Derived.Test.YtnkednnnkifenaaGreatDoorTie
import Derived.Deep.DeepHandedRow
import Derived.Deep.DeepWitnessRowRef
import Derived.LaidMore
import Derived.Lay
import Derived.ProofKit
namespace Go.Proofs.YtnkednnnkifenaaGreatDoor
namespace MunchJoin
open Go Go.Eng Go.ChangeShapes Go.WideShapes Go.ChangeAt Go.RowKit
set_option maxRecDepth 100000
theorem own:ownKnob Tryz.prog.godebug=none:=by kernel_rfl
theorem laidOut:laidOutB Tryz.prog=true:=by kernel_rfl
theorem met(os:Os)(args:Array Value):laidMetH Tryz.prog Rows.munchJoinRow.laid ((World.laidAll Tryz.prog os Rows.munchJoinRow.laid).forCall (fun _ _=>0) ⟨#[],args,[]⟩).memory:=by
  rw[MakeChecks.laidMetH_plain _ _ _ (by kernel_rfl)];exact laidMet_laidAll _ (by kernel_rfl) (by kernel_rfl)
theorem star: "*" ++ "errors.errorString" = "*errors.errorString" :=by decide
theorem row383(u:TypeId)(h:Tryz.prog.typeName? 3 u=some "*errors.errorString"):u=383:=
  typeName_ptr_named (nm:= "errors.errorString") (by rw[star];kernel_rfl) (by kernel_rfl) (by decide) u (by rw[star];exact h)
theorem errs{W:World}(h:laidMetH Tryz.prog Rows.munchJoinRow.laid W): ∃ge,GErrs (hv W) 383 errIds ge:=by
  rw[MakeChecks.laidMetH_plain _ _ _ (by kernel_rfl)]at h;refine gErrs_of (nm:= "*errors.errorString") (ti:=29) (te:=406) (ts:=9) ⟨Tryz.underlying29,row383,Tryz.underlying383,Tryz.underlying406,rfl,rfl,Tryz.underlying9,by kernel_rfl,by kernel_rfl⟩ h fun k hk=>?_;have hk:k=0∨k=1∨k=2∨k=3∨k=4∨k=5∨k=6∨k=7∨k=8∨k=12∨k=14:=by simpa[errIds]using hk
  rcases hk with rfl|rfl|rfl|rfl|rfl|rfl|rfl|rfl|rfl|rfl|rfl
  ·exact⟨"doffer/api.ErrForm",_,mm (mm (mm (mm (mm (ms))))),by kernel_rfl,by kernel_rfl⟩
  ·exact⟨"doffer/api.ErrLimit",_,mm (mm (mm (mm (mm (mm (mm (mm (mm (mm (ms)))))))))),by kernel_rfl,by kernel_rfl⟩
  ·exact⟨"doffer/api.ErrRange",_,mm (mm (ms)),by kernel_rfl,by kernel_rfl⟩
  ·exact⟨"doffer/api.ErrShort",_,mm (mm (mm (ms))),by kernel_rfl,by kernel_rfl⟩
  ·exact⟨"doffer/api.ErrLong",_,mm (mm (mm (mm (ms)))),by kernel_rfl,by kernel_rfl⟩
  ·exact⟨"doffer/api.ErrName",_,mm (mm (mm (mm (mm (mm (ms)))))),by kernel_rfl,by kernel_rfl⟩
  ·exact⟨"doffer/api.ErrDup",_,mm (mm (mm (mm (mm (mm (mm (ms))))))),by kernel_rfl,by kernel_rfl⟩
  ·exact⟨"doffer/api.ErrDepth",_,mm (mm (mm (mm (mm (mm (mm (mm (ms)))))))),by kernel_rfl,by kernel_rfl⟩
  ·exact⟨"doffer/api.ErrLoop",_,mm (mm (mm (mm (mm (mm (mm (mm (mm (ms))))))))),by kernel_rfl,by kernel_rfl⟩
  ·exact⟨"doffer/api.ErrFull",_,mm (mm (mm (mm (mm (mm (mm (mm (mm (mm (mm (ms))))))))))),by kernel_rfl,by kernel_rfl⟩
  exact⟨"doffer/api.ErrNone",_,mm (mm (mm (mm (mm (mm (mm (mm (mm (mm (mm (mm (ms)))))))))))),by kernel_rfl,by kernel_rfl⟩
theorem globTab21:Tryz.prog.globalNamed "math/bits.deBruijn64tab" =some 21:=by kernel_rfl
theorem table21{W:World}(h:laidMetH Tryz.prog Rows.munchJoinRow.laid W):GTab (hv W) 21 .u8 tab_math_bits_deBruijn64tab:=by
  rw[MakeChecks.laidMetH_plain _ _ _ (by kernel_rfl)]at h;exact gTab_of (t:=361) (e:=5) (n:=64) (laid:=Rows.munchJoinRow.laid) globTab21 (by kernel_rfl) Tryz.underlying361 Tryz.underlying5 (by kernel_rfl) (by kernel_rfl) (ms) h
theorem r5:Reads Tryz.prog 5 (eI .u8) (InK .u8) (fun _=>1):= .int Tryz.underlying5 (by kernel_rfl)
theorem r22:Reads Tryz.prog 22 (eL (eI .u8)) (fun l=>l.length≤maxLen∧ ∀x∈l,(InK .u8) x) (fun l=>sumOf (fun _=>1) l+1):= .slice r5 Tryz.underlying22 (by kernel_rfl) (by decide)
theorem r3:Reads Tryz.prog 3 (eI .i64) (InK .i64) (fun _=>1):= .int Tryz.underlying3 (by kernel_rfl)
structure Came(l1:List Int)(l4:List Int)(n7:Int):Prop where
  hArg0:(fun l=>l.length≤maxLen∧ ∀x∈l,(InK .u8) x) l1
  hArg1:(fun l=>l.length≤maxLen∧ ∀x∈l,(InK .u8) x) l4
  hArg2:(InK .i64) n7
theorem contract(pure: ∀l1 l4 n7,Came l1 l4 n7→ ∃N,F_29 N l1 l4 n7=some true)
    (H:Type) (enc:TypeId×Value→H) (W:World) (base:Nat) (args:Array Value) (ds gs:List (DataW H)) (before:List MemPlace)
    (hval: ∀(j:Nat) t v,Tryz.f6.params[j]? =some t→args[j]? =some v→Value.okWide Tryz.prog W .any base t v)
    (hW:DataW.Whole enc Tryz.prog Tryz.f6.params.toList Rows.munchJoinSpec.vars false W args.toList ds gs before) (hL:laidMetH Tryz.prog Rows.munchJoinRow.laid W):
    Calls Tryz.prog 6 args W fun e W'=> ∃v,e= .returned v∧Rows.munchJoinSpec.post enc Tryz.prog Tryz.f6 false true false false W args v W':=by
  have hW':=hW;obtain⟨p,q,hA0,hV,rfl,hfz,hnd⟩:=hW;have hA:DataW.TrodAll enc Tryz.prog W 0 (fun _=>true) true Tryz.f6.params.toList args.toList ds p:=hA0;rw[Tryz.params6]at hA hval;obtain⟨w0,vs0,d0,ds0,p0,q0,hv0,rfl,rfl,h0,r0⟩:=trodAll_cons hA;obtain⟨w1,vs1,d1,ds1,p1,q1,hv1,rfl,rfl,h1,r1⟩:=trodAll_cons r0;subst hv1;obtain⟨w2,vs2,d2,ds2,p2,q2,hv2,rfl,rfl,h2,r2⟩:=trodAll_cons r1;subst hv2;obtain⟨rfl,rfl,rfl⟩:=trodAll_nil r2;obtain rfl:args= #[w0,w1,w2]:=by cases args;simp_all
  obtain⟨rfl,rfl⟩:=trodVars_none hV;obtain⟨ad0,ln0,cp0,rfl⟩:=okWide_slice Tryz.underlying22 (hval 0 22 w0 rfl rfl);obtain⟨_,h0⟩:=h0;obtain⟨l1,⟨_,e0,g3⟩,u0,_⟩:=r22.rd h0;obtain rfl:=(List.cons.inj e0).1;obtain⟨ad1,ln1,cp1,rfl⟩:=okWide_slice Tryz.underlying22 (hval 1 22 w1 rfl rfl);obtain⟨_,h1⟩:=h1;obtain⟨l4,⟨_,e1,g6⟩,u1,_⟩:=r22.rd h1;obtain rfl:=(List.cons.inj e1).1;obtain⟨z2,rfl⟩:=okWide_int Tryz.underlying3 (hval 2 3 w2 rfl rfl);obtain⟨_,h2⟩:=h2;obtain⟨n7,e2,u2,_⟩:=r3.rd h2;obtain rfl:z2=n7:=by have:=(List.cons.inj e2).1;injection this
  obtain⟨N,hF⟩:=pure _ _ _ ⟨u0,u1,u2⟩;obtain⟨ge,gle⟩:=errs hL;refine(c_6 (Hp.start W) gle (table21 hL) g3 g6 hF).mono fun e W' he=>?_;obtain⟨v,rfl,_,x,rfl,rfl,_,Hend⟩:=he
  exact⟨_,rfl,post_law (tb:=4) laidOut (fun t ht=>by
    rw[Tryz.params6]at ht;have ht:t=22∨t=3:=by simpa using ht
    rcases ht with rfl|rfl<;>exact⟨by kernel_rfl,by decide+kernel⟩) rfl ⟨rfl,rfl,rfl⟩ rfl Tryz.underlying4 hW' Hend.below⟩
theorem reads(os:Os){H:Type}(enc:TypeId×Value→H): ∃places,DataW.whole enc Tryz.prog ((World.laidAll Tryz.prog os Rows.munchJoinRow.laid).forCall (fun _ _=>0) ⟨#[], #[.slice none 0 0,.slice none 0 0,.int .i64 0],[]⟩).memory Tryz.f6.params.toList Rows.munchJoinSpec.vars false
    (#[.slice none 0 0,.slice none 0 0,.int .i64 0]:Array Value).toList 8=some ([.nil,.nil,.lit (.int .i64 0)],[],places):=
  ⟨[],by kernel_rfl⟩
set_option maxRecDepth 100000 in
theorem lifted(pure: ∀l1 l4 n7,Came l1 l4 n7→ ∃N,F_29 N l1 l4 n7=some true)(os:Os)(started:os.Started)(H:Type)(enc:TypeId×Value→H)(F:Stop.Interp):
    ReturnsInHanded {} Tryz.checked os 6 .any ((OpenSpec.ofChange Rows.munchJoinSpec).preRow enc Tryz.prog Tryz.f6 Rows.munchJoinRow.domain false Rows.munchJoinRow.laid) (((OpenSpec.ofChange Rows.munchJoinSpec).at F).post enc Tryz.prog Tryz.f6 false true false false):=by
  obtain⟨places,hx⟩:=reads os enc
  refine returnsInHanded_of_row (C:=Tryz.checked) (s:=OpenSpec.ofChange Rows.munchJoinSpec) own started (by kernel_rfl) Tryz.func6
    (witness_row_atRef (enc:=enc) (C:=Tryz.checked) false (World.laidAll Tryz.prog os Rows.munchJoinRow.laid) #[.slice none 0 0,.slice none 0 0,.int .i64 0] (World.laidAll_os _ _ _) (by kernel_rfl) (by kernel_rfl) (by kernel_rfl)
      (OpenSpec.preRow_of_cond 8 hx (by kernel_rfl) (fun k hk=>by cases hk) (by kernel_rfl) (met os _))) ?_
  intro W base args ds gs before hval hW _ _ _ hL _ _;exact contract pure H enc W base args ds gs before hval hW hL
theorem cl1:(Rows.munchJoinRow.inPlace==Tryz.pinned.checked.prog.inPlace 6)=true:=by kernel_rfl
theorem cl2:(Rows.munchJoinRow.unfollowed==Tryz.pinned.checked.prog.unfollowed 6)=true:=by kernel_rfl
theorem cl3:(Rows.munchJoinRow.recurses==Tryz.pinned.checked.prog.recurses 6)=true:=by kernel_rfl
theorem cl4:(Rows.munchJoinRow.named==Tryz.pinned.checked.prog.varsNamed 6)=true:=by kernel_rfl
theorem cl5:laidOutB Tryz.pinned.checked.prog=true:=laidOut
theorem closed:joinedFacts Tryz.pinned.checked.prog 6 Tryz.f6 (OpenSpec.ofChange Rows.munchJoinSpec).bare Rows.munchJoinRow=true:=by
  unfold joinedFacts;rw[cl1,cl2,cl3,cl4,cl5]
  kernel_rfl
end MunchJoin
end Go.Proofs.YtnkednnnkifenaaGreatDoor
