import Derived.Test.YtchjfkdljnmmgaaGreatDoorProductAlikeE3
import Derived.Test.YtchjfkdljnmmgaaGreatDoorProductAlikec
import Derived.Test.YtchjfkdljnmmgaaGreatDoorCards
import Derived.Test.YtchjfkdljnmmgaaGreatDoorTie
import Derived.Deep.DeepHandedRow
import Derived.Deep.DeepWitnessRowRef
import Derived.LaidMore
import Derived.Lay
import Derived.ProofKit
namespace Go.Proofs.YtchjfkdljnmmgaaGreatDoor
namespace ProductAlike
open Go Go.Eng Go.ChangeShapes Go.WideShapes Go.ChangeAt Go.RowKit
set_option maxRecDepth 100000
theorem own:ownKnob Tryz.prog.godebug=none:=by kernel_rfl
theorem laidOut:laidOutB Tryz.prog=true:=by kernel_rfl
theorem met(os:Os)(args:Array Value):laidMetH Tryz.prog Rows.productAlikeRow.laid ((World.laidAll Tryz.prog os Rows.productAlikeRow.laid).forCall (fun _ _=>0) ⟨#[],args,[]⟩).memory:=by
  rw[MakeChecks.laidMetH_plain _ _ _ (by kernel_rfl)];exact laidMet_laidAll _ (by kernel_rfl) (by kernel_rfl)
theorem star: "*" ++ "errors.errorString" = "*errors.errorString" :=by decide
theorem row373(u:TypeId)(h:Tryz.prog.typeName? 3 u=some "*errors.errorString"):u=373:=
  typeName_ptr_named (nm:= "errors.errorString") (by rw[star];kernel_rfl) (by kernel_rfl) (by decide) u (by rw[star];exact h)
theorem errs{W:World}(h:laidMetH Tryz.prog Rows.productAlikeRow.laid W): ∃ge,GErrs (hv W) 373 errIds ge:=by
  rw[MakeChecks.laidMetH_plain _ _ _ (by kernel_rfl)]at h;refine gErrs_of (nm:= "*errors.errorString") (ti:=36) (te:=396) (ts:=9) ⟨Tryz.underlying36,row373,Tryz.underlying373,Tryz.underlying396,rfl,rfl,Tryz.underlying9,by kernel_rfl,by kernel_rfl⟩ h fun k hk=>?_;have hk:k=0∨k=1∨k=2∨k=3∨k=4∨k=5∨k=6∨k=7∨k=8∨k=12∨k=14:=by simpa[errIds]using hk
  rcases hk with rfl|rfl|rfl|rfl|rfl|rfl|rfl|rfl|rfl|rfl|rfl
  ·exact⟨"doffer/api.ErrRange",_,List.mem_cons_of_mem _ (List.mem_cons_of_mem _ (List.mem_cons_self ..)),by kernel_rfl,by kernel_rfl⟩
  ·exact⟨"doffer/api.ErrShort",_,List.mem_cons_of_mem _ (List.mem_cons_of_mem _ (List.mem_cons_of_mem _ (List.mem_cons_self ..))),by kernel_rfl,by kernel_rfl⟩
  ·exact⟨"doffer/api.ErrLong",_,List.mem_cons_of_mem _ (List.mem_cons_of_mem _ (List.mem_cons_of_mem _ (List.mem_cons_of_mem _ (List.mem_cons_self ..)))),by kernel_rfl,by kernel_rfl⟩
  ·exact⟨"doffer/api.ErrForm",_,List.mem_cons_of_mem _ (List.mem_cons_of_mem _ (List.mem_cons_of_mem _ (List.mem_cons_of_mem _ (List.mem_cons_of_mem _ (List.mem_cons_self ..))))),by kernel_rfl,by kernel_rfl⟩
  ·exact⟨"doffer/api.ErrName",_,List.mem_cons_of_mem _ (List.mem_cons_of_mem _ (List.mem_cons_of_mem _ (List.mem_cons_of_mem _ (List.mem_cons_of_mem _ (List.mem_cons_of_mem _ (List.mem_cons_self ..)))))),by kernel_rfl,by kernel_rfl⟩
  ·exact⟨"doffer/api.ErrDup",_,List.mem_cons_of_mem _ (List.mem_cons_of_mem _ (List.mem_cons_of_mem _ (List.mem_cons_of_mem _ (List.mem_cons_of_mem _ (List.mem_cons_of_mem _ (List.mem_cons_of_mem _ (List.mem_cons_self ..))))))),by kernel_rfl,by kernel_rfl⟩
  ·exact⟨"doffer/api.ErrDepth",_,List.mem_cons_of_mem _ (List.mem_cons_of_mem _ (List.mem_cons_of_mem _ (List.mem_cons_of_mem _ (List.mem_cons_of_mem _ (List.mem_cons_of_mem _ (List.mem_cons_of_mem _ (List.mem_cons_of_mem _ (List.mem_cons_self ..)))))))),by kernel_rfl,by kernel_rfl⟩
  ·exact⟨"doffer/api.ErrLoop",_,List.mem_cons_of_mem _ (List.mem_cons_of_mem _ (List.mem_cons_of_mem _ (List.mem_cons_of_mem _ (List.mem_cons_of_mem _ (List.mem_cons_of_mem _ (List.mem_cons_of_mem _ (List.mem_cons_of_mem _ (List.mem_cons_of_mem _ (List.mem_cons_self ..))))))))),by kernel_rfl,by kernel_rfl⟩
  ·exact⟨"doffer/api.ErrLimit",_,List.mem_cons_of_mem _ (List.mem_cons_of_mem _ (List.mem_cons_of_mem _ (List.mem_cons_of_mem _ (List.mem_cons_of_mem _ (List.mem_cons_of_mem _ (List.mem_cons_of_mem _ (List.mem_cons_of_mem _ (List.mem_cons_of_mem _ (List.mem_cons_of_mem _ (List.mem_cons_self ..)))))))))),by kernel_rfl,by kernel_rfl⟩
  ·exact⟨"doffer/api.ErrFull",_,List.mem_cons_of_mem _ (List.mem_cons_of_mem _ (List.mem_cons_of_mem _ (List.mem_cons_of_mem _ (List.mem_cons_of_mem _ (List.mem_cons_of_mem _ (List.mem_cons_of_mem _ (List.mem_cons_of_mem _ (List.mem_cons_of_mem _ (List.mem_cons_of_mem _ (List.mem_cons_of_mem _ (List.mem_cons_self ..))))))))))),by kernel_rfl,by kernel_rfl⟩
  exact⟨"doffer/api.ErrNone",_,List.mem_cons_of_mem _ (List.mem_cons_of_mem _ (List.mem_cons_of_mem _ (List.mem_cons_of_mem _ (List.mem_cons_of_mem _ (List.mem_cons_of_mem _ (List.mem_cons_of_mem _ (List.mem_cons_of_mem _ (List.mem_cons_of_mem _ (List.mem_cons_of_mem _ (List.mem_cons_of_mem _ (List.mem_cons_of_mem _ (List.mem_cons_self ..)))))))))))),by kernel_rfl,by kernel_rfl⟩
theorem globTab18:Tryz.prog.globalNamed "math/bits.deBruijn64tab" =some 18:=by kernel_rfl
theorem table18{W:World}(h:laidMetH Tryz.prog Rows.productAlikeRow.laid W):GTab (hv W) 18 .u8 tab_math_bits_deBruijn64tab:=by
  rw[MakeChecks.laidMetH_plain _ _ _ (by kernel_rfl)]at h;exact gTab_of (t:=315) (e:=5) (n:=64) (laid:=Rows.productAlikeRow.laid) globTab18 (by kernel_rfl) Tryz.underlying315 Tryz.underlying5 (by kernel_rfl) (by kernel_rfl) (List.mem_cons_self ..) h
theorem r3:Reads Tryz.prog 3 (eI .i64) (InK .i64) (fun _=>1):= .int Tryz.underlying3 (by kernel_rfl)
theorem r68:Reads Tryz.prog 68 (eA 256 (eI .i64)) (fun l=>l.length=256∧ ∀x∈l,(InK .i64) x) (fun l=>sumOf (fun _=>1) l+1):= .array r3 Tryz.underlying68 (by kernel_rfl)
theorem r32:Reads Tryz.prog 32 (eL (eA 256 (eI .i64))) (fun l=>l.length≤maxLen∧ ∀x∈l,(fun l=>l.length=256∧ ∀x∈l,(InK .i64) x) x) (fun l=>sumOf (fun l=>sumOf (fun _=>1) l+1) l+1):= .slice r68 Tryz.underlying32 (by kernel_rfl) (by decide)
theorem r23:Reads Tryz.prog 23 (eL (eI .i64)) (fun l=>l.length≤maxLen∧ ∀x∈l,(InK .i64) x) (fun l=>sumOf (fun _=>1) l+1):= .slice r3 Tryz.underlying23 (by kernel_rfl) (by decide)
theorem r34:Reads Tryz.prog 34 (eP (eL (eA 256 (eI .i64))) (eP (eL (eI .i64)) (eL (eI .i64)))) (fun x=>(fun l=>l.length≤maxLen∧ ∀x∈l,(fun l=>l.length=256∧ ∀x∈l,(InK .i64) x) x) x.1∧(fun x=>(fun l=>l.length≤maxLen∧ ∀x∈l,(InK .i64) x) x.1∧(fun l=>l.length≤maxLen∧ ∀x∈l,(InK .i64) x) x.2) x.2) (fun x=>(fun x=>(fun l=>sumOf (fun l=>sumOf (fun _=>1) l+1) l+1) x.1+(fun x=>(fun l=>sumOf (fun _=>1) l+1) x.1+(fun l=>sumOf (fun _=>1) l+1) x.2) x.2) x+1):=by
  refine Reads.struct (e:=(eP (eL (eA 256 (eI .i64))) (eP (eL (eI .i64)) (eL (eI .i64))))) (Q:=(fun x=>(fun l=>l.length≤maxLen∧ ∀x∈l,(fun l=>l.length=256∧ ∀x∈l,(InK .i64) x) x) x.1∧(fun x=>(fun l=>l.length≤maxLen∧ ∀x∈l,(InK .i64) x) x.1∧(fun l=>l.length≤maxLen∧ ∀x∈l,(InK .i64) x) x.2) x.2)) (m:=(fun x=>(fun l=>sumOf (fun l=>sumOf (fun _=>1) l+1) l+1) x.1+(fun x=>(fun l=>sumOf (fun _=>1) l+1) x.1+(fun l=>sumOf (fun _=>1) l+1) x.2) x.2)) Tryz.underlying34 (by kernel_rfl) ?_;refine ReadsFs.cons (e:=(eL (eA 256 (eI .i64)))) (e2:=(eP (eL (eI .i64)) (eL (eI .i64)))) (Q:=(fun l=>l.length≤maxLen∧ ∀x∈l,(fun l=>l.length=256∧ ∀x∈l,(InK .i64) x) x)) (Q2:=(fun x=>(fun l=>l.length≤maxLen∧ ∀x∈l,(InK .i64) x) x.1∧(fun l=>l.length≤maxLen∧ ∀x∈l,(InK .i64) x) x.2)) (m:=(fun l=>sumOf (fun l=>sumOf (fun _=>1) l+1) l+1)) (m2:=(fun x=>(fun l=>sumOf (fun _=>1) l+1) x.1+(fun l=>sumOf (fun _=>1) l+1) x.2)) r32 rfl ?_;refine ReadsFs.cons (e:=(eL (eI .i64))) (e2:=(eL (eI .i64))) (Q:=(fun l=>l.length≤maxLen∧ ∀x∈l,(InK .i64) x)) (Q2:=(fun l=>l.length≤maxLen∧ ∀x∈l,(InK .i64) x)) (m:=(fun l=>sumOf (fun _=>1) l+1)) (m2:=(fun l=>sumOf (fun _=>1) l+1)) r23 rfl ?_;exact .one r23 rfl
structure Came(l1:List (List Int))(l4:List Int)(l7:List Int)(l10:List (List Int))(l13:List Int)(l16:List Int):Prop where
  hArg0:(fun x=>(fun l=>l.length≤maxLen∧ ∀x∈l,(fun l=>l.length=256∧ ∀x∈l,(InK .i64) x) x) x.1∧(fun x=>(fun l=>l.length≤maxLen∧ ∀x∈l,(InK .i64) x) x.1∧(fun l=>l.length≤maxLen∧ ∀x∈l,(InK .i64) x) x.2) x.2) (l1,l4,l7)
  hArg1:(fun x=>(fun l=>l.length≤maxLen∧ ∀x∈l,(fun l=>l.length=256∧ ∀x∈l,(InK .i64) x) x) x.1∧(fun x=>(fun l=>l.length≤maxLen∧ ∀x∈l,(InK .i64) x) x.1∧(fun l=>l.length≤maxLen∧ ∀x∈l,(InK .i64) x) x.2) x.2) (l10,l13,l16)
theorem contract(pure: ∀l1 l4 l7 l10 l13 l16,Came l1 l4 l7 l10 l13 l16→ ∃N,F_53 N l1 l4 l7 l10 l13 l16=some true)
    (H:Type) (enc:TypeId×Value→H) (W:World) (base:Nat) (args:Array Value) (ds gs:List (DataW H)) (before:List MemPlace)
    (hval: ∀(j:Nat) t v,Tryz.f5.params[j]? =some t→args[j]? =some v→Value.okWide Tryz.prog W .any base t v)
    (hW:DataW.Whole enc Tryz.prog Tryz.f5.params.toList Rows.productAlikeSpec.vars false W args.toList ds gs before) (hL:laidMetH Tryz.prog Rows.productAlikeRow.laid W):
    Calls Tryz.prog 5 args W fun e W'=> ∃v,e= .returned v∧Rows.productAlikeSpec.post enc Tryz.prog Tryz.f5 false true false false W args v W':=by
  have hW':=hW;obtain⟨p,q,hA0,hV,rfl,hfz,hnd⟩:=hW;have hA:DataW.TrodAll enc Tryz.prog W 0 (fun _=>true) true Tryz.f5.params.toList args.toList ds p:=hA0;rw[Tryz.params5]at hA hval;obtain⟨w0,vs0,d0,ds0,p0,q0,hv0,rfl,rfl,h0,r0⟩:=trodAll_cons hA;obtain⟨w1,vs1,d1,ds1,p1,q1,hv1,rfl,rfl,h1,r1⟩:=trodAll_cons r0;subst hv1;obtain⟨rfl,rfl,rfl⟩:=trodAll_nil r1;obtain rfl:args= #[w0,w1]:=by cases args;simp_all
  obtain⟨rfl,rfl⟩:=trodVars_none hV;obtain⟨cs0,rfl,sz0⟩:=okWide_struct Tryz.underlying34 (hval 0 34 w0 rfl rfl);obtain⟨_,h0⟩:=h0;obtain⟨a0,k0,u0,_⟩:=r34.rd h0;obtain⟨cs0⟩:=cs0;replace k0:(eP (eL (eA 256 (eI .i64))) (eP (eL (eI .i64)) (eL (eI .i64)))).rd (hv W) a0 cs0:=k0;obtain⟨l1,l4,l7⟩:=a0;obtain⟨_,_,rfl,⟨v2,rfl,g3⟩,⟨_,_,rfl,⟨v5,rfl,g6⟩,⟨v8,rfl,g9⟩⟩⟩:=k0;obtain⟨cs1,rfl,sz1⟩:=okWide_struct Tryz.underlying34 (hval 1 34 w1 rfl rfl);obtain⟨_,h1⟩:=h1;obtain⟨a1,k1,u1,_⟩:=r34.rd h1;obtain⟨cs1⟩:=cs1;replace k1:(eP (eL (eA 256 (eI .i64))) (eP (eL (eI .i64)) (eL (eI .i64)))).rd (hv W) a1 cs1:=k1;obtain⟨l10,l13,l16⟩:=a1;obtain⟨_,_,rfl,⟨v11,rfl,g12⟩,⟨_,_,rfl,⟨v14,rfl,g15⟩,⟨v17,rfl,g18⟩⟩⟩:=k1;obtain⟨N,hF⟩:=pure _ _ _ _ _ _ ⟨u0,u1⟩;obtain⟨ge,gle⟩:=errs hL;refine(c_5 (Hp.start W) gle (table18 hL) g3 g6 g9 g12 g15 g18 hF).mono fun e W' he=>?_;obtain⟨v,rfl,_,x,rfl,rfl,_,Hend⟩:=he
  exact⟨_,rfl,post_law (tb:=4) laidOut (fun t ht=>by
    rw[Tryz.params5]at ht;obtain rfl:t=34:=by simpa using ht
    exact⟨by kernel_rfl,by decide+kernel⟩) rfl ⟨rfl,rfl,rfl⟩ rfl Tryz.underlying4 hW' Hend.below⟩
theorem reads(os:Os){H:Type}(enc:TypeId×Value→H): ∃places,DataW.whole enc Tryz.prog ((World.laidAll Tryz.prog os Rows.productAlikeRow.laid).forCall (fun _ _=>0) ⟨#[], #[.agg #[.slice none 0 0,.slice none 0 0,.slice none 0 0],.agg #[.slice none 0 0,.slice none 0 0,.slice none 0 0]],[]⟩).memory Tryz.f5.params.toList Rows.productAlikeSpec.vars false
    (#[.agg #[.slice none 0 0,.slice none 0 0,.slice none 0 0],.agg #[.slice none 0 0,.slice none 0 0,.slice none 0 0]]:Array Value).toList 8=some ([.agg [.nil,.nil,.nil],.agg [.nil,.nil,.nil]],[],places):=
  ⟨[],by kernel_rfl⟩
set_option maxRecDepth 100000 in
theorem lifted(pure: ∀l1 l4 l7 l10 l13 l16,Came l1 l4 l7 l10 l13 l16→ ∃N,F_53 N l1 l4 l7 l10 l13 l16=some true)(os:Os)(started:os.Started)(H:Type)(enc:TypeId×Value→H)(F:Stop.Interp):
    ReturnsInHanded {} Tryz.checked os 5 .any ((OpenSpec.ofChange Rows.productAlikeSpec).preRow enc Tryz.prog Tryz.f5 Rows.productAlikeRow.domain false Rows.productAlikeRow.laid) (((OpenSpec.ofChange Rows.productAlikeSpec).at F).post enc Tryz.prog Tryz.f5 false true false false):=by
  obtain⟨places,hx⟩:=reads os enc
  refine returnsInHanded_of_row (C:=Tryz.checked) (s:=OpenSpec.ofChange Rows.productAlikeSpec) own started (by kernel_rfl) Tryz.func5
    (witness_row_atRef (enc:=enc) (C:=Tryz.checked) false (World.laidAll Tryz.prog os Rows.productAlikeRow.laid) #[.agg #[.slice none 0 0,.slice none 0 0,.slice none 0 0],.agg #[.slice none 0 0,.slice none 0 0,.slice none 0 0]] (World.laidAll_os _ _ _) (by kernel_rfl) (by kernel_rfl) (by kernel_rfl)
      (OpenSpec.preRow_of_cond 8 hx (by kernel_rfl) (fun k hk=>by cases hk) (by kernel_rfl) (met os _))) ?_
  intro W base args ds gs before hval hW _ _ _ hL _ _;exact contract pure H enc W base args ds gs before hval hW hL
theorem cl1:(Rows.productAlikeRow.inPlace==Tryz.pinned.checked.prog.inPlace 5)=true:=by kernel_rfl
theorem cl2:(Rows.productAlikeRow.unfollowed==Tryz.pinned.checked.prog.unfollowed 5)=true:=by kernel_rfl
theorem cl3:(Rows.productAlikeRow.recurses==Tryz.pinned.checked.prog.recurses 5)=true:=by kernel_rfl
theorem cl4:(Rows.productAlikeRow.named==Tryz.pinned.checked.prog.varsNamed 5)=true:=by kernel_rfl
theorem cl5:laidOutB Tryz.pinned.checked.prog=true:=laidOut
theorem closed:joinedFacts Tryz.pinned.checked.prog 5 Tryz.f5 (OpenSpec.ofChange Rows.productAlikeSpec).bare Rows.productAlikeRow=true:=by
  unfold joinedFacts;rw[cl1,cl2,cl3,cl4,cl5]
  kernel_rfl
end ProductAlike
end Go.Proofs.YtchjfkdljnmmgaaGreatDoor
