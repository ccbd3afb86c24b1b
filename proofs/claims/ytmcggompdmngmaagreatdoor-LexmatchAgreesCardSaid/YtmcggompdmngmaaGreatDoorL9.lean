/- A law holds for every input; no condition. -/
import Derived.Test.YtmcggompdmngmaaGreatDoorWz
import Derived.Test.YtmcggompdmngmaaGreatDoorWC
import Derived.Test.YtmcggompdmngmaaGreatDoorWG
import Derived.Test.YtmcggompdmngmaaGreatDoorWc
import Derived.Test.YtmcggompdmngmaaGreatDoorCards
import Derived.Test.YtmcggompdmngmaaGreatDoorTie
import Derived.Lay
import Derived.LaidMore
import Derived.ProofKit
import Derived.OpenShut
import Derived.ChangeMaps5
import Derived.Stop.Joined
import Derived.Deep.DeepHandedRow
set_option linter.all false
namespace Go.Proofs.YtmcggompdmngmaaGreatDoor
open Go.Ab Go.ChangeShapes Go.WideShapes Go.ChangeAt Go.RowKit
set_option maxRecDepth 100000
set_option maxHeartbeats 20000000
theorem za5 (os:Os):laidMetH Tryz.prog Rows.lexmatchAgreesRow.laid ((World.laidAll Tryz.prog os Rows.lexmatchAgreesRow.laid).forCall (fun _ _=>0) ⟨#[],#[.slice none 0 0,Value.agg #[.int .i64 0,.int .i64 0,.int .i64 0,.slice none 0 0,.slice none 0 0]],[]⟩).memory:=by
 rw[MakeChecks.laidMetH_plain _ _ _ (by kernel_rfl)]
 exact laidMet_laidAll _ (by kernel_rfl) (by kernel_rfl)
theorem z8d (os:Os) {H:Type} (enc:TypeId × Value→H):DataW.whole enc Tryz.prog ((World.laidAll Tryz.prog os Rows.lexmatchAgreesRow.laid).forCall (fun _ _=>0) ⟨#[],#[.slice none 0 0,Value.agg #[.int .i64 0,.int .i64 0,.int .i64 0,.slice none 0 0,.slice none 0 0]],[]⟩).memory Tryz.f9.params.toList Rows.lexmatchAgreesSpec.vars false #[.slice none 0 0,Value.agg #[.int .i64 0,.int .i64 0,.int .i64 0,.slice none 0 0,.slice none 0 0]].toList 8=some ([.nil,.agg [.lit (.int .i64 0),.lit (.int .i64 0),.lit (.int .i64 0),.nil,.nil]],[],[]):=by kernel_rfl
theorem z7t (os:Os) (started:os.Started) (H:Type) (enc:TypeId × Value→H) (F:Stop.Interp) :
 ReturnsInHanded {} Tryz.checked os 9 .any ((OpenSpec.ofChange Rows.lexmatchAgreesSpec).preRow enc Tryz.prog Tryz.f9 Rows.lexmatchAgreesRow.domain false Rows.lexmatchAgreesRow.laid) (((OpenSpec.ofChange Rows.lexmatchAgreesSpec).at F).post enc Tryz.prog Tryz.f9 false true false false):=by
 have hx:=z8d os enc
 refine returnsInHanded_of_row (C:=Tryz.checked) (s:=OpenSpec.ofChange Rows.lexmatchAgreesSpec) (by kernel_rfl) started (by kernel_rfl) Tryz.func9
  (witness_row_at (enc:=enc) (C:=Tryz.checked) false (World.laidAll Tryz.prog os Rows.lexmatchAgreesRow.laid) #[.slice none 0 0,Value.agg #[.int .i64 0,.int .i64 0,.int .i64 0,.slice none 0 0,.slice none 0 0]] (World.laidAll_os _ _ _) (by kernel_rfl) (by kernel_rfl) (by kernel_rfl)
    (OpenSpec.preRow_of_cond 8 hx (by kernel_rfl) (fun k hk=>by cases hk) (by kernel_rfl) (za5 os))) ?_
 intro W base args ds gs before hval0 hW h_1 h_2 h_3 hLaid h_4 h_5
 have hTab:=y0t hLaid
 obtain⟨τ,hO0,hO1,hD0,hD1⟩:=y5i hTab
 have hval:∀ (j:Nat) t v,Tryz.f9.params[j]? =some t→args[j]? =some v→Value.okWide Tryz.prog W .any base t v:=hval0
 have hW2:DataW.Whole enc Tryz.prog Tryz.f9.params.toList Rows.lexmatchAgreesSpec.vars false W args.toList ds gs before:=hW
 obtain⟨p,q,hA0,hV,rfl,hfz,hnd⟩:=hW
 have hA:DataW.TrodAll enc Tryz.prog W 0 (fun _=>true) true Tryz.f9.params.toList args.toList ds p:=hA0
 rw[Tryz.params9] at hA hval
 obtain⟨v0,vs0,d0,ds0,p0,q0,e0,rfl,rfl,h0,r0⟩:=trodAll_cons hA
 obtain⟨v1,vs1,d1,ds1,p1,q1,rfl,rfl,rfl,h1,r1⟩:=trodAll_cons r0
 obtain⟨rfl,rfl,rfl⟩:=trodAll_nil r1
 obtain rfl:args=#[v0,v1]:=by cases args;simp_all
 obtain⟨a0,f0,x0⟩:=y3j hTab.sep (hval 0 _ v0 rfl rfl) h0
 obtain⟨a1,f1,x1⟩:=ya3 hTab.sep (hval 1 _ v1 rfl rfl) h1
 have key:Calls Tryz.prog 9 #[v0,v1] W fun e W2=>∃ v,e=.returned v∧Rows.lexmatchAgreesSpec.post enc Tryz.prog Tryz.f9 false true false false W #[v0,v1] v W2:=by
  refine(zq7 (P:=Tryz.prog) (g0:=1) (g1:=2) (by decide) (vs:=[v0,v1]) (zx8 τ a0 f0 a1 f1) W hO0 hO1 hD0 hD1 rfl ?_).mono ?_
  · intro β j pp v hj hv
    match j,hj,hv with
    | 0,hj,hv=>simp at hj hv;subst hj;subst hv;exact .d _ _ x0
    | 1,hj,hv=>simp at hj hv;subst hj;subst hv;exact .d _ _ x1
  · rintro e W2 ⟨he,own2,hE⟩
    exact⟨_,he,zxf (P:=Tryz.prog) (tb:=4) (by kernel_rfl) (by kernel_rfl) hW2 hE rfl rfl (by kernel_rfl) (by kernel_rfl)⟩
 exact key
theorem lexmatchAgrees_said:Rows.LexmatchAgreesSaid :=
 OpenClaim.holds_of_cond 9 Tryz.f9 rfl rfl rfl rfl rfl rfl rfl ⟨rfl,rfl,rfl,rfl,rfl⟩ rfl rfl rfl rfl rfl (by kernel_rfl) Tryz.func9 (by kernel_rfl)
  (of_decide_eq_true (by kernel_rfl)) (by unfold Func.isWrapper;first|(rw[zAz (by decide +kernel)];kernel_rfl)|(rw[zAy (by decide +kernel)];exact⟨rfl,rfl⟩))
  (fun os started H enc _ F=>by rw[OpenClaim.pre_eq_preRow];exact z7t os started H enc F)
theorem z8i (f:FuncId) (fn:Func) (hf:Tryz.pinned.checked.prog.funcNamed "corpora/corporalaw21.LexmatchAgrees" =some f) (hfn:Tryz.pinned.checked.prog.funcs[f]? =some fn) :
 false=Tryz.pinned.checked.prog.looks []∧∀ (j:Nat) t,fn.params[j]? =some t→Tryz.pinned.checked.prog.wantsStandIn t=false:=by
 obtain rfl:f=9:=Option.some.inj ((show Tryz.prog.funcNamed "corpora/corporalaw21.LexmatchAgrees" =some 9 by kernel_rfl).symm.trans hf) |>.symm
 obtain rfl:fn=Tryz.f9:=(Option.some.inj (Tryz.func9.symm.trans hfn)).symm
 refine⟨by kernel_rfl,fun j t ht=>?_⟩
 rw[Tryz.params9] at ht
 have hm:t∈(#[22,51]:Array TypeId):=Array.mem_of_getElem? ht
 simp only[List.mem_toArray,zAc,List.not_mem_nil,or_false] at hm
 rcases hm with rfl|rfl
 · exact(show Tryz.prog.wantsStandIn 22=false by kernel_rfl)
 · exact(show Tryz.prog.wantsStandIn 51=false by kernel_rfl)
theorem lexmatchAgrees_card:Rows.LexmatchAgreesCardSaid :=
 Claim7.holds_tied_plain_at .later [] _ _ _ _ lexmatchAgrees_said (fun _ h=>by cases h) (by kernel_rfl) (fun _ h=>by cases h) lexmatchAgrees_row_tie rfl ⟨rfl,rfl⟩ (by kernel_rfl) rfl z8i (by kernel_rfl)
#print axioms lexmatchAgrees_card
end Go.Proofs.YtmcggompdmngmaaGreatDoor
