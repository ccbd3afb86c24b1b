/- A law holds for every input; no condition. -/
import Derived.Test.YtmcggompdmngmaaGreatDoorUc
import Derived.Test.YtmcggompdmngmaaGreatDoorUz
import Derived.Test.YtmcggompdmngmaaGreatDoorUC
import Derived.Test.YtmcggompdmngmaaGreatDoorCards
import Derived.Test.YtmcggompdmngmaaGreatDoorTie
import Derived.Lay
import Derived.LaidMore
import Derived.ProofKit
import Derived.OpenShut
import Derived.ChangeMaps5
import Derived.Stop.Joined
import Derived.Deep.DeepHandedRow
set_option linter.all false
namespace Go.Proofs.YtmcggompdmngmaaGreatDoor
open Go.Ab Go.ChangeShapes Go.WideShapes Go.ChangeAt Go.RowKit
set_option maxRecDepth 100000
set_option maxHeartbeats 20000000
theorem z9p (os:Os):laidMetH Tryz.prog Rows.lexmatchRangesRow.laid ((World.laidAll Tryz.prog os Rows.lexmatchRangesRow.laid).forCall (fun _ _=>0) ⟨#[],#[.slice none 0 0],[]⟩).memory:=by
 exact zD93
theorem z8f (os:Os) {H:Type} (enc:TypeId × Value→H):DataW.whole enc Tryz.prog ((World.laidAll Tryz.prog os Rows.lexmatchRangesRow.laid).forCall (fun _ _=>0) ⟨#[],#[.slice none 0 0],[]⟩).memory Tryz.f6.params.toList Rows.lexmatchRangesSpec.vars false #[.slice none 0 0].toList 8=some ([.nil],[],[]):=by kernel_rfl
theorem z7q (os:Os) (started:os.Started) (H:Type) (enc:TypeId × Value→H) (F:Stop.Interp) :
 ReturnsInHanded {} Tryz.checked os 6 .any ((OpenSpec.ofChange Rows.lexmatchRangesSpec).preRow enc Tryz.prog Tryz.f6 Rows.lexmatchRangesRow.domain false Rows.lexmatchRangesRow.laid) (((OpenSpec.ofChange Rows.lexmatchRangesSpec).at F).post enc Tryz.prog Tryz.f6 false true false false):=by
 have hx:=z8f os enc
 refine returnsInHanded_of_row (C:=Tryz.checked) (s:=OpenSpec.ofChange Rows.lexmatchRangesSpec) (by kernel_rfl) started (by kernel_rfl) Tryz.func6
  (witness_row_at (enc:=enc) (C:=Tryz.checked) false (World.laidAll Tryz.prog os Rows.lexmatchRangesRow.laid) #[.slice none 0 0] (World.laidAll_os _ _ _) (by kernel_rfl) (by kernel_rfl) (by kernel_rfl)
    (OpenSpec.preRow_of_cond 8 hx (by kernel_rfl) (fun k hk=>by cases hk) (by kernel_rfl) (z9p os))) ?_
 intro W base args ds gs before hval0 hW h_1 h_2 h_3 hLaid h_4 h_5
 have hTab:=zgd hLaid
 obtain⟨τ,hO0,hO1,hD0,hD1⟩:=zn8 hTab
 have hval:∀ (j:Nat) t v,Tryz.f6.params[j]? =some t→args[j]? =some v→Value.okWide Tryz.prog W .any base t v:=hval0
 have hW2:DataW.Whole enc Tryz.prog Tryz.f6.params.toList Rows.lexmatchRangesSpec.vars false W args.toList ds gs before:=hW
 obtain⟨p,q,hA0,hV,rfl,hfz,hnd⟩:=hW
 have hA:DataW.TrodAll enc Tryz.prog W 0 (fun _=>true) true Tryz.f6.params.toList args.toList ds p:=hA0
 rw[Tryz.params6] at hA hval
 obtain⟨v0,vs0,d0,ds0,p0,q0,e0,rfl,rfl,h0,r0⟩:=trodAll_cons hA
 obtain⟨rfl,rfl,rfl⟩:=trodAll_nil r0
 obtain rfl:args=#[v0]:=by cases args;simp_all
 obtain⟨a0,f0,x0⟩:=ztg hTab.sep (hval 0 _ v0 rfl rfl) h0
 have key:Calls Tryz.prog 6 #[v0] W fun e W2=>∃ v,e=.returned v∧Rows.lexmatchRangesSpec.post enc Tryz.prog Tryz.f6 false true false false W #[v0] v W2:=by
  refine(zah (P:=Tryz.prog) (g0:=1) (g1:=2) (by decide) (vs:=[v0]) (ztz τ a0 f0) W hO0 hO1 hD0 hD1 rfl ?_).mono ?_
  · intro β j pp v hj hv
    match j,hj,hv with
    | 0,hj,hv=>simp at hj hv;subst hj;subst hv;exact .d _ _ x0
  · exact zD57
 exact key
theorem lexmatchRanges_said:Rows.LexmatchRangesSaid :=
 OpenClaim.holds_of_cond 6 Tryz.f6 rfl rfl rfl rfl rfl rfl rfl ⟨rfl,rfl,rfl,rfl,rfl⟩ rfl rfl rfl rfl rfl (by kernel_rfl) Tryz.func6 (by kernel_rfl)
  (of_decide_eq_true (by kernel_rfl)) (by unfold Func.isWrapper;first|(rw[zAz (by decide +kernel)];kernel_rfl)|(rw[zAy (by decide +kernel)];exact⟨rfl,rfl⟩))
  (fun os started H enc _ F=>by rw[OpenClaim.pre_eq_preRow];exact z7q os started H enc F)
theorem z8g (f:FuncId) (fn:Func) (hf:Tryz.pinned.checked.prog.funcNamed "corpora/corporalaw21.LexmatchRanges" =some f) (hfn:Tryz.pinned.checked.prog.funcs[f]? =some fn) :
 false=Tryz.pinned.checked.prog.looks []∧∀ (j:Nat) t,fn.params[j]? =some t→Tryz.pinned.checked.prog.wantsStandIn t=false:=by
 obtain rfl:f=6:=Option.some.inj ((show Tryz.prog.funcNamed "corpora/corporalaw21.LexmatchRanges" =some 6 by kernel_rfl).symm.trans hf) |>.symm
 obtain rfl:fn=Tryz.f6:=(Option.some.inj (Tryz.func6.symm.trans hfn)).symm
 refine⟨by kernel_rfl,fun j t ht=>?_⟩
 rw[Tryz.params6] at ht
 have hm:t∈(#[30]:Array TypeId):=Array.mem_of_getElem? ht
 simp only[List.mem_toArray,zAc,List.not_mem_nil,or_false] at hm
 rcases hm with rfl
 · exact(show Tryz.prog.wantsStandIn 30=false by kernel_rfl)
theorem lexmatchRanges_card:Rows.LexmatchRangesCardSaid :=
 Claim7.holds_tied_plain_at .later [] _ _ _ _ lexmatchRanges_said (fun _ h=>by cases h) (by kernel_rfl) (fun _ h=>by cases h) lexmatchRanges_row_tie rfl ⟨rfl,rfl⟩ (by kernel_rfl) rfl z8g (by kernel_rfl)
#print axioms lexmatchRanges_card
end Go.Proofs.YtmcggompdmngmaaGreatDoor
