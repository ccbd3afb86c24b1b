/- A law holds for every input; no condition. -/
import Derived.Test.YtmcggompdmngmaaGreatDoorYz
import Derived.Test.YtmcggompdmngmaaGreatDoorYC
import Derived.Test.YtmcggompdmngmaaGreatDoorYN
import Derived.Test.YtmcggompdmngmaaGreatDoorYc
import Derived.Test.YtmcggompdmngmaaGreatDoorCards
import Derived.Test.YtmcggompdmngmaaGreatDoorTie
import Derived.Lay
import Derived.LaidMore
import Derived.ProofKit
import Derived.OpenShut
import Derived.ChangeMaps5
import Derived.Stop.Joined
import Derived.Deep.DeepHandedRow
set_option linter.all false
namespace Go.Proofs.YtmcggompdmngmaaGreatDoor
open Go.Ab Go.ChangeShapes Go.WideShapes Go.ChangeAt Go.RowKit
set_option maxRecDepth 100000
set_option maxHeartbeats 20000000
theorem zan (os:Os):laidMetH Tryz.prog Rows.lexmatchLargeRow.laid ((World.laidAll Tryz.prog os Rows.lexmatchLargeRow.laid).forCall (fun _ _=>0) ⟨#[],#[.slice none 0 0,Value.int .u8 0,Value.string ⟨#[]⟩],[]⟩).memory:=by
 rw[MakeChecks.laidMetH_plain _ _ _ (by kernel_rfl)]
 exact laidMet_laidAll _ (by kernel_rfl) (by kernel_rfl)
theorem z8r (os:Os) {H:Type} (enc:TypeId × Value→H):DataW.whole enc Tryz.prog ((World.laidAll Tryz.prog os Rows.lexmatchLargeRow.laid).forCall (fun _ _=>0) ⟨#[],#[.slice none 0 0,Value.int .u8 0,Value.string ⟨#[]⟩],[]⟩).memory Tryz.f5.params.toList Rows.lexmatchLargeSpec.vars false #[.slice none 0 0,Value.int .u8 0,Value.string ⟨#[]⟩].toList 8=some ([.nil,.lit (.int .u8 0),.lit (.string [])],[],[]):=by kernel_rfl
theorem z8b (os:Os) (started:os.Started) (H:Type) (enc:TypeId × Value→H) (F:Stop.Interp) :
 ReturnsInHanded {} Tryz.checked os 5 .any ((OpenSpec.ofChange Rows.lexmatchLargeSpec).preRow enc Tryz.prog Tryz.f5 Rows.lexmatchLargeRow.domain false Rows.lexmatchLargeRow.laid) (((OpenSpec.ofChange Rows.lexmatchLargeSpec).at F).post enc Tryz.prog Tryz.f5 false true false false):=by
 have hx:=z8r os enc
 refine returnsInHanded_of_row (C:=Tryz.checked) (s:=OpenSpec.ofChange Rows.lexmatchLargeSpec) (by kernel_rfl) started (by kernel_rfl) Tryz.func5
  (witness_row_at (enc:=enc) (C:=Tryz.checked) false (World.laidAll Tryz.prog os Rows.lexmatchLargeRow.laid) #[.slice none 0 0,Value.int .u8 0,Value.string ⟨#[]⟩] (World.laidAll_os _ _ _) (by kernel_rfl) (by kernel_rfl) (by kernel_rfl)
    (OpenSpec.preRow_of_cond 8 hx (by kernel_rfl) (fun k hk=>by cases hk) (by kernel_rfl) (zan os))) ?_
 intro W base args ds gs before hval0 hW h_1 h_2 h_3 hLaid h_4 h_5
 have hTab:=y5l hLaid
 obtain⟨τ,hO0,hO1,hD0,hD1⟩:=y9l hTab
 have hval:∀ (j:Nat) t v,Tryz.f5.params[j]? =some t→args[j]? =some v→Value.okWide Tryz.prog W .any base t v:=hval0
 have hW2:DataW.Whole enc Tryz.prog Tryz.f5.params.toList Rows.lexmatchLargeSpec.vars false W args.toList ds gs before:=hW
 obtain⟨p,q,hA0,hV,rfl,hfz,hnd⟩:=hW
 have hA:DataW.TrodAll enc Tryz.prog W 0 (fun _=>true) true Tryz.f5.params.toList args.toList ds p:=hA0
 rw[Tryz.params5] at hA hval
 obtain⟨v0,vs0,d0,ds0,p0,q0,e0,rfl,rfl,h0,r0⟩:=trodAll_cons hA
 obtain⟨v1,vs1,d1,ds1,p1,q1,rfl,rfl,rfl,h1,r1⟩:=trodAll_cons r0
 obtain⟨v2,vs2,d2,ds2,p2,q2,rfl,rfl,rfl,h2,r2⟩:=trodAll_cons r1
 obtain⟨rfl,rfl,rfl⟩:=trodAll_nil r2
 obtain rfl:args=#[v0,v1,v2]:=by cases args;simp_all
 obtain⟨a0,f0,x0⟩:=y4h hTab.sep (hval 0 _ v0 rfl rfl) h0
 obtain⟨a1,rfl,rfl,rfl,w1⟩:=open_int (k:=.u8) (by kernel_rfl) (hval 1 _ v1 rfl rfl) h1
 obtain⟨a2,rfl,rfl,rfl,w2⟩:=Go.ChangeMaps.open_string (by kernel_rfl) (hval 2 _ v2 rfl rfl) h2
 have key:Calls Tryz.prog 5 #[v0,.int .u8 a1,.string a2] W fun e W2=>∃ v,e=.returned v∧Rows.lexmatchLargeSpec.post enc Tryz.prog Tryz.f5 false true false false W #[v0,.int .u8 a1,.string a2] v W2:=by
  refine(zuq (P:=Tryz.prog) (g0:=1) (g1:=2) (by decide) (vs:=[v0,.int .u8 a1,.string a2]) (y1p τ a0 f0 a1 w1 a2 trivial) W hO0 hO1 hD0 hD1 rfl ?_).mono ?_
  · intro β j pp v hj hv
    match j,hj,hv with
    | 0,hj,hv=>simp at hj hv;subst hj;subst hv;exact .d _ _ x0
    | 1,hj,hv=>simp at hj hv;subst hj;subst hv;exact PR.I _ _
    | 2,hj,hv=>simp at hj hv;subst hj;subst hv;exact PR.S _
  · rintro e W2 ⟨he,own2,hE⟩
    exact⟨_,he,zwp (P:=Tryz.prog) (tb:=4) (by kernel_rfl) (by kernel_rfl) hW2 hE rfl rfl (by kernel_rfl) (by kernel_rfl)⟩
 exact key
theorem lexmatchLarge_said:Rows.LexmatchLargeSaid :=
 OpenClaim.holds_of_cond 5 Tryz.f5 rfl rfl rfl rfl rfl rfl rfl ⟨rfl,rfl,rfl,rfl,rfl⟩ rfl rfl rfl rfl rfl (by kernel_rfl) Tryz.func5 (by kernel_rfl)
  (of_decide_eq_true (by kernel_rfl)) (by unfold Func.isWrapper;first|(rw[zAz (by decide +kernel)];kernel_rfl)|(rw[zAy (by decide +kernel)];exact⟨rfl,rfl⟩))
  (fun os started H enc _ F=>by rw[OpenClaim.pre_eq_preRow];exact z8b os started H enc F)
theorem z8u (f:FuncId) (fn:Func) (hf:Tryz.pinned.checked.prog.funcNamed "corpora/corporalaw21.LexmatchLarge" =some f) (hfn:Tryz.pinned.checked.prog.funcs[f]? =some fn) :
 false=Tryz.pinned.checked.prog.looks []∧∀ (j:Nat) t,fn.params[j]? =some t→Tryz.pinned.checked.prog.wantsStandIn t=false:=by
 obtain rfl:f=5:=Option.some.inj ((show Tryz.prog.funcNamed "corpora/corporalaw21.LexmatchLarge" =some 5 by kernel_rfl).symm.trans hf) |>.symm
 obtain rfl:fn=Tryz.f5:=(Option.some.inj (Tryz.func5.symm.trans hfn)).symm
 refine⟨by kernel_rfl,fun j t ht=>?_⟩
 rw[Tryz.params5] at ht
 have hm:t∈(#[22,5,9]:Array TypeId):=Array.mem_of_getElem? ht
 simp only[List.mem_toArray,zAc,List.not_mem_nil,or_false] at hm
 rcases hm with rfl|rfl|rfl
 · exact(show Tryz.prog.wantsStandIn 22=false by kernel_rfl)
 · exact(show Tryz.prog.wantsStandIn 5=false by kernel_rfl)
 · exact(show Tryz.prog.wantsStandIn 9=false by kernel_rfl)
theorem lexmatchLarge_card:Rows.LexmatchLargeCardSaid :=
 Claim7.holds_tied_plain_at .later [] _ _ _ _ lexmatchLarge_said (fun _ h=>by cases h) (by kernel_rfl) (fun _ h=>by cases h) lexmatchLarge_row_tie rfl ⟨rfl,rfl⟩ (by kernel_rfl) rfl z8u (by kernel_rfl)
#print axioms lexmatchLarge_card
end Go.Proofs.YtmcggompdmngmaaGreatDoor
