/- A law holds for every input; no condition. -/
import Derived.Test.YtmcggompdmngmaaGreatDoorXA
import Derived.Test.YtmcggompdmngmaaGreatDoorCards
import Derived.Test.YtmcggompdmngmaaGreatDoorTie
import Derived.Lay
import Derived.ChangeMaps5
import Derived.Stop.Joined
import Derived.Deep.DeepHandedRow
set_option linter.all false
open Go.Proofs.Tryz
namespace Go.Proofs.YtmcggompdmngmaaGreatDoor
open Go.Ab Go.ChangeShapes Go.WideShapes Go.ChangeAt Go.RowKit
set_option maxRecDepth 100000
set_option maxHeartbeats 20000000
theorem z94(os:Os):laidMetH prog Rows.lexmatchBooleanRow.laid ((World.laidAll prog os Rows.lexmatchBooleanRow.laid).forCall (fun _ _=>0) ⟨#[],#[.slice none 0 0,Value.agg #[.slice none 0 0,.slice none 0 0],Value.agg #[.slice none 0 0,.slice none 0 0]],[]⟩).memory:=by
 rw[MakeChecks.laidMetH_plain _ _ _ (by kernel_rfl)]
 exact laidMet_laidAll _ (by kernel_rfl) (by kernel_rfl)
theorem z7o(os:Os){H:Type}(enc:TypeId × Value→H):DataW.whole enc prog ((World.laidAll prog os Rows.lexmatchBooleanRow.laid).forCall (fun _ _=>0) ⟨#[],#[.slice none 0 0,Value.agg #[.slice none 0 0,.slice none 0 0],Value.agg #[.slice none 0 0,.slice none 0 0]],[]⟩).memory f10.params.toList Rows.lexmatchBooleanSpec.vars false #[.slice none 0 0,Value.agg #[.slice none 0 0,.slice none 0 0],Value.agg #[.slice none 0 0,.slice none 0 0]].toList 8=some ([.nil,.agg [.nil,.nil],.agg [.nil,.nil]],[],[]):=by kernel_rfl
theorem z7g(os:Os)(started:os.Started)(H:Type)(enc:TypeId × Value→H)(F:Stop.Interp) :
 ReturnsInHanded {} Tryz.checked os 10 .any ((OpenSpec.ofChange Rows.lexmatchBooleanSpec).preRow enc prog f10 Rows.lexmatchBooleanRow.domain false Rows.lexmatchBooleanRow.laid) (((OpenSpec.ofChange Rows.lexmatchBooleanSpec).at F).post enc prog f10 false true false false):=by
 have hx:=z7o os enc
 refine returnsInHanded_of_row (C:=Tryz.checked) (s:=OpenSpec.ofChange Rows.lexmatchBooleanSpec) (by kernel_rfl) started (by kernel_rfl) func10
  (witness_row_at (enc:=enc) (C:=Tryz.checked) false (World.laidAll prog os Rows.lexmatchBooleanRow.laid) #[.slice none 0 0,Value.agg #[.slice none 0 0,.slice none 0 0],Value.agg #[.slice none 0 0,.slice none 0 0]] (World.laidAll_os _ _ _) (by kernel_rfl) (by kernel_rfl) (by kernel_rfl)
    (OpenSpec.preRow_of_cond 8 hx (by kernel_rfl) (fun k hk=>by cases hk) (by kernel_rfl) (z94 os))) ?_
 intro W base args ds gs before hval0 hW h_1 h_2 h_3 hLaid h_4 h_5
 have hTab:=y4s hLaid
 obtain⟨τ,hO0,hO1,hD0,hD1⟩:=y8m hTab
 have hval:∀(j:Nat) t v,f10.params[j]? =some t→args[j]? =some v→Value.okWide prog W .any base t v:=hval0
 have hW2:DataW.Whole enc prog f10.params.toList Rows.lexmatchBooleanSpec.vars false W args.toList ds gs before:=hW
 obtain⟨p,q,hA0,hV,rfl,hfz,hnd⟩:=hW
 have hA:DataW.TrodAll enc prog W 0 (fun _=>true) true f10.params.toList args.toList ds p:=hA0
 rw[Tryz.params10]at hA hval
 obtain⟨v0,vs0,d0,ds0,p0,q0,e0,rfl,rfl,h0,r0⟩:=trodAll_cons hA
 obtain⟨v1,vs1,d1,ds1,p1,q1,rfl,rfl,rfl,h1,r1⟩:=trodAll_cons r0
 obtain⟨v2,vs2,d2,ds2,p2,q2,rfl,rfl,rfl,h2,r2⟩:=trodAll_cons r1
 obtain⟨rfl,rfl,rfl⟩:=trodAll_nil r2
 obtain rfl:args=#[v0,v1,v2]:=by cases args;simp_all
 obtain⟨a0,f0,x0⟩:=y3p hTab.sep (hval 0 _ v0 rfl rfl) h0
 obtain⟨a1,f1,x1⟩:=y9n hTab.sep (hval 1 _ v1 rfl rfl) h1
 obtain⟨a2,f2,x2⟩:=y9n hTab.sep (hval 2 _ v2 rfl rfl) h2
 have key:Calls prog 10 #[v0,v1,v2] W fun e W2=>∃v,e=.returned v∧Rows.lexmatchBooleanSpec.post enc prog f10 false true false false W #[v0,v1,v2] v W2:=by
  refine(zrx (P:=prog) (g0:=1) (g1:=2) (by decide) (vs:=[v0,v1,v2]) (zr1 τ a0 f0 a1 a2 f1 f2) W hO0 hO1 hD0 hD1 rfl ?_).mono ?_
  ·intro β j pp v hj hv
   match j,hj,hv with
   | 0,hj,hv=>simp at hj hv;subst hj;subst hv;exact .d _ _ x0
   | 1,hj,hv=>simp at hj hv;subst hj;subst hv;exact .d _ _ x1
   | 2,hj,hv=>simp at hj hv;subst hj;subst hv;exact .d _ _ x2
  ·rintro e W2 ⟨he,own2,hE⟩
   exact⟨_,he,zyk (P:=prog) (tb:=4) (by kernel_rfl) (by kernel_rfl) hW2 hE rfl rfl (by kernel_rfl) (by kernel_rfl)⟩
 exact key
theorem lexmatchBoolean_said:Rows.LexmatchBooleanSaid :=
 OpenClaim.holds_of_cond 10 f10 rfl rfl rfl rfl rfl rfl rfl ⟨rfl,rfl,rfl,rfl,rfl⟩ rfl rfl rfl rfl rfl (by kernel_rfl) func10 (by kernel_rfl)
  (of_decide_eq_true (by kernel_rfl)) (by unfold Func.isWrapper;first|(rw[zAz (by decide +kernel)];kernel_rfl)|(rw[zAy (by decide +kernel)];exact⟨rfl,rfl⟩))
  (fun os started H enc _ F=>by rw[OpenClaim.pre_eq_preRow];exact z7g os started H enc F)
theorem z7p(f:FuncId)(fn:Func)(hf:Tryz.pinned.checked.prog.funcNamed "corpora/corporalaw21.LexmatchBoolean" =some f)(hfn:Tryz.pinned.checked.prog.funcs[f]? =some fn) :
 false=Tryz.pinned.checked.prog.looks []∧∀(j:Nat) t,fn.params[j]? =some t→Tryz.pinned.checked.prog.wantsStandIn t=false:=by
 obtain rfl:f=10:=Option.some.inj ((show prog.funcNamed "corpora/corporalaw21.LexmatchBoolean" =some 10 by kernel_rfl).symm.trans hf) |>.symm
 obtain rfl:fn=f10:=(Option.some.inj (func10.symm.trans hfn)).symm
 refine⟨by kernel_rfl,fun j t ht=>?_⟩
 rw[Tryz.params10]at ht
 have hm:t∈(#[22,26,26]:Array TypeId):=Array.mem_of_getElem? ht
 simp only[List.mem_toArray,zAc,List.not_mem_nil,or_false]at hm
 rcases hm with rfl|rfl|rfl
 ·exact(show prog.wantsStandIn 22=false by kernel_rfl)
 ·exact(show prog.wantsStandIn 26=false by kernel_rfl)
 ·exact(show prog.wantsStandIn 26=false by kernel_rfl)
theorem lexmatchBoolean_card:Rows.LexmatchBooleanCardSaid :=
 Claim7.holds_tied_plain_at .later [] _ _ _ _ lexmatchBoolean_said (fun _ h=>by cases h) (by kernel_rfl) (fun _ h=>by cases h) lexmatchBoolean_row_tie rfl ⟨rfl,rfl⟩ (by kernel_rfl) rfl z7p (by kernel_rfl)
#print axioms lexmatchBoolean_card
end Go.Proofs.YtmcggompdmngmaaGreatDoor
