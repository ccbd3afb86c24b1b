/- A law holds for every input; no condition. -/
import Derived.Test.YthdfkabdoidjfaaGreatDoorVz
import Derived.Test.YthdfkabdoidjfaaGreatDoorV6
import Derived.Test.YthdfkabdoidjfaaGreatDoorVo
import Derived.Test.YthdfkabdoidjfaaGreatDoorVc
import Derived.Test.YthdfkabdoidjfaaGreatDoorCards
import Derived.Test.YthdfkabdoidjfaaGreatDoorTie
import Derived.Lay
import Derived.LaidMore
import Derived.ProofKit
import Derived.OpenShut
import Derived.ChangeMaps5
import Derived.Stop.Joined
import Derived.Deep.DeepHandedRow
set_option linter.all false
namespace Go.Proofs.YthdfkabdoidjfaaGreatDoor
open Go.Ab Go.ChangeShapes Go.WideShapes Go.ChangeAt Go.RowKit
set_option maxRecDepth 100000
set_option maxHeartbeats 20000000
theorem z9y (os:Os):laidMetH Tryz.prog Rows.automatonMeansRow.laid ((World.laidAll Tryz.prog os Rows.automatonMeansRow.laid).forCall (fun _ _=>0) ⟨#[],#[Value.agg #[.int .i64 0,.int .i64 0,.int .i64 0,.slice none 0 0,.slice none 0 0],Value.string ⟨#[]⟩],[]⟩).memory:=by
 rw[MakeChecks.laidMetH_plain _ _ _ (by kernel_rfl)]
 exact laidMet_laidAll _ (by kernel_rfl) (by kernel_rfl)
theorem z90 (os:Os) {H:Type} (enc:TypeId × Value→H):DataW.whole enc Tryz.prog ((World.laidAll Tryz.prog os Rows.automatonMeansRow.laid).forCall (fun _ _=>0) ⟨#[],#[Value.agg #[.int .i64 0,.int .i64 0,.int .i64 0,.slice none 0 0,.slice none 0 0],Value.string ⟨#[]⟩],[]⟩).memory Tryz.f12.params.toList Rows.automatonMeansSpec.vars false #[Value.agg #[.int .i64 0,.int .i64 0,.int .i64 0,.slice none 0 0,.slice none 0 0],Value.string ⟨#[]⟩].toList 8=some ([.agg [.lit (.int .i64 0),.lit (.int .i64 0),.lit (.int .i64 0),.nil,.nil],.lit (.string [])],[],[]):=by kernel_rfl
theorem z8c (os:Os) (started:os.Started) (H:Type) (enc:TypeId × Value→H) (F:Stop.Interp) :
 ReturnsInHanded {} Tryz.checked os 12 .any ((OpenSpec.ofChange Rows.automatonMeansSpec).preRow enc Tryz.prog Tryz.f12 Rows.automatonMeansRow.domain false Rows.automatonMeansRow.laid) (((OpenSpec.ofChange Rows.automatonMeansSpec).at F).post enc Tryz.prog Tryz.f12 false true false false):=by
 have hx:=z90 os enc
 refine returnsInHanded_of_row (C:=Tryz.checked) (s:=OpenSpec.ofChange Rows.automatonMeansSpec) (by kernel_rfl) started (by kernel_rfl) Tryz.func12
  (witness_row_at (enc:=enc) (C:=Tryz.checked) false (World.laidAll Tryz.prog os Rows.automatonMeansRow.laid) #[Value.agg #[.int .i64 0,.int .i64 0,.int .i64 0,.slice none 0 0,.slice none 0 0],Value.string ⟨#[]⟩] (World.laidAll_os _ _ _) (by kernel_rfl) (by kernel_rfl) (by kernel_rfl)
    (OpenSpec.preRow_of_cond 8 hx (by kernel_rfl) (fun k hk=>by cases hk) (by kernel_rfl) (z9y os))) ?_
 intro W base args ds gs before hval0 hW h_1 h_2 h_3 hLaid h_4 h_5
 have hTab:=zp9 hLaid
 obtain⟨τ,hO0,hO1,hD0,hD1⟩:=zx5 hTab
 have hval:∀ (j:Nat) t v,Tryz.f12.params[j]? =some t→args[j]? =some v→Value.okWide Tryz.prog W .any base t v:=hval0
 have hW2:DataW.Whole enc Tryz.prog Tryz.f12.params.toList Rows.automatonMeansSpec.vars false W args.toList ds gs before:=hW
 obtain⟨p,q,hA0,hV,rfl,hfz,hnd⟩:=hW
 have hA:DataW.TrodAll enc Tryz.prog W 0 (fun _=>true) true Tryz.f12.params.toList args.toList ds p:=hA0
 rw[Tryz.params12] at hA hval
 obtain⟨v0,vs0,d0,ds0,p0,q0,e0,rfl,rfl,h0,r0⟩:=trodAll_cons hA
 obtain⟨v1,vs1,d1,ds1,p1,q1,rfl,rfl,rfl,h1,r1⟩:=trodAll_cons r0
 obtain⟨rfl,rfl,rfl⟩:=trodAll_nil r1
 obtain rfl:args=#[v0,v1]:=by cases args;simp_all
 obtain⟨a0,f0,x0⟩:=zxv hTab.sep (hval 0 _ v0 rfl rfl) h0
 obtain⟨a1,rfl,rfl,rfl,w1⟩:=Go.ChangeMaps.open_string (by kernel_rfl) (hval 1 _ v1 rfl rfl) h1
 have key:Calls Tryz.prog 12 #[v0,.string a1] W fun e W2=>∃ v,e=.returned v∧Rows.automatonMeansSpec.post enc Tryz.prog Tryz.f12 false true false false W #[v0,.string a1] v W2:=by
  refine(zlk (P:=Tryz.prog) (vs:=[v0,.string a1]) (zya τ a0 f0 a1 w1) W hO0 hO1 hD0 hD1 rfl ?_).mono ?_
  · intro β j pp v hj hv
    match j,hj,hv with
    | 0,hj,hv=>simp at hj hv;subst hj;subst hv;exact .d _ _ x0
    | 1,hj,hv=>simp at hj hv;subst hj;subst hv;exact PR.S _
  · exact zD104
 exact key
theorem automatonMeans_said:Rows.AutomatonMeansSaid :=
 OpenClaim.holds_of_cond 12 Tryz.f12 rfl rfl rfl rfl rfl rfl rfl ⟨rfl,rfl,rfl,rfl,rfl⟩ rfl rfl rfl rfl rfl (by kernel_rfl) Tryz.func12 (by kernel_rfl)
  (of_decide_eq_true (by kernel_rfl)) (by unfold Func.isWrapper;first|(rw[zAz (by decide +kernel)];kernel_rfl)|(rw[zAy (by decide +kernel)];exact⟨rfl,rfl⟩))
  (fun os started H enc _ F=>by rw[OpenClaim.pre_eq_preRow];exact z8c os started H enc F)
theorem z92 (f:FuncId) (fn:Func) (hf:Tryz.pinned.checked.prog.funcNamed "corpora/corporalaw20.AutomatonMeans" =some f) (hfn:Tryz.pinned.checked.prog.funcs[f]? =some fn) :
 false=Tryz.pinned.checked.prog.looks []∧∀ (j:Nat) t,fn.params[j]? =some t→Tryz.pinned.checked.prog.wantsStandIn t=false:=by
 obtain rfl:f=12:=Option.some.inj ((show Tryz.prog.funcNamed "corpora/corporalaw20.AutomatonMeans" =some 12 by kernel_rfl).symm.trans hf) |>.symm
 obtain rfl:fn=Tryz.f12:=(Option.some.inj (Tryz.func12.symm.trans hfn)).symm
 refine⟨by kernel_rfl,fun j t ht=>?_⟩
 rw[Tryz.params12] at ht
 have hm:t∈(#[44,9]:Array TypeId):=Array.mem_of_getElem? ht
 simp only[List.mem_toArray,zAc,List.not_mem_nil,or_false] at hm
 rcases hm with rfl|rfl
 · exact(show Tryz.prog.wantsStandIn 44=false by kernel_rfl)
 · exact(show Tryz.prog.wantsStandIn 9=false by kernel_rfl)
theorem automatonMeans_card:Rows.AutomatonMeansCardSaid :=
 Claim7.holds_tied_plain_at .later [] _ _ _ _ automatonMeans_said (fun _ h=>by cases h) (by kernel_rfl) (fun _ h=>by cases h) automatonMeans_row_tie rfl ⟨rfl,rfl⟩ (by kernel_rfl) rfl z92 (by kernel_rfl)
#print axioms automatonMeans_card
end Go.Proofs.YthdfkabdoidjfaaGreatDoor
