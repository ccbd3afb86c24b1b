/- A law holds for every input; no condition. -/
import Derived.Test.YthdfkabdoidjfaaGreatDoorSz
import Derived.Test.YthdfkabdoidjfaaGreatDoorS6
import Derived.Test.YthdfkabdoidjfaaGreatDoorSg
import Derived.Test.YthdfkabdoidjfaaGreatDoorSc
import Derived.Test.YthdfkabdoidjfaaGreatDoorCards
import Derived.Test.YthdfkabdoidjfaaGreatDoorTie
import Derived.Lay
import Derived.LaidMore
import Derived.ProofKit
import Derived.OpenShut
import Derived.ChangeMaps5
import Derived.Stop.Joined
import Derived.Deep.DeepHandedRow
set_option linter.all false
namespace Go.Proofs.YthdfkabdoidjfaaGreatDoor
open Go.Ab Go.ChangeShapes Go.WideShapes Go.ChangeAt Go.RowKit
set_option maxRecDepth 100000
set_option maxHeartbeats 20000000
theorem z81 (os:Os):laidMetH Tryz.prog Rows.automatonShortestRow.laid ((World.laidAll Tryz.prog os Rows.automatonShortestRow.laid).forCall (fun _ _=>0) ⟨#[],#[Value.agg #[.slice none 0 0,.slice none 0 0],Value.string ⟨#[]⟩],[]⟩).memory:=by
 exact zD91
theorem z7l (os:Os) {H:Type} (enc:TypeId × Value→H):DataW.whole enc Tryz.prog ((World.laidAll Tryz.prog os Rows.automatonShortestRow.laid).forCall (fun _ _=>0) ⟨#[],#[Value.agg #[.slice none 0 0,.slice none 0 0],Value.string ⟨#[]⟩],[]⟩).memory Tryz.f13.params.toList Rows.automatonShortestSpec.vars false #[Value.agg #[.slice none 0 0,.slice none 0 0],Value.string ⟨#[]⟩].toList 8=some ([.agg [.nil,.nil],.lit (.string [])],[],[]):=by kernel_rfl
theorem z6q (os:Os) (started:os.Started) (H:Type) (enc:TypeId × Value→H) (F:Stop.Interp) :
 ReturnsInHanded {} Tryz.checked os 13 .any ((OpenSpec.ofChange Rows.automatonShortestSpec).preRow enc Tryz.prog Tryz.f13 Rows.automatonShortestRow.domain false Rows.automatonShortestRow.laid) (((OpenSpec.ofChange Rows.automatonShortestSpec).at F).post enc Tryz.prog Tryz.f13 false true false false):=by
 have hx:=z7l os enc
 refine returnsInHanded_of_row (C:=Tryz.checked) (s:=OpenSpec.ofChange Rows.automatonShortestSpec) (by kernel_rfl) started (by kernel_rfl) Tryz.func13
  (witness_row_at (enc:=enc) (C:=Tryz.checked) false (World.laidAll Tryz.prog os Rows.automatonShortestRow.laid) #[Value.agg #[.slice none 0 0,.slice none 0 0],Value.string ⟨#[]⟩] (World.laidAll_os _ _ _) (by kernel_rfl) (by kernel_rfl) (by kernel_rfl)
    (OpenSpec.preRow_of_cond 8 hx (by kernel_rfl) (fun k hk=>by cases hk) (by kernel_rfl) (z81 os))) ?_
 intro W base args ds gs before hval0 hW h_1 h_2 h_3 hLaid h_4 h_5
 have hTab:=zl2 hLaid
 obtain⟨τ,hO0,hO1,hD0,hD1⟩:=zt6 hTab
 have hval:∀ (j:Nat) t v,Tryz.f13.params[j]? =some t→args[j]? =some v→Value.okWide Tryz.prog W .any base t v:=hval0
 have hW2:DataW.Whole enc Tryz.prog Tryz.f13.params.toList Rows.automatonShortestSpec.vars false W args.toList ds gs before:=hW
 obtain⟨p,q,hA0,hV,rfl,hfz,hnd⟩:=hW
 have hA:DataW.TrodAll enc Tryz.prog W 0 (fun _=>true) true Tryz.f13.params.toList args.toList ds p:=hA0
 rw[Tryz.params13] at hA hval
 obtain⟨v0,vs0,d0,ds0,p0,q0,e0,rfl,rfl,h0,r0⟩:=trodAll_cons hA
 obtain⟨v1,vs1,d1,ds1,p1,q1,rfl,rfl,rfl,h1,r1⟩:=trodAll_cons r0
 obtain⟨rfl,rfl,rfl⟩:=trodAll_nil r1
 obtain rfl:args=#[v0,v1]:=by cases args;simp_all
 obtain⟨a0,f0,x0⟩:=zr1 hTab.sep (hval 0 _ v0 rfl rfl) h0
 obtain⟨a1,rfl,rfl,rfl,w1⟩:=Go.ChangeMaps.open_string (by kernel_rfl) (hval 1 _ v1 rfl rfl) h1
 have key:Calls Tryz.prog 13 #[v0,.string a1] W fun e W2=>∃ v,e=.returned v∧Rows.automatonShortestSpec.post enc Tryz.prog Tryz.f13 false true false false W #[v0,.string a1] v W2:=by
  refine(zfx (P:=Tryz.prog) (vs:=[v0,.string a1]) (zoc τ a0 f0 a1 w1) W hO0 hO1 hD0 hD1 rfl ?_).mono ?_
  · intro β j pp v hj hv
    match j,hj,hv with
    | 0,hj,hv=>simp at hj hv;subst hj;subst hv;exact .d _ _ x0
    | 1,hj,hv=>simp at hj hv;subst hj;subst hv;exact PR.S _
  · exact zD71
 exact key
theorem automatonShortest_said:Rows.AutomatonShortestSaid :=
 OpenClaim.holds_of_cond 13 Tryz.f13 rfl rfl rfl rfl rfl rfl rfl ⟨rfl,rfl,rfl,rfl,rfl⟩ rfl rfl rfl rfl rfl (by kernel_rfl) Tryz.func13 (by kernel_rfl)
  (of_decide_eq_true (by kernel_rfl)) (by unfold Func.isWrapper;first|(rw[zAz (by decide +kernel)];kernel_rfl)|(rw[zAy (by decide +kernel)];exact⟨rfl,rfl⟩))
  (fun os started H enc _ F=>by rw[OpenClaim.pre_eq_preRow];exact z6q os started H enc F)
theorem z73 (f:FuncId) (fn:Func) (hf:Tryz.pinned.checked.prog.funcNamed "corpora/corporalaw20.AutomatonShortest" =some f) (hfn:Tryz.pinned.checked.prog.funcs[f]? =some fn) :
 false=Tryz.pinned.checked.prog.looks []∧∀ (j:Nat) t,fn.params[j]? =some t→Tryz.pinned.checked.prog.wantsStandIn t=false:=by
 obtain rfl:f=13:=Option.some.inj ((show Tryz.prog.funcNamed "corpora/corporalaw20.AutomatonShortest" =some 13 by kernel_rfl).symm.trans hf) |>.symm
 obtain rfl:fn=Tryz.f13:=(Option.some.inj (Tryz.func13.symm.trans hfn)).symm
 refine⟨by kernel_rfl,fun j t ht=>?_⟩
 rw[Tryz.params13] at ht
 have hm:t∈(#[25,9]:Array TypeId):=Array.mem_of_getElem? ht
 simp only[List.mem_toArray,zAc,List.not_mem_nil,or_false] at hm
 rcases hm with rfl|rfl
 · exact(show Tryz.prog.wantsStandIn 25=false by kernel_rfl)
 · exact(show Tryz.prog.wantsStandIn 9=false by kernel_rfl)
theorem automatonShortest_card:Rows.AutomatonShortestCardSaid :=
 Claim7.holds_tied_plain_at .later [] _ _ _ _ automatonShortest_said (fun _ h=>by cases h) (by kernel_rfl) (fun _ h=>by cases h) automatonShortest_row_tie rfl ⟨rfl,rfl⟩ (by kernel_rfl) rfl z73 (by kernel_rfl)
#print axioms automatonShortest_card
end Go.Proofs.YthdfkabdoidjfaaGreatDoor
