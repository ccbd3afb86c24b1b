/- A law holds for every input; no condition. -/
import Derived.Test.YthdfkabdoidjfaaGreatDoorSz
import Derived.Test.YthdfkabdoidjfaaGreatDoorS6
import Derived.Test.YthdfkabdoidjfaaGreatDoorSh
import Derived.Test.YthdfkabdoidjfaaGreatDoorSc
import Derived.Test.YthdfkabdoidjfaaGreatDoorCards
import Derived.Test.YthdfkabdoidjfaaGreatDoorTie
import Derived.Lay
import Derived.LaidMore
import Derived.ProofKit
import Derived.OpenShut
import Derived.ChangeMaps5
import Derived.Stop.Joined
import Derived.Deep.DeepHandedRow
set_option linter.all false
namespace Go.Proofs.YthdfkabdoidjfaaGreatDoor
open Go.Ab Go.ChangeShapes Go.WideShapes Go.ChangeAt Go.RowKit
set_option maxRecDepth 100000
set_option maxHeartbeats 20000000
theorem z99 (os:Os):laidMetH Tryz.prog Rows.automatonBooleanRow.laid ((World.laidAll Tryz.prog os Rows.automatonBooleanRow.laid).forCall (fun _ _=>0) ⟨#[],#[Value.agg #[.slice none 0 0,.slice none 0 0],Value.agg #[.slice none 0 0,.slice none 0 0],Value.string ⟨#[]⟩],[]⟩).memory:=by
 exact zD91
theorem z7y (os:Os) {H:Type} (enc:TypeId × Value→H):DataW.whole enc Tryz.prog ((World.laidAll Tryz.prog os Rows.automatonBooleanRow.laid).forCall (fun _ _=>0) ⟨#[],#[Value.agg #[.slice none 0 0,.slice none 0 0],Value.agg #[.slice none 0 0,.slice none 0 0],Value.string ⟨#[]⟩],[]⟩).memory Tryz.f9.params.toList Rows.automatonBooleanSpec.vars false #[Value.agg #[.slice none 0 0,.slice none 0 0],Value.agg #[.slice none 0 0,.slice none 0 0],Value.string ⟨#[]⟩].toList 8=some ([.agg [.nil,.nil],.agg [.nil,.nil],.lit (.string [])],[],[]):=by kernel_rfl
theorem z7c (os:Os) (started:os.Started) (H:Type) (enc:TypeId × Value→H) (F:Stop.Interp) :
 ReturnsInHanded {} Tryz.checked os 9 .any ((OpenSpec.ofChange Rows.automatonBooleanSpec).preRow enc Tryz.prog Tryz.f9 Rows.automatonBooleanRow.domain false Rows.automatonBooleanRow.laid) (((OpenSpec.ofChange Rows.automatonBooleanSpec).at F).post enc Tryz.prog Tryz.f9 false true false false):=by
 have hx:=z7y os enc
 refine returnsInHanded_of_row (C:=Tryz.checked) (s:=OpenSpec.ofChange Rows.automatonBooleanSpec) (by kernel_rfl) started (by kernel_rfl) Tryz.func9
  (witness_row_at (enc:=enc) (C:=Tryz.checked) false (World.laidAll Tryz.prog os Rows.automatonBooleanRow.laid) #[Value.agg #[.slice none 0 0,.slice none 0 0],Value.agg #[.slice none 0 0,.slice none 0 0],Value.string ⟨#[]⟩] (World.laidAll_os _ _ _) (by kernel_rfl) (by kernel_rfl) (by kernel_rfl)
    (OpenSpec.preRow_of_cond 8 hx (by kernel_rfl) (fun k hk=>by cases hk) (by kernel_rfl) (z99 os))) ?_
 intro W base args ds gs before hval0 hW h_1 h_2 h_3 hLaid h_4 h_5
 have hTab:=zl2 hLaid
 obtain⟨τ,hO0,hO1,hD0,hD1⟩:=zt6 hTab
 have hval:∀ (j:Nat) t v,Tryz.f9.params[j]? =some t→args[j]? =some v→Value.okWide Tryz.prog W .any base t v:=hval0
 have hW2:DataW.Whole enc Tryz.prog Tryz.f9.params.toList Rows.automatonBooleanSpec.vars false W args.toList ds gs before:=hW
 obtain⟨p,q,hA0,hV,rfl,hfz,hnd⟩:=hW
 have hA:DataW.TrodAll enc Tryz.prog W 0 (fun _=>true) true Tryz.f9.params.toList args.toList ds p:=hA0
 rw[Tryz.params9] at hA hval
 obtain⟨v0,vs0,d0,ds0,p0,q0,e0,rfl,rfl,h0,r0⟩:=trodAll_cons hA
 obtain⟨v1,vs1,d1,ds1,p1,q1,rfl,rfl,rfl,h1,r1⟩:=trodAll_cons r0
 obtain⟨v2,vs2,d2,ds2,p2,q2,rfl,rfl,rfl,h2,r2⟩:=trodAll_cons r1
 obtain⟨rfl,rfl,rfl⟩:=trodAll_nil r2
 obtain rfl:args=#[v0,v1,v2]:=by cases args;simp_all
 obtain⟨a0,f0,x0⟩:=zr1 hTab.sep (hval 0 _ v0 rfl rfl) h0
 obtain⟨a1,f1,x1⟩:=zr1 hTab.sep (hval 1 _ v1 rfl rfl) h1
 obtain⟨a2,rfl,rfl,rfl,w2⟩:=Go.ChangeMaps.open_string (by kernel_rfl) (hval 2 _ v2 rfl rfl) h2
 have key:Calls Tryz.prog 9 #[v0,v1,.string a2] W fun e W2=>∃ v,e=.returned v∧Rows.automatonBooleanSpec.post enc Tryz.prog Tryz.f9 false true false false W #[v0,v1,.string a2] v W2:=by
  refine(zfx (P:=Tryz.prog) (vs:=[v0,v1,.string a2]) (zse τ a0 a1 f0 f1 a2 w2) W hO0 hO1 hD0 hD1 rfl ?_).mono ?_
  · intro β j pp v hj hv
    match j,hj,hv with
    | 0,hj,hv=>simp at hj hv;subst hj;subst hv;exact .d _ _ x0
    | 1,hj,hv=>simp at hj hv;subst hj;subst hv;exact .d _ _ x1
    | 2,hj,hv=>simp at hj hv;subst hj;subst hv;exact PR.S _
  · exact zD71
 exact key
theorem automatonBoolean_said:Rows.AutomatonBooleanSaid :=
 OpenClaim.holds_of_cond 9 Tryz.f9 rfl rfl rfl rfl rfl rfl rfl ⟨rfl,rfl,rfl,rfl,rfl⟩ rfl rfl rfl rfl rfl (by kernel_rfl) Tryz.func9 (by kernel_rfl)
  (of_decide_eq_true (by kernel_rfl)) (by unfold Func.isWrapper;first|(rw[zAz (by decide +kernel)];kernel_rfl)|(rw[zAy (by decide +kernel)];exact⟨rfl,rfl⟩))
  (fun os started H enc _ F=>by rw[OpenClaim.pre_eq_preRow];exact z7c os started H enc F)
theorem z7w (f:FuncId) (fn:Func) (hf:Tryz.pinned.checked.prog.funcNamed "corpora/corporalaw20.AutomatonBoolean" =some f) (hfn:Tryz.pinned.checked.prog.funcs[f]? =some fn) :
 false=Tryz.pinned.checked.prog.looks []∧∀ (j:Nat) t,fn.params[j]? =some t→Tryz.pinned.checked.prog.wantsStandIn t=false:=by
 obtain rfl:f=9:=Option.some.inj ((show Tryz.prog.funcNamed "corpora/corporalaw20.AutomatonBoolean" =some 9 by kernel_rfl).symm.trans hf) |>.symm
 obtain rfl:fn=Tryz.f9:=(Option.some.inj (Tryz.func9.symm.trans hfn)).symm
 refine⟨by kernel_rfl,fun j t ht=>?_⟩
 rw[Tryz.params9] at ht
 have hm:t∈(#[25,25,9]:Array TypeId):=Array.mem_of_getElem? ht
 simp only[List.mem_toArray,zAc,List.not_mem_nil,or_false] at hm
 rcases hm with rfl|rfl|rfl
 · exact(show Tryz.prog.wantsStandIn 25=false by kernel_rfl)
 · exact(show Tryz.prog.wantsStandIn 25=false by kernel_rfl)
 · exact(show Tryz.prog.wantsStandIn 9=false by kernel_rfl)
theorem automatonBoolean_card:Rows.AutomatonBooleanCardSaid :=
 Claim7.holds_tied_plain_at .later [] _ _ _ _ automatonBoolean_said (fun _ h=>by cases h) (by kernel_rfl) (fun _ h=>by cases h) automatonBoolean_row_tie rfl ⟨rfl,rfl⟩ (by kernel_rfl) rfl z7w (by kernel_rfl)
#print axioms automatonBoolean_card
end Go.Proofs.YthdfkabdoidjfaaGreatDoor
