/- A law holds for every input; no condition. -/
import Derived.Test.YtonhfccmeammbaaGreatDoorOTI
import Derived.Test.YtonhfccmeammbaaGreatDoorOc
import Derived.Test.YtonhfccmeammbaaGreatDoorCards
import Derived.Test.YtonhfccmeammbaaGreatDoorTie
import Derived.Lay
import Derived.LaidMore
import Derived.ProofKit
import Derived.OpenShut
import Derived.Stop.Joined
import Derived.Deep.DeepHandedRow
set_option linter.all false
namespace Go.Proofs.YtonhfccmeammbaaGreatDoor
open Go.Ab Go.ChangeShapes Go.WideShapes Go.ChangeAt Go.RowKit
set_option maxRecDepth 100000
set_option maxHeartbeats 20000000
theorem z78 (os:Os):laidMetH Tryz.prog Rows.globalOrderRow.laid ((World.laidAll Tryz.prog os Rows.globalOrderRow.laid).forCall (fun _ _=>0) ⟨#[],#[Value.slice none 0 0,Value.int .i64 0,Value.int .i64 0],[]⟩).memory:=by
 rw[MakeChecks.laidMetH_plain _ _ _ (by kernel_rfl)]
 exact laidMet_laidAll _ (by kernel_rfl) (by kernel_rfl)
theorem z6b (os:Os) {H:Type} (enc:TypeId × Value→H):DataW.whole enc Tryz.prog ((World.laidAll Tryz.prog os Rows.globalOrderRow.laid).forCall (fun _ _=>0) ⟨#[],#[Value.slice none 0 0,Value.int .i64 0,Value.int .i64 0],[]⟩).memory Tryz.f5.params.toList Rows.globalOrderSpec.vars false #[Value.slice none 0 0,Value.int .i64 0,Value.int .i64 0].toList 8=some ([.nil,.lit (.int .i64 0),.lit (.int .i64 0)],[],[]):=by kernel_rfl
theorem z5q (os:Os) (started:os.Started) (H:Type) (enc:TypeId × Value→H) (F:Stop.Interp) :
 ReturnsInHanded {} Tryz.checked os 5 .any ((OpenSpec.ofChange Rows.globalOrderSpec).preRow enc Tryz.prog Tryz.f5 Rows.globalOrderRow.domain false Rows.globalOrderRow.laid) (((OpenSpec.ofChange Rows.globalOrderSpec).at F).post enc Tryz.prog Tryz.f5 false true false false):=by
 have hx:=z6b os enc
 refine returnsInHanded_of_row (C:=Tryz.checked) (s:=OpenSpec.ofChange Rows.globalOrderSpec) (by kernel_rfl) started (by kernel_rfl) Tryz.func5
  (witness_row_at (enc:=enc) (C:=Tryz.checked) false (World.laidAll Tryz.prog os Rows.globalOrderRow.laid) #[Value.slice none 0 0,Value.int .i64 0,Value.int .i64 0] (World.laidAll_os _ _ _) (by kernel_rfl) (by kernel_rfl) (by kernel_rfl)
    (OpenSpec.preRow_of_cond 8 hx (by kernel_rfl) (fun k hk=>by cases hk) (by kernel_rfl) (z78 os))) ?_
 intro W base args ds gs before hval0 hW _ _ _ _ _ _
 have hval:∀ (j:Nat) t v,Tryz.f5.params[j]? =some t→args[j]? =some v→Value.okWide Tryz.prog W .any base t v:=hval0
 have hW2:DataW.Whole enc Tryz.prog Tryz.f5.params.toList Rows.globalOrderSpec.vars false W args.toList ds gs before:=hW
 obtain⟨p,q,hA0,hV,rfl,hfz,hnd⟩:=hW
 have hA:DataW.TrodAll enc Tryz.prog W 0 (fun _=>true) true Tryz.f5.params.toList args.toList ds p:=hA0
 rw[Tryz.params5] at hA hval
 obtain⟨v0,vs0,d0,ds0,p0,q0,e0,rfl,rfl,h0,r0⟩:=trodAll_cons hA
 obtain⟨v1,vs1,d1,ds1,p1,q1,rfl,rfl,rfl,h1,r1⟩:=trodAll_cons r0
 obtain⟨v2,vs2,d2,ds2,p2,q2,rfl,rfl,rfl,h2,r2⟩:=trodAll_cons r1
 obtain⟨rfl,rfl,rfl⟩:=trodAll_nil r2
 obtain rfl:args=#[v0,v1,v2]:=by cases args;simp_all
 obtain⟨a0,l0,x0⟩:=zin (k:=.i64) (e:=3) (by kernel_rfl) (by kernel_rfl) (by kernel_rfl) (hval 0 22 v0 rfl rfl) h0
 obtain⟨a1,rfl,rfl,rfl,w1⟩:=open_int (k:=.i64) (by kernel_rfl) (hval 1 3 v1 rfl rfl) h1
 obtain⟨a2,rfl,rfl,rfl,w2⟩:=open_int (k:=.i64) (by kernel_rfl) (hval 2 3 v2 rfl rfl) h2
 have key:Calls Tryz.prog 5 #[v0,.int .i64 a1,.int .i64 a2] W fun e W2=>∃ v,e=.returned v∧Rows.globalOrderSpec.post enc Tryz.prog Tryz.f5 false true false false W #[v0,.int .i64 a1,.int .i64 a2] v W2:=by
  refine(zhm (P:=Tryz.prog) (vs:=[v0,.int .i64 a1,.int .i64 a2]) (zjk a0 a1 a2 l0) W rfl ?_).mono ?_
  · intro j pp v hj hv
    match j,hj,hv with
    | 0,hj,hv=>simp at hj hv;subst hj;subst hv;exact .d _ _ x0
    | 1,hj,hv=>simp at hj hv;subst hj;subst hv;exact PR.I _ _
    | 2,hj,hv=>simp at hj hv;subst hj;subst hv;exact PR.I _ _
  · rintro e W2 ⟨he,own2,hE⟩
    exact⟨_,he,zf1 (P:=Tryz.prog) (tb:=4) (by kernel_rfl) (by kernel_rfl) hW2 hE rfl rfl (by kernel_rfl) (by kernel_rfl)⟩
 exact key
theorem globalOrder_said:Rows.GlobalOrderSaid :=
 OpenClaim.holds_of_cond 5 Tryz.f5 rfl rfl rfl rfl rfl rfl rfl ⟨rfl,rfl,rfl,rfl,rfl⟩ rfl rfl rfl rfl rfl (by kernel_rfl) Tryz.func5 (by kernel_rfl)
  (of_decide_eq_true (by kernel_rfl)) (by unfold Func.isWrapper;first|(rw[zAs (by decide +kernel)];kernel_rfl)|(rw[zAr (by decide +kernel)];exact⟨rfl,rfl⟩))
  (fun os started H enc _ F=>by rw[OpenClaim.pre_eq_preRow];exact z5q os started H enc F)
theorem z6d (f:FuncId) (fn:Func) (hf:Tryz.pinned.checked.prog.funcNamed "corpora/corporalaw26.GlobalOrder" =some f) (hfn:Tryz.pinned.checked.prog.funcs[f]? =some fn) :
 false=Tryz.pinned.checked.prog.looks []∧∀ (j:Nat) t,fn.params[j]? =some t→Tryz.pinned.checked.prog.wantsStandIn t=false:=by
 obtain rfl:f=5:=Option.some.inj ((show Tryz.prog.funcNamed "corpora/corporalaw26.GlobalOrder" =some 5 by kernel_rfl).symm.trans hf) |>.symm
 obtain rfl:fn=Tryz.f5:=(Option.some.inj (Tryz.func5.symm.trans hfn)).symm
 refine⟨by kernel_rfl,fun j t ht=>?_⟩
 rw[Tryz.params5] at ht
 have hm:t∈(#[22,3,3]:Array TypeId):=Array.mem_of_getElem? ht
 simp only[List.mem_toArray,zAa,List.not_mem_nil,or_false] at hm
 rcases hm with rfl|rfl|rfl
 · exact(show Tryz.prog.wantsStandIn 22=false by kernel_rfl)
 · exact(show Tryz.prog.wantsStandIn 3=false by kernel_rfl)
 · exact(show Tryz.prog.wantsStandIn 3=false by kernel_rfl)
theorem globalOrder_card:Rows.GlobalOrderCardSaid :=
 Claim7.holds_tied_plain_at .later [] _ _ _ _ globalOrder_said (fun _ h=>by cases h) (by kernel_rfl) (fun _ h=>by cases h) globalOrder_row_tie rfl ⟨rfl,rfl⟩ (by kernel_rfl) rfl z6d (by kernel_rfl)
#print axioms globalOrder_card
end Go.Proofs.YtonhfccmeammbaaGreatDoor
