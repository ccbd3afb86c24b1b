/- A part of the proof: A10. -/
import Derived.Test.YthdfkabdoidjfaaGreatDoorQ1
set_option linter.all false
set_option linter.unusedVariables false
set_option linter.unusedSimpArgs false
namespace Go.Proofs.YthdfkabdoidjfaaGreatDoor
open Go.Ab Go.Ax Go.Rx
set_option maxHeartbeats 20000000
set_option maxRecDepth 100000
attribute [local irreducible] Run Ops Op1 z2b Val Tr z0v z2c NF Rel z3w z3x
abbrev z4v (l:List Int):D:=.slice (l.map fun x=>[z3e x])
def zdv (l:List Int) (i:Nat):Int:=match l[i+1]? with|some x=>x-1|none=>1114111
theorem y2o (l:List Int) (hl:l.length≤1000000) (hr:∀ x∈l,0≤x∧x≤1114112) (i:Nat) (hi:i<l.length):z0v Tryz.prog 93 [.d (z4v l),I .i64 (i:Nat)] (I .i32 (zdv l i)):=by
 refine z1e fun H=>?_
 refine z0k Tryz.func93 (by kernel_rfl) rfl (by simp) ?_
 dsimp only[Tryz.f93]
 rw[zdv]
 by_cases hlt:i+1<l.length
 · obtain⟨x,hx⟩:∃ x,l[i+1]? =some x:=⟨_,List.getElem?_eq_getElem hlt⟩
   have hxr:=hr x (List.mem_of_getElem? hx)
   have hxi:l[(((i:Nat):Int)+1).toNat]? =some x:=by rw[show (((i:Nat):Int)+1).toNat=i+1 by omega];exact hx
   rw[hx]
   simp only
   repeat' (first|(apply z05;(first|refine z0o ?_| (apply z09;(refine z02 z1p rfl rfl ?_))|(apply z0f;(refine z02 (z1i (ys:=l.map fun x=>[z3e x]) rfl (z52 (g:=fun x=>[z3e x]) hxi)) rfl rfl ?_))|(apply z0p;(first|refine z02 (z22 (z8x (by omega) (by omega))) rfl rfl ?_| refine z02 (z0q z1c) rfl rfl ?_))|(apply z0t;(refine z02 (z1b rfl) rfl rfl ?_))))|(apply z08;(first|refine z0n ?_|apply z07))|(apply z06;(first|apply z0a|apply z00|apply z04|refine z0g (fun _=>?_) (fun _=>?_))))
   all_goals try (exfalso;omega)
   all_goals exact z0l Tryz.func93 _ z16 ⟨rfl,rfl⟩
 · rw[List.getElem?_eq_none (by omega)]
   simp only
   repeat' (first|(apply z05;(first|refine z0o ?_| (apply z0p;(refine z02 (z0q z1c) rfl rfl ?_))|(apply z0t;(refine z02 (z1b rfl) rfl rfl ?_))))|(apply z08;(first|refine z0n ?_|apply z07))|(apply z06;(first|apply z0a|apply z00|apply z04|refine z0g (fun _=>?_) (fun _=>?_))))
   all_goals try (exfalso;omega)
   all_goals exact z0l Tryz.func93 _ z16 ⟨rfl,rfl⟩
end Go.Proofs.YthdfkabdoidjfaaGreatDoor
