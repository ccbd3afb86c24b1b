/- A part of the proof: A10 to A10. -/
import Derived.Test.YthdfkabdoidjfaaGreatDoorQ1
set_option linter.all false
namespace Go.Proofs.YthdfkabdoidjfaaGreatDoor
open Go.Ab Go.Ax Go.Rx
set_option maxHeartbeats 20000000
set_option maxRecDepth 100000
attribute [local irreducible] Run Ops Op1 z2i Val Tr z0z z27 NF Rel z3r z3s
abbrev z5g (l:List Int):D:=.slice (l.map fun x=>[z1v x])
def zez (l:List Int) (i:Nat):Int:=match l[i+1]? with|some x=>x-1|none=>1114111
theorem y4e (l:List Int) (hl:l.length≤1000000) (hr:∀ x∈l,0≤x∧x≤1114112) (i:Nat) (hi:i<l.length):z0z Tryz.prog 93 [.d (z5g l),I .i64 (i:Nat)] (I .i32 (zez l i)):=by
 refine z1l fun H=>?_
 refine z0m Tryz.func93 (by kernel_rfl) rfl (by simp) ?_
 dsimp only[Tryz.f93]
 rw[zez]
 by_cases hlt:i+1<l.length
 · obtain⟨x,hx⟩:∃ x,l[i+1]? =some x:=⟨_,zA0 hlt⟩
   have hxr:=hr x (zA2 hx)
   have hxi:l[(((i:Nat):Int)+1).toNat]? =some x:=by rw[show (((i:Nat):Int)+1).toNat=i+1 by omega];exact hx
   rw[hx]
   simp only
   repeat' (first|(apply z07;(first|refine z0p ?_| (apply z0a;(refine z02 z22 rfl rfl ?_))|(apply z0i;(refine z02 (z0v (ys:=l.map fun x=>[z1v x]) rfl (z5o (g:=fun x=>[z1v x]) hxi)) rfl rfl ?_))|(apply z0n;(first|refine z02 (z1g (z9j (by omega) (by omega))) rfl rfl ?_| refine z02 (z0r z0y) rfl rfl ?_))|(apply z14;(refine z02 (z1j rfl) rfl rfl ?_))))|(apply z08;(first|refine z0o ?_|apply z09))|(apply z05;(first|apply z06|apply z00|apply z04|refine z0f (fun _=>?_) (fun _=>?_))))
   all_goals try (exfalso;omega)
   all_goals exact z0q Tryz.func93 _ z1e ⟨rfl,rfl⟩
 · rw[zAv (by omega)]
   simp only
   repeat' (first|(apply z07;(first|refine z0p ?_| (apply z0n;(refine z02 (z0r z0y) rfl rfl ?_))|(apply z14;(refine z02 (z1j rfl) rfl rfl ?_))))|(apply z08;(first|refine z0o ?_|apply z09))|(apply z05;(first|apply z06|apply z00|apply z04|refine z0f (fun _=>?_) (fun _=>?_))))
   all_goals try (exfalso;omega)
   all_goals exact z0q Tryz.func93 _ z1e ⟨rfl,rfl⟩
end Go.Proofs.YthdfkabdoidjfaaGreatDoor
