/- A part. -/
import Derived.Test.YtonhfccmeammbaaGreatDoorVw
set_option linter.all false
open Go.Proofs.Tryz
namespace Go.Proofs.YtonhfccmeammbaaGreatDoor
open Go.Ab Go.Rx
set_option maxHeartbeats 20000000
set_option maxRecDepth 100000
attribute [local irreducible] Run Ops Op1 z1z Val Tr z0q z1v NF Rel z5c z5d zal
theorem zeg(e:Rx)(hf:fit e):z0q prog 107 [.d (Drx e)] (I .i64 (val e)):=by
 refine z0y fun H=>?_
 have hsh:=zxw e hf 1 (by decide) (by decide)
 have hvs:=y3n e
 have hss:=zqx.1 e 1 (by decide)
 have hpo:=zi7 e hf
 obtain⟨V,hV⟩:∃V,val e=V:=⟨_,rfl⟩
 rw[hV]at hvs⊢
 have hvn:¬(200<(sh e 1).1∨40<(sh e 1).2.1)→(sh e 1).2.2=true→vns e=true:=fun h1 h2=>by
  by_cases hc:(1:Int)+dp e≤41∧sz e≤200
  ·rw[zAz hc]at hss;rw[hss]at h2;exact h2
  ·rw[zAy hc]at hss;exact absurd hss h1
 generalize sh e 1=S at *
 obtain⟨n,c,b⟩:=S
 simp only at hvs hvn
 by_cases h1:200<n∨40<c
 ·rw[zAz h1]at hvs
  subst hvs
  obtain⟨op,mn,mx,rs,ks⟩:=e
  rw[z4d]at hsh⊢
  dsimp only[shv]at hsh
  refine z0g func107 (by kernel_rfl) rfl (by simp) ?_
  dsimp only[f107]
  repeat' first|(apply z05;first|refine z0n ?_| (apply z0a;refine z02 z1r rfl rfl ?_)|(apply z0j;refine z29 hsh ?_)|(apply z18;refine z0b z1m ?_))|(apply z06;first|refine z0m ?_|apply z09|refine z1g ?_| refine z1p (fun _=>?_) fun _=>?_)|(apply z07;first|apply z08|apply z00|refine z1j ?_| apply z01|refine z0h (fun _=>?_) (fun _=>?_)| refine z2q rfl (fun _=>?_) fun _=>?_)
  all_goals try omega
  all_goals exact z0e func107 _ z0p ⟨rfl,rfl⟩
 ·rw[zAy h1]at hvs
  cases b with
  | false =>
   rw[zAz rfl]at hvs
   subst hvs
   obtain⟨op,mn,mx,rs,ks⟩:=e
   rw[z4d]at hsh⊢
   dsimp only[shv]at hsh
   refine z0g func107 (by kernel_rfl) rfl (by simp) ?_
   dsimp only[f107]
   repeat' first|(apply z05;first|refine z0n ?_| (apply z0a;refine z02 z1r rfl rfl ?_)|(apply z0j;refine z29 hsh ?_)|(apply z18;refine z0b z1m ?_))|(apply z06;first|refine z0m ?_|apply z09|refine z1g ?_| refine z1p (fun _=>?_) fun _=>?_)|(apply z07;first|apply z08|apply z00|refine z1j ?_| apply z01|refine z0h (fun _=>?_) fun _=>?_)
   all_goals try omega
   all_goals exact z0e func107 _ z0p ⟨rfl,rfl⟩
  | true =>
   rw[zAy (by decide)]at hvs
   have hpo:=hpo (hvn h1 rfl)
   generalize ps 1048576 e=P at *
   obtain⟨op,mn,mx,rs,ks⟩:=e
   rw[z4d]at hsh hpo⊢
   dsimp only[shv]at hsh
   subst hvs
   refine z0g func107 (by kernel_rfl) rfl (by simp) ?_
   dsimp only[f107]
   by_cases hp:64<P
   ·rw[zAz hp]
    all_goals exact zD25
   ·rw[zAy hp]
    all_goals exact zD25
end Go.Proofs.YtonhfccmeammbaaGreatDoor
