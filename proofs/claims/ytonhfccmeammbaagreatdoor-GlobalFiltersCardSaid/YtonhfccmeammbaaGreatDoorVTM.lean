/- A part. -/
import Derived.Test.YtonhfccmeammbaaGreatDoorVTK
set_option linter.all false
open Go.Proofs.Tryz
set_option maxRecDepth 100000
namespace Go.Proofs.YtonhfccmeammbaaGreatDoor
open Go.Ab Go.Rx
set_option maxHeartbeats 20000000
set_option maxRecDepth 100000
attribute [local irreducible] Run Ops Op1 z1z Val Tr z0q z1v NF Rel z5c z5d zal z4v z2b
theorem y21(τ:Tab)(l m:List Int)(hl:l.length≤9223372036854775807)(hm:m.length≤9223372036854775807):z1v prog 3 [.d (ints l),.d (ints m)] (z98 τ 0) [] (B true):=by
 refine z2a fun H hH=>?_
 have hT:HT τ 0 H:=HT.of (bs:=[]) hH
 refine z0g func3 (by kernel_rfl) rfl (by simp) ?_
 dsimp only[f3]
 have hl2:(l.take 120).length≤120:=by simp;omega
 have hm2:(m.take 120).length≤120:=by simp;omega
 repeat' first|(apply z05;first|refine z0n ?_| (apply z0a;refine z02 z1y rfl rfl ?_)|(apply z0s;refine z02 (z0w rfl) rfl rfl ?_)|(apply z0j;first|(refine z6f (zlx _ 0 6 hl2 (by decide) (by decide)) rfl rfl (by decide) ?_;rintro⟨c,k1⟩ ⟨⟨s,hs,hc⟩,hk1⟩;simp only at hc hk1⊢;have hw:=hc.wf (by omega);have ht:=hw.tok;have ht0:=hw.tok0;have htx:=hc.ntexts;have htx0:=hc.text0;have hrf:=hc.rf hs)|refine z29 zdj ?_| (refine z6f (zch _ z2i hm2 (by decide) 3 0 (by decide) (by decide)) rfl rfl (by decide) ?_;rintro⟨g,k2⟩ ⟨g1,g2,g3⟩;simp only at g1 g2 g3⊢)|(refine z6f (zhu _ k1 c 8 hl2 (by omega) (by decide) (by omega) (by omega) hc.span) rfl rfl (by decide) ?_;rintro⟨ms,k3⟩ ⟨m1,m2,m3⟩;simp only at m1 m2 m3⊢))|(apply z0f;refine z25 ?_)|(apply z0l;refine z0b z2e ?_)|(refine ztq (d:=11) rfl hl (by decide) rfl ?_;refine zjc 11 500 rfl rfl ?_)|(refine ztq (d:=15) rfl hm (by decide) rfl ?_;refine zjc 15 501 rfl rfl ?_))|(apply z06;first|refine z0m ?_|apply z09)|(apply z07;first|apply z08|apply z00|apply z01)
 refine z0r ?_
 refine z0d (z1o (fun q:Nat=>⟨39,[(6,.ptr (0,6) 0),(7,.ptr (0,7) 0),(20,.d (.slice (ms.map Mat.cs))),(21,I .i64 ms.length),(22,I .i64 (q:Nat))],[(7,.box (g.cs.map .d)),(6,.box (c.cs.map .d))],H⟩) (fun q=>q≤ms.length) (fun q=>ms.length-q) ?_ 0 (zAf _)) rfl rfl
 intro q hq ih
 by_cases hlt:q<ms.length
 ·obtain⟨x,hx⟩:∃x,ms[q]? =some x:=⟨_,zA0 hlt⟩
  obtain⟨q1,q2,q3,i,j,rfl',hi,hj⟩:=m1 x (zA2 hx)
  obtain⟨mb,me,ls⟩:=x
  simp only at q1 q2 q3 rfl'
  subst rfl'
  have hal:c.attrs.length≤1000000:=by rw[hc.attrs];decide
  have hP:=zsp τ c hc.attrs g g1 (by omega) mb me [i,j] (by omega) rfl (by intro t ht3;simp only[zAc,List.not_mem_nil,or_false]at ht3;rcases ht3 with rfl|rfl <;> assumption) (z36 c i j g) (zaq τ hw mb me hi hj hrf.nn hrf.nr hal hrf.vs g g1) (0+1)
  have hR:=zlm hrf g g1 (by omega) mb me hi hj
  generalize z36 c i j g=r at hP hR
  cases r
  all_goals repeat' first|(apply z05;first|refine z0n ?_| (apply z0a;refine z02 z1w rfl rfl ?_)|(apply z0k;refine z02 (z1a rfl (idx hx)) rfl rfl ?_)|(apply z0t;refine z02 (z0z z1h) rfl rfl ?_)|(apply z0f;refine z25 ?_)|(apply z0l;refine z0b z2e ?_))|(apply z06;first|refine z0m ?_|apply z09)|(apply z07;first|apply z08|apply z00|refine z15 ?_| apply z04|apply z01|apply z2o|apply z03|refine z0h (fun _=>?_) (fun _=>?_)| refine z0o ?_)|(apply z2m;first|(apply z1e;refine z2c mix ?_)|(apply z0v;first|refine z0x z1r rfl rfl ?_| refine z0x z1y rfl rfl ?_)|(apply z3p;refine z0x (zwy rfl) rfl rfl ?_)|(apply z1s;first|refine z5b zdj ?_| refine z5b hR ?_| refine zjd hP (by first|exact rfl|exact⟨_,rfl,rfl,rfl⟩) rfl (bkT hT) (by decide) ?_))
  all_goals try (exfalso;first|omega|contradiction|(simp at *;done))
  all_goals first
   | exact z0d (ih (q+1) (by omega) (by omega)) rfl rfl
 ·repeat' (first|(apply z05;first|refine z0n ?_| (apply z0j;refine z29 zjh ?_))|(apply z06;first|refine z0m ?_|apply z09)|(apply z07;first|apply z08|apply z00|apply z04|apply z01|refine z0h (fun _=>?_) (fun _=>?_)| refine z0o ?_))
  all_goals try omega
  all_goals exact z0e func3 _ z0p ⟨rfl,rfl⟩
theorem y6o(τ:Tab){s:Nat}{c:z10}(hc:Made s c)(hs:s≤3)(g:Cn)(g1:zau z2i g)(gx:g.high≤5)(ms:List Mat)(hms:∀m∈ms,zpr c m)(hl:ms.length≤1000)(e0:Nat):∃A:List Mat,
 z1v prog 19 [c.d,g.d,.d (strs z2i),mls ms] (z98 τ e0) [] (mls A)∧z0q prog 20 [c.d,g.d,.d (strs z2i),mls ms] (mls A)∧z0q prog 18 [mls A,mls A] (B true):=by
 have hr:=hc.rf hs
 refine⟨_,zv1 τ hr.wf hr.nn hr.nr hr.at_ hr.vs g g1 gx ms hms hl e0,zpd hr g g1 gx ms hms hl,zyk _ (Nat.le_trans (List.length_filter_le _ _) (by omega)) fun m hm=>?_⟩
 obtain⟨-,-,-,i,j,e,-⟩:=hms m (List.mem_filter.1 hm).1
 rw[e];simp
theorem y1z(τ:Tab)(l m:List Int)(hl:l.length≤9223372036854775807)(hm:m.length≤9223372036854775807):z1v prog 6 [.d (ints l),.d (ints m)] (z98 τ 0) [] (B true):=by
 refine z2a fun H hH=>?_
 have hT:HT τ 0 H:=HT.of (bs:=[]) hH
 refine z0g func6 (by kernel_rfl) rfl (by simp) ?_
 dsimp only[f6]
 have hl2:(l.take 120).length≤120:=by simp;omega
 have hm2:(m.take 120).length≤120:=by simp;omega
 repeat' first|(apply z05;first|refine z0n ?_| (apply z0a;refine z02 z1y rfl rfl ?_)|(apply z0j;first|(refine z6f (zlx _ 0 6 hl2 (by decide) (by decide)) rfl rfl (by decide) ?_;rintro⟨c,k1⟩ ⟨⟨s,hs,hc⟩,hk1⟩;simp only at hc hk1⊢;have hw:=hc.wf (by omega);have ht:=hw.tok;have ht0:=hw.tok0;have htx:=hc.ntexts;have htx0:=hc.text0)|refine z29 zdj ?_| (refine z6f (zch _ z2i hm2 (by decide) 2 0 (by decide) (by decide)) rfl rfl (by decide) ?_;rintro⟨g,k2⟩ ⟨g1,g2,g3⟩;simp only at g1 g2 g3⊢)|(refine z6f (zhu _ k1 c 10 hl2 (by omega) (by decide) (by omega) (by omega) hc.span) rfl rfl (by decide) ?_;rintro⟨ms,k3⟩ ⟨m1,m2,m3⟩;simp only at m1 m2 m3⊢;obtain⟨A,FP,FR,FS⟩:=y6o τ hc hs g g1 (by omega) ms m1 (by omega) (0+1)))|(apply z0f;refine z25 ?_)|(apply z0l;refine z0b z2e ?_)|(refine ztq (d:=10) rfl hl (by decide) rfl ?_;refine zjc 10 500 rfl rfl ?_)|(refine ztq (d:=14) rfl hm (by decide) rfl ?_;refine zjc 14 501 rfl rfl ?_))|(apply z06;first|refine z0m ?_|apply z09)|(apply z07;first|apply z08|apply z00|apply z2o)|(apply z2m;first|(apply z1e;refine z2c mix ?_)|refine z2w ?_| (apply z0v;refine z0x z1y rfl rfl ?_)|(apply z1s;first|refine z5b zdj ?_| refine zjd FP (by first|exact rfl|exact⟨_,rfl,rfl,rfl⟩) rfl (bkT hT) (by decide) ?_|refine z5b FR ?_| refine z5b FS ?_| refine z5b zjh ?_))
 all_goals try (exfalso;first|omega|contradiction)
 all_goals first
  | exact z0e func6 _ z0p ⟨rfl,rfl⟩
end Go.Proofs.YtonhfccmeammbaaGreatDoor
