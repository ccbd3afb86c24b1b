/- A part of the proof: B1 to B4. -/
import Derived.Test.YthdfkabdoidjfaaGreatDoorSn
import Derived.Test.YthdfkabdoidjfaaGreatDoorS6
import Derived.Test.YthdfkabdoidjfaaGreatDoorSm
import Derived.Test.YthdfkabdoidjfaaGreatDoorSy
set_option linter.all false
namespace Go.Proofs.YthdfkabdoidjfaaGreatDoor
open Go.Ab Go.Ax Go.Rx
set_option maxHeartbeats 20000000
set_option maxRecDepth 100000
attribute [local irreducible] Run Ops Op1 z25 Val Tr z0y z1x NF Rel z3j z3l
structure Okn (n:Nat) (a:Au):Prop where
 fit:zam a
 val:vAu a=0
 few:a.F.length≤n
theorem zst {n:Nat} {a:Au} (h:AuW a) (hn:a.F.length≤n) (h2:n≤256):Okn n a :=
 ⟨z71 (z9b h (by omega)),z9b h (by omega),hn⟩
theorem z9d {a:Au} (h:AuW a):∀ l∈a.A,l.length≤1114112:=fun l hl=>zk8 (h.arc l hl).1 fun x hx=>by have:=(h.arc l hl).2 x hx;omega
theorem zdv {n m:Nat} {a b:Au} (ha:Okn n a) (hb:Okn m b) (hnm:(n+1)*(m+1)≤256) (op:Int) (h1:1≤op) (h4:op≤4) :
 ∃ c,z0y Tryz.prog 24 [.d (auD a),.d (auD b),I .i64 op] (.tup [.d (auD c),I .i64 0])∧Nrm c∧AuW c∧c.F.length≤(n+1)*(m+1)∧∀ w,c.acc 0 w=(vld w&&z4t op (a.acc 0 w) (b.acc 0 w)):=by
 have wa:=z6a ha.val
 have wb:=z6a hb.val
 have fa:=ha.few
 have fb:=hb.few
 have hle:(a.F.length+1)*(b.F.length+1)≤(n+1)*(m+1):=Nat.mul_le_mul (by omega) (by omega)
 have la:a.F.length+1≤(a.F.length+1)*(b.F.length+1):=Nat.le_mul_of_pos_right _ (by omega)
 have lb:b.F.length+1≤(a.F.length+1)*(b.F.length+1):=Nat.le_mul_of_pos_left _ (by omega)
 obtain⟨x,c,x1,x2,c1,c2,c3,c4,c5⟩:=zwd wa wb op (by omega)
 have h:=y4e (N:=4456450) (n:=1114112) (m:=1114112) (zeu 4456450 (by omega)) (by omega) a b op ha.fit hb.fit ha.val hb.val h1 h4 (zbp wa (by omega)) (zbp wb (by omega)) (z9d wa) (z9d wb) (by omega) (fun y hy=>by rw[x1] at hy;cases hy;exact x2)
 rw[c1,zww] at h
 exact⟨c,h,c2,c3,by omega,c5⟩
theorem zmv:Okn 1 zor:=⟨⟨by decide,by decide,by decide⟩,by decide,by decide⟩
theorem zul (c:Int) (w:List Int):vld (c::w)=((decide (0≤c)&&decide (c≤1114111))&&vld w):=rfl
theorem zfz:∀ w:List Int,zor.acc 0 w=vld w
 | []=>rfl
 | c::w=>by
  rw[Au.acc_cons]
  have e:zor.nx 0 c=if 0≤c∧c≤1114111 then 0 else -1:=by
   show nxt [(0,1114111,0)] c=_
   rw[nxt,nxt]
  rw[e,zul]
  by_cases g:0≤c∧c≤1114111
  · rw[zAz g,zAi g.1,zAi g.2,zfz w];rfl
  · rw[zAy g,Au.acc_neg _ w (by decide)]
    have:(decide (0≤c)&&decide (c≤1114111))=false:=by
     exact zD100
    rw[this];rfl
theorem z8n {n:Nat} {a:Au} (ha:Okn n a) (hn:2*(n+1)≤256) :
 ∃ c,z0y Tryz.prog 26 [.d (auD a)] (.tup [.d (auD c),I .i64 0])∧Nrm c∧AuW c∧c.F.length≤2*(n+1)∧∀ w,c.acc 0 w=(vld w&&!a.acc 0 w):=by
 obtain⟨c,h,c1,c2,c3,c4⟩:=zdv zmv ha hn 3 (by decide) (by decide)
 refine⟨c,zrn a ⟨c,0,rfl⟩ h,c1,c2,c3,fun w=>?_⟩
 rw[c4,z4t,zAy (by decide),zAy (by decide),zAz rfl,zfz]
 cases vld w <;> rfl
theorem zn7 (a:Au):∀ (w:List Int) (q c:Int),a.run q (w++[c])=a.nx (a.run q w) c
 | [],q,c=>rfl
 | d::w,q,c=>zn7 a w (a.nx q d) c
theorem z8c (a:Au):∀ (w v:List Int) (q:Int),a.run q (w++v)=a.run (a.run q w) v
 | [],v,q=>rfl
 | d::w,v,q=>z8c a w v (a.nx q d)
theorem zgo {a:Au} (h:Go.Ax.Can a):∀ (m:Nat) (j:Nat),j≤m→j<a.F.length→∃ w,a.run 0 w=(j:Nat)
 | 0,j,hj,_=>⟨[],by rw[show j=0 by omega];rfl⟩
 | m+1,j,hj,hl=>by
  by_cases g:j=0
  · exact⟨[],by rw[g];rfl⟩
  · obtain⟨i,c,i0,i1,e,_⟩:=h.bfs (j:Nat) (by omega) (by omega)
    obtain⟨w,hw⟩:=zgo h m i.toNat (by omega) (by omega)
    refine⟨w++[c],?_⟩
    rw[zn7,hw,Int.toNat_of_nonneg i0,e]
theorem zs4 {a:Au} (h:AuW a):∀ (w:List Int) (q:Int),-1≤q→q<a.F.length→-1≤a.run q w∧a.run q w<a.F.length
 | [],q,h1,h2=>⟨h1,h2⟩
 | c::w,q,_,_=>zs4 h w _ (h.nx q c).1 (h.nx q c).2
theorem y27 {a b c:Au} (wa:AuW a) (wb:AuW b) (hc:Nrm c) {f:Bool→Bool→Bool} (h:∀ w,c.acc 0 w=(vld w&&f (a.acc 0 w) (b.acc 0 w))):c.F.length≤(a.F.length+1)*(b.F.length+1):=by
 rcases hc with hc|rfl
 · have hpa:=wa.pos
   have hpb:=wb.pos
   let W:Nat→List Int:=fun j=>if hj:j<c.F.length then Classical.choose (zgo hc j j (zAj _) hj) else []
   have hW:∀ j,j<c.F.length→c.run 0 (W j)=(j:Nat):=fun j hj=>by
    have:=Classical.choose_spec (zgo hc j j (zAj _) hj)
    simp only[W,dif_pos hj];exact this
   have hv:∀ j,j<c.F.length→∀ v,vld (W j++v)=vld v:=fun j hj v=>by
    obtain⟨u,hu⟩:=hc.live (j:Nat) (by omega) (by omega)
    have e:c.acc 0 (W j++u)=true:=by rw[Au.acc,z8c,hW j hj];exact hu
    rw[h,zA7] at e
    have e1:=e.1
    rw[vld,List.all_append,zA7] at e1
    rw[vld,List.all_append,e1.1];rfl
   have key:((List.range c.F.length).map fun j=>(a.run 0 (W j),b.run 0 (W j))).Nodup:=by
    rw[List.nodup_iff_pairwise_ne,List.pairwise_map]
    have hn:=List.nodup_range (n:=c.F.length)
    rw[List.nodup_iff_pairwise_ne] at hn
    refine hn.imp_of_mem fun {i j} hi hj hij e=>hij ?_
    have hi:=List.mem_range.1 hi
    have hj:=List.mem_range.1 hj
    have e1:=congrArg Prod.fst e
    have e2:=congrArg Prod.snd e
    simp only at e1 e2
    have:=hc.dif (i:Nat) (j:Nat) (by omega) (by omega) (by omega) (by omega) fun v=>by
     have k1:c.acc (i:Nat) v=c.acc 0 (W i++v):=by rw[Au.acc,Au.acc,z8c,hW i hi]
     have k2:c.acc (j:Nat) v=c.acc 0 (W j++v):=by rw[Au.acc,Au.acc,z8c,hW j hj]
     rw[k1,k2,h,h,hv i hi,hv j hj,Au.acc,Au.acc,Au.acc,Au.acc,z8c,z8c,z8c,z8c,e1,e2]
    omega
   have:=zyg (a:=a) (b:=b) key fun p hp=>by
    obtain⟨j,_,rfl⟩:=List.mem_map.1 hp
    have r1:=zs4 wa (W j) 0 (by omega) (by omega)
    have r2:=zs4 wb (W j) 0 (by omega) (by omega)
    exact⟨r1.1,r1.2,r2.1,r2.2⟩
   rw[zA4,List.length_range] at this
   exact this
 · exact Nat.mul_pos (by omega) (by omega)
attribute [local irreducible] zca
theorem zl9 {n:Nat} {a:Au} (hf:zam a) (hv:vAu a=0) (h:¬ lgA n a=true):Okn n a :=
 ⟨hf,hv,by have:=(zyz h).1;omega⟩
theorem zp4 {n:Int} {a b:Au}:[a,b].any (lgA n)=(lgA n a||lgA n b):=by simp
theorem zks (s:ByteArray):vld (cps s 0)=true:=by
 rw[vld,cps,List.all_map,List.all_eq_true]
 intro u hu
 have:=z4o.1 (zgw s _ 0 (zAj _) u hu)
 simp only[Function.comp,zA7,zA3]
 omega
theorem z8a {a:Au} (h:vAu a=0) (s:ByteArray):zh7 a s=(zc5 s&&a.acc 0 (cps s 0)):=by
 rw[zh7]
 cases hv:zc5 s with
 | true=>rw[zAz ⟨h,rfl⟩];rfl
 | false=>rw[zAy (fun g=>by cases g.2)];rfl
theorem z8r {a:Au} (h:vAu a=0):∀ l∈a.A,l.length≤4611686018427387904:=fun l hl=>by have:=z9d (z6a h) l hl;omega
theorem zse (τ:Tab) (a b:Au) (hfa:zam a) (hfb:zam b) (s:ByteArray) (hs:s.size≤maxLen):z1x Tryz.prog 9 [.d (auD a),.d (auD b),S s] (zeo τ 0) [] (B true):=by
 refine z22 fun H hH=>?_
 have hX0:=hH ((0,700),.glob 0 τ.o0) (by simp)
 have hX1:=hH ((0,701),.glob 1 τ.o1) (by simp)
 have haw:=zkz τ
 have hlg:=zkn 7 (by omega) [a,b] (by simp) (by simpa using ⟨hfa,hfb⟩)
 rw[zp4] at hlg
 have hmax:maxLen≤9223372036854775807:=by simp[maxLen]
 by_cases hb:(lgA 7 a||lgA 7 b)=true
 · rw[hb] at hlg
   obtain⟨F,A⟩:=a
   obtain⟨G,C⟩:=b
   refine z0k Tryz.func9 (by kernel_rfl) rfl (by simp) ?_
   dsimp only[Tryz.f9]
   refine z3x 700 0 700 hX0 ?_
   refine z3x 701 0 701 (z10 hX1 (by simp)) ?_
   repeat' (first|(apply z08;(first|refine z0o ?_| (apply z0a;(refine z02 z2q rfl rfl ?_))|(apply z0q;(refine z0z hlg ?_))|(apply z1s;(refine z0b z3k ?_))|(apply z2i;(refine z2n rfl ?_))))|(apply z07;(first|refine z0m ?_|apply z09|refine z1u ?_))|(apply z05;(first|apply z06|apply z00|refine z1a ?_)))
   all_goals exact zD23
 have hb':=hb
 rw[zAu,not_or] at hb'
 rw[Bool.not_eq_true] at hb
 rw[hb] at hlg
 by_cases h30:30<s.size
 · obtain⟨F,A⟩:=a
   obtain⟨G,C⟩:=b
   refine z0k Tryz.func9 (by kernel_rfl) rfl (by simp) ?_
   dsimp only[Tryz.f9]
   refine z3x 700 0 700 hX0 ?_
   refine z3x 701 0 701 (z10 hX1 (by simp)) ?_
   repeat' (first|(apply z08;(first|refine z0o ?_| (apply z0a;(refine z02 z2q rfl rfl ?_))|(apply z13;(refine z02 (z56 rfl) rfl rfl ?_))|(apply z0q;(refine z0z hlg ?_))|(apply z1s;(refine z0b z3k ?_))|(apply z2i;(refine z2n rfl ?_))))|(apply z07;(first|refine z0m ?_|apply z09))|(apply z05;(first|apply z06|apply z00|apply z04|apply z2c|refine z0f (fun _=>?_) (fun _=>?_)))|(apply z2d;(first|refine z2e ?_| (apply z0l;(refine z0h z2q rfl rfl ?_)))))
   all_goals exact zD23
 have hmx:s.size≤1000000:=by omega
 by_cases h:vAu a≠0∨vAu b≠0
 · have m1:=zyt a b 1 hfa hfb (by rcases h with h|h;exact .inl h;exact .inr (.inl h))
   have hl:=fun (l:List Arc)=>zj0 hb'.1 hfa l
   have hl2:=fun (l:List Arc)=>zj0 hb'.2 hfb l
   have r1:=zap a hfa (fun l hl=>by have:=zj0 hb'.1 hfa l hl;omega) s hmx
   have r2:=zap b hfb (fun l hl=>by have:=zj0 hb'.2 hfb l hl;omega) s hmx
   clear hl hl2 h
   generalize zh7 a s=x at *
   generalize zh7 b s=y at *
   obtain⟨F,A⟩:=a
   obtain⟨G,C⟩:=b
   refine z0k Tryz.func9 (by kernel_rfl) rfl (by simp) ?_
   dsimp only[Tryz.f9]
   refine z3x 700 0 700 hX0 ?_
   refine z3x 701 0 701 (z10 hX1 (by simp)) ?_
   repeat' (first|(apply z08;(first|refine z0o ?_| (apply z0a;(refine z02 z2q rfl rfl ?_))|(apply z13;(refine z02 (z56 rfl) rfl rfl ?_))|(apply z0q;(refine z0z hlg ?_))|(apply z1s;(refine z0b z3k ?_))|(apply z2i;(refine z2n rfl ?_))))|(apply z07;(first|refine z0m ?_|apply z09))|(apply z05;(first|apply z06|apply z00|apply z04|apply z01|apply z2c|refine z0f (fun _=>?_) (fun _=>?_)))|(apply z2d;(first|(apply z0u;refine z1h mix ?_)|refine z2e ?_| (apply z0l;(refine z0h z2q rfl rfl ?_))|(apply z1j;(first|refine z4p r1 ?_| refine z4p r2 ?_)))))
   all_goals try (exfalso;first|omega|(simp at *;done))
   refine z19 ?_
   refine z4d ?_
   repeat' (first|(apply z08;(first|refine z0o ?_| (apply z0a;(refine z02 z2q rfl rfl ?_))|(apply z0q;(first|refine z39 haw rfl rfl (by decide) ?_|refine z0z m1 ?_))|(apply z0d;(refine z29 ?_))|(apply z0g;(refine z0b z1f ?_))))|(apply z07;(first|refine z0m ?_|apply z09))|(apply z05;(first|apply z06|apply z00|refine z1a ?_| apply z04|apply z01)))
   all_goals exact zD23
 have ha:vAu a=0:=Decidable.byContradiction fun g=>h (.inl g)
 have hbv:vAu b=0:=Decidable.byContradiction fun g=>h (.inr g)
 have sa:=zl9 (n:=7) hfa ha hb'.1
 have sb:=zl9 (n:=7) hfb hbv hb'.2
 have r1:=zap a hfa (z8r ha) s hmx
 have r2:=zap b hfb (z8r hbv) s hmx
 have r3:=y49 zor zmv.fit (z8r zmv.val) s hmx
 have P:=fun (op:Nat) (h1:1≤op) (h4:op≤4)=>zdv sa sb (by decide) (op:Int) (by omega) (by omega)
 obtain⟨d,m4,_,dw,dn,de⟩:=z8n sa (by decide)
 have hvd:=z9b dw (by omega)
 have r4:=zap d (z71 hvd) (z8r hvd) s hmx
 rw[z8a hvd,de,zks,Bool.true_and] at r4
 rw[z8a zmv.val,zfz,zks,Bool.and_true] at r3
 have hR:∀ (op:Nat) (c:Au),vAu c=0→(∀ w,c.acc 0 w=(vld w&&z4t (op:Int) (a.acc 0 w) (b.acc 0 w)))→zh7 c s=(zc5 s&&z4t (op:Int) (a.acc 0 (cps s 0)) (b.acc 0 (cps s 0))):=fun op c hc e=>by rw[z8a hc,e,zks,Bool.true_and]
 rw[z8a ha] at r1
 rw[z8a hbv] at r2
 have hR':∀ (op:Nat),1≤op→∀ (c:Au),vAu c=0→(∀ w,c.acc 0 w=(vld w&&z4t (op:Int) (a.acc 0 w) (b.acc 0 w)))→zh7 c s=z4t (op:Int) (zc5 s&&a.acc 0 (cps s 0)) (zc5 s&&b.acc 0 (cps s 0)):=fun op ho c hc e=>by
  rw[hR op c hc e]
  cases zc5 s with
  | true=>rfl
  | false =>
   simp only[Bool.false_and,z4t]
   repeat' split
   all_goals rfl
 clear hR
 have hR:=fun (op:Nat) (h1:1≤op)=>hR' op h1
 clear hR'
 have r4':(zc5 s&&!a.acc 0 (cps s 0))=(zc5 s&&!(zc5 s&&a.acc 0 (cps s 0))):=by cases zc5 s <;> rfl
 rw[r4'] at r4
 clear r4' de dw dn hvd h
 generalize (zc5 s&&a.acc 0 (cps s 0))=x at *
 generalize (zc5 s&&b.acc 0 (cps s 0))=y at *
 generalize zc5 s=z at *
 clear hb'
 obtain⟨F,A⟩:=a
 obtain⟨G,C⟩:=b
 obtain⟨dF,dA⟩:=d
 refine z0k Tryz.func9 (by kernel_rfl) rfl (by simp) ?_
 dsimp only[Tryz.f9]
 refine z3x 700 0 700 hX0 ?_
 refine z3x 701 0 701 (z10 hX1 (by simp)) ?_
 repeat' (first|(apply z08;(first|refine z0o ?_| (apply z0a;(refine z02 z2q rfl rfl ?_))|(apply z13;(refine z02 (z56 rfl) rfl rfl ?_))|(apply z0q;(refine z0z hlg ?_))|(apply z1s;(refine z0b z3k ?_))|(apply z2i;(refine z2n rfl ?_))))|(apply z07;(first|refine z0m ?_|apply z09))|(apply z05;(first|apply z06|apply z00|apply z04|apply z01|apply z2c|refine z0f (fun _=>?_) (fun _=>?_)))|(apply z2d;(first|(apply z0u;refine z1h mix ?_)|refine z2e ?_| (apply z0l;(refine z0h z2q rfl rfl ?_))|(apply z1j;(first|refine z4p r1 ?_| refine z4p r2 ?_)))))
 all_goals try (exfalso;first|omega|(simp at *;done))
 refine z19 ?_
 refine z0c (z1v (fun q:Nat=>⟨101,[(2,S s),(3,.ptr (0,3) 0),(4,.ptr (0,4) 0),(7,B x),(8,B y),(9,I .i64 (q:Nat)),(100700,.al (0,700) (1,700)),(100701,.al (0,701) (1,701))],[(3,.box [.d (zea F),.d (.slice (A.map z4u))]),(4,.box [.d (zea G),.d (.slice (C.map z4u))]),(700,.glob 0 τ.o0),(701,.glob 1 τ.o1)],upd (upd H (0,700) .gone) (0,701) .gone⟩) (fun q=>1≤q∧q≤5) (fun q=>5-q) ?_ 1 (by decide)) rfl rfl
 intro q hq ih
 by_cases h5:q=5
 · subst h5
   clear ih P hR
   cases x <;> cases z
   all_goals repeat' (first|(apply z08;(first|refine z0o ?_| (apply z0a;(refine z02 z2m rfl rfl ?_))|(apply z0r;(refine z02 (zx8 rfl) rfl rfl ?_))|(apply z0q;(first|refine z39 haw rfl rfl (by decide) ?_|refine z0z m4 ?_| refine z0z r3 ?_| refine z0z r4 ?_))|(apply z0d;(refine z29 ?_))|(apply z0g;(refine z0b z1f ?_))|(apply z1b;(refine z2k ?_))|(apply z2i;(refine z2n rfl ?_))))|(apply z07;(first|refine z0m ?_|apply z09|refine z1u ?_))|(apply z05;(first|apply z06|apply z00|refine z0v ?_| refine z0j ?_)))
   all_goals exact zD23
 have h4:q=1∨q=2∨q=3∨q=4:=by omega
 rcases h4 with rfl|rfl|rfl|rfl
 · skip
   obtain⟨c,m1,_,mw,mn,me⟩:=P 1 (by decide) (by decide)
   have hvc:=z9b mw (by omega)
   have r1:=zap c (z71 hvc) (z8r hvc) s hmx
   rw[hR 1 (by decide) c hvc me] at r1
   have ih':=ih (1+1) (by omega) (by omega)
   exact zD10
 · skip
   obtain⟨c,m1,_,mw,mn,me⟩:=P 2 (by decide) (by decide)
   have hvc:=z9b mw (by omega)
   have r1:=zap c (z71 hvc) (z8r hvc) s hmx
   rw[hR 2 (by decide) c hvc me] at r1
   have ih':=ih (2+1) (by omega) (by omega)
   exact zD10
 · skip
   obtain⟨c,m1,_,mw,mn,me⟩:=P 3 (by decide) (by decide)
   have hvc:=z9b mw (by omega)
   have r1:=zap c (z71 hvc) (z8r hvc) s hmx
   rw[hR 3 (by decide) c hvc me] at r1
   have ih':=ih (3+1) (by omega) (by omega)
   exact zD10
 · skip
   obtain⟨c,m1,_,mw,mn,me⟩:=P 4 (by decide) (by decide)
   have hvc:=z9b mw (by omega)
   have r1:=zap c (z71 hvc) (z8r hvc) s hmx
   rw[hR 4 (by decide) c hvc me] at r1
   have ih':=ih (4+1) (by omega) (by omega)
   exact zD10
theorem zsc {a:Au} (h:AuW a) (hn:a.F.length≤256):z0y Tryz.prog 56 [.d (auD a)] (.d (zea (z4q a.F a.A))):=by
 have hA:=zbp h hn
 obtain⟨F,A⟩:=a
 exact zps F A h.len (fun l hl=>⟨by have:=(hA.arc l hl).2.1;omega,fun x hx=>by have:=(h.arc l hl).2 x hx;simp only at this;omega⟩) (by simp only at hn;omega) (by have:=hA.tot;simp only at this;omega)
noncomputable def zh3 (a:Au):Bool:=!((z4q a.F a.A).getD 0 false)
theorem zg4 {a:Au} (h:AuW a):zh3 a=true↔∀ w,a.acc 0 w=false:=by
 have h1:=zct h 0
 have h2:=z8y (F:=a.F) (A:=a.A) h.pos
 rw[zh3,zA6,← Bool.not_eq_true,h2,h1]
 rfl
theorem zh1 (F:List Bool) (A:List (List Arc)):(z4q F A).length=F.length:=by simp[z4q]
theorem y4o {a:Au} (h:AuW a):(z4q a.F a.A)[(0:Int).toNat]? =some ((z4q a.F a.A).getD 0 false):=by
 have hp:=h.pos
 have hl:=zh1 a.F a.A
 show (z4q a.F a.A)[0]? =_
 rw[List.getD,zA0 (by omega)];rfl
theorem zph (a:Au) (hf:zam a) (h:vAu a=0) (hn:a.F.length≤256):z0y Tryz.prog 32 [.d (auD a)] (B (zh3 a)):=by
 refine z1p fun H=>?_
 have hW:=z6a h
 have hv:=z5b a hf
 rw[h] at hv
 have hal:=zsc hW hn
 have h0:=y4o hW
 have hl:=zh1 a.F a.A
 have hp:=hW.pos
 rw[zh3]
 generalize (z4q a.F a.A).getD 0 false=x at *
 generalize z4q a.F a.A=L at *
 obtain⟨F,A⟩:=a
 simp only at hl hp
 refine z0k Tryz.func32 (by kernel_rfl) rfl (by simp) ?_
 dsimp only[Tryz.f32]
 repeat' (first|(apply z08;(first|refine z0o ?_| (apply z0a;(first|refine z02 z2q rfl rfl ?_| refine z02 z2l rfl rfl ?_))|(apply z0i;(refine z02 (z23 (ys:=L.map boc) rfl (idx h0)) rfl rfl ?_))|(apply z0q;(first|refine z0z hv ?_| refine z0z hal ?_))|(apply z1s;(refine z0b z3k ?_))))|(apply z07;(first|refine z0m ?_|apply z09))|(apply z05;(first|apply z06|apply z00)))
 all_goals try (exfalso;first|omega|(simp at *;done)|(simp at *;omega))
 all_goals exact z0p Tryz.func32 _ z1c ⟨rfl,rfl⟩
theorem y0u {n m:Nat} {a b:Au} (ha:Okn n a) (hb:Okn m b) (hnm:(n+1)*(m+1)≤256) :
 ∃ r,z0y Tryz.prog 31 [.d (auD a),.d (auD b)] (.tup [B r,I .i64 0])∧(r=true↔∀ w,a.acc 0 w=b.acc 0 w):=by
 have wa:=z6a ha.val
 have wb:=z6a hb.val
 have fa:=ha.few
 have fb:=hb.few
 have hle:(a.F.length+1)*(b.F.length+1)≤(n+1)*(m+1):=Nat.mul_le_mul (by omega) (by omega)
 have la:a.F.length+1≤(a.F.length+1)*(b.F.length+1):=Nat.le_mul_of_pos_right _ (by omega)
 have lb:b.F.length+1≤(a.F.length+1)*(b.F.length+1):=Nat.le_mul_of_pos_left _ (by omega)
 obtain⟨x,x1,x2,x3,x4⟩:=zhs wa wb 4 (by omega)
 have hp:=zj9 (N:=4456450) (a:=1114112) (c:=1114112) (zeu 4456450 (by omega)) (by omega) a.F b.F a.A b.A 4 (zbp wa (by omega)) (zbp wb (by omega)) (z9d wa) (z9d wb) (by omega)
 rw[x1,exR] at hp
 refine⟨zh3 x,?_,?_⟩
 · refine z1p fun H=>?_
   have hva:=z5b a ha.fit
   have hvb:=z5b b hb.fit
   rw[ha.val] at hva
   rw[hb.val] at hvb
   have hal:=zsc x2 (by omega)
   have h0:=y4o x2
   have hl:=zh1 x.F x.A
   have hpos:=x2.pos
   rw[zh3]
   generalize (z4q x.F x.A).getD 0 false=y at *
   generalize z4q x.F x.A=L at *
   clear x1 x2 x4
   obtain⟨F,A⟩:=a
   obtain⟨G,C⟩:=b
   obtain⟨xF,xA⟩:=x
   simp only at hl hpos hp
   refine z0k Tryz.func31 (by kernel_rfl) rfl (by simp) ?_
   dsimp only[Tryz.f31]
   repeat' (first|(apply z08;(first|refine z0o ?_| (apply z0a;(first|refine z02 z2q rfl rfl ?_| refine z02 z2l rfl rfl ?_| refine z02 z2m rfl rfl ?_))|(apply z0i;(refine z02 (z23 (ys:=L.map boc) rfl (idx h0)) rfl rfl ?_))|(apply z0q;(first|refine z0z hva ?_| refine z0z hvb ?_| refine z0z hp ?_| refine z0z hal ?_))|(apply z0d;(refine z29 ?_))|(apply z0g;(refine z0b z1f ?_))|(apply z1s;(refine z0b z3k ?_))))|(apply z07;(first|refine z0m ?_|apply z09))|(apply z05;(first|apply z06|apply z00|refine z0v ?_| apply z04)))
   all_goals try (exfalso;first|omega|(simp at *;done)|(simp at *;omega))
   all_goals exact z0p Tryz.func31 _ z52 ⟨rfl,rfl⟩
 · rw[zg4 x2]
   constructor
   · intro h w
     have hw:=h w
     rw[x4,z4t,zAy (by decide),zAy (by decide),zAy (by decide)] at hw
     exact zD70
   · intro h w
     rw[x4,h w,z4t,zAy (by decide),zAy (by decide),zAy (by decide)]
     cases b.acc 0 w <;> cases vld w <;> rfl
theorem zyl {v x:Bool} (h:x=true→v=true):(v&&!(v&&!x))=x:=by
 cases v <;> cases x <;> simp_all
theorem zuv (τ:Tab) (a b:Au) (hfa:zam a) (hfb:zam b):z1x Tryz.prog 11 [.d (auD a),.d (auD b)] (zeo τ 0) [] (B true):=by
 refine z22 fun H hH=>?_
 have hX0:=hH ((0,700),.glob 0 τ.o0) (by simp)
 have hX1:=hH ((0,701),.glob 1 τ.o1) (by simp)
 have haw:=zkz τ
 have hlg:=zkn 6 (by omega) [a,b] (by simp) (by simpa using ⟨hfa,hfb⟩)
 rw[zp4] at hlg
 by_cases hb:(lgA 6 a||lgA 6 b)=true
 · rw[hb] at hlg
   obtain⟨F,A⟩:=a
   obtain⟨G,C⟩:=b
   refine z0k Tryz.func11 (by kernel_rfl) rfl (by simp) ?_
   dsimp only[Tryz.f11]
   refine z3x 700 0 700 hX0 ?_
   refine z3x 701 0 701 (z10 hX1 (by simp)) ?_
   repeat' (first|(apply z08;(first|refine z0o ?_| (apply z0a;(refine z02 z2q rfl rfl ?_))|(apply z0q;(refine z0z hlg ?_))|(apply z1s;(refine z0b z3k ?_))|(apply z2i;(refine z2n rfl ?_))))|(apply z07;(first|refine z0m ?_|apply z09|refine z1u ?_))|(apply z05;(first|apply z06|apply z00|refine z1a ?_)))
   all_goals exact zD24
 have hb':=hb
 rw[zAu,not_or] at hb'
 rw[Bool.not_eq_true] at hb
 rw[hb] at hlg
 have hva:=z5b a hfa
 have hvb:=z5b b hfb
 by_cases ha:vAu a=0
 case neg =>
  generalize vAu a=n at *
  obtain⟨F,A⟩:=a
  obtain⟨G,C⟩:=b
  refine z0k Tryz.func11 (by kernel_rfl) rfl (by simp) ?_
  dsimp only[Tryz.f11]
  refine z3x 700 0 700 hX0 ?_
  refine z3x 701 0 701 (z10 hX1 (by simp)) ?_
  repeat' (first|(apply z08;(first|refine z0o ?_| (apply z0a;(refine z02 z2q rfl rfl ?_))|(apply z0q;(first|refine z0z hlg ?_| refine z0z hva ?_))|(apply z1s;(refine z0b z3k ?_))|(apply z2i;(refine z2n rfl ?_))))|(apply z07;(first|refine z0m ?_|apply z09|refine z1u ?_| refine z4r rfl rfl (fun _=>?_) (fun _=>?_)))|(apply z05;(first|apply z06|apply z00|refine z1a ?_)))
  all_goals exact zD24
 rw[ha] at hva
 by_cases hbv:vAu b=0
 case neg =>
  generalize vAu b=n at *
  clear ha
  obtain⟨F,A⟩:=a
  obtain⟨G,C⟩:=b
  refine z0k Tryz.func11 (by kernel_rfl) rfl (by simp) ?_
  dsimp only[Tryz.f11]
  refine z3x 700 0 700 hX0 ?_
  refine z3x 701 0 701 (z10 hX1 (by simp)) ?_
  repeat' (first|(apply z08;(first|refine z0o ?_| (apply z0a;(refine z02 z2q rfl rfl ?_))|(apply z0q;(first|refine z0z hlg ?_| refine z0z hva ?_| refine z0z hvb ?_))|(apply z1s;(refine z0b z3k ?_))|(apply z2i;(refine z2n rfl ?_))))|(apply z07;(first|refine z0m ?_|apply z09))|(apply z05;(first|apply z06|apply z00|apply z04|refine z5c rfl (fun _=>?_) (fun _=>?_))))
  all_goals exact zD24
 rw[hbv] at hvb
 have sa:=zl9 (n:=6) hfa ha hb'.1
 have sb:=zl9 (n:=6) hfb hbv hb'.2
 have wa:=z6a ha
 have wb:=z6a hbv
 obtain⟨c,mc,nc,wc,fc,ec⟩:=z8n sa (by decide)
 obtain⟨d,md,nd,wd,fd,ed⟩:=z8n sb (by decide)
 have sc:Okn 14 c:=zst wc (by omega) (by decide)
 have sd:Okn 14 d:=zst wd (by omega) (by decide)
 obtain⟨t,mt,nt,wt,ft,et⟩:=z8n sc (by decide)
 obtain⟨u,mu,nu,wu,fu,eu⟩:=zdv sa sb (by decide) 2 (by decide) (by decide)
 obtain⟨i,mi,ni,wi,fi,ei⟩:=zdv sc sd (by decide) 1 (by decide) (by decide)
 have fa:=sa.few
 have fb:=sb.few
 have hi:i.F.length≤49:=by
  have:=y27 wa wb ni (f:=fun x y=>!x&&!y) (fun w=>by
   rw[ei,ec,ed,z4t,zAz rfl]
   cases vld w <;> rfl)
  exact Nat.le_trans this (Nat.mul_le_mul (show _≤7 by omega) (show _≤7 by omega))
 have si:Okn 49 i:=zst wi hi (by decide)
 obtain⟨v,mv,nv,wv,fv,ev⟩:=z8n si (by decide)
 obtain⟨x,mx,nx',wx,fx,ex⟩:=zdv sa sb (by decide) 4 (by decide) (by decide)
 obtain⟨r,mr,er⟩:=y0u sa sb (by decide)
 have hn:a.F.length≤256:=by omega
 obtain⟨g1,g2,g3,g4,g5⟩:=zw6 wa hn
 have mm:=zen a hfa ha (zbp wa hn) g5
 have e1:t=zo8 a:=zx0 nt g1 fun w=>by
  rw[et,ec,g4]
  exact zyl fun h=>zb6 wa w 0 h
 have e2:v=u:=zx0 nv nu fun w=>by
  rw[ev,ei,ec,ed,eu,z4t,zAz rfl,z4t,zAy (by decide),zAz rfl]
  cases vld w <;> cases a.acc 0 w <;> cases b.acc 0 w <;> rfl
 have hvx:=z9b wx (by omega)
 have hem:=zph x (z71 hvx) hvx (by omega)
 have hr:zh3 x=r:=by
  rw[Bool.eq_iff_iff,er,zg4 wx]
  constructor
  · intro h w
    have hw:=h w
    rw[ex,z4t,zAy (by decide),zAy (by decide),zAy (by decide)] at hw
    exact zD70
  · intro h w
    rw[ex,h w,z4t,zAy (by decide),zAy (by decide),zAy (by decide)]
    cases b.acc 0 w <;> cases vld w <;> rfl
 have s1:=zxw (zo8 a) (z71 (z9b g2 (by omega)))
 have s2:=zxw u (z71 (z9b wu (by omega)))
 rw[e1] at mt
 rw[e2] at mv
 rw[hr] at hem
 clear e1 e2 hr er ex ev ei eu et ec ed g1 g2 g3 g4 g5 hi si sc sd sa sb wa wb wc wd wt wu wi wv wx nc nd nt nu ni nv nx' fc fd ft fu fi fv fx fa fb hb' ha hbv hvx hn hb hfa hfb
 generalize zo8 a=m at *
 obtain⟨F,A⟩:=a
 obtain⟨G,C⟩:=b
 obtain⟨cF,cA⟩:=c
 obtain⟨dF,dA⟩:=d
 obtain⟨uF,uA⟩:=u
 obtain⟨iF,iA⟩:=i
 obtain⟨xF,xA⟩:=x
 obtain⟨mF,mA⟩:=m
 refine z0k Tryz.func11 (by kernel_rfl) rfl (by simp) ?_
 dsimp only[Tryz.f11]
 refine z3x 700 0 700 hX0 ?_
 refine z3x 701 0 701 (z10 hX1 (by simp)) ?_
 cases r
 all_goals repeat' (first|(apply z08;(first|refine z0o ?_| (apply z0a;(first|refine z02 z2q rfl rfl ?_| refine z02 z2m rfl rfl ?_))|(apply z0r;(refine z02 (zx8 rfl) rfl rfl ?_))|(apply z0q;(first|refine z39 haw rfl rfl (by decide) ?_|refine z0z hlg ?_| refine z0z hva ?_| refine z0z hvb ?_| refine z0z mm ?_| refine z0z mc ?_| refine z0z md ?_| refine z0z mt ?_| refine z0z mu ?_| refine z0z mi ?_| refine z0z mv ?_| refine z0z mx ?_| refine z0z mr ?_| refine z0z s1 ?_| refine z0z s2 ?_| refine z0z hem ?_))|(apply z0d;(refine z29 ?_))|(apply z0g;(refine z0b z1f ?_))|(apply z1s;(refine z0b z3k ?_))|(apply z2i;(refine z2n rfl ?_))))|(apply z07;(first|refine z0m ?_|apply z09))|(apply z05;(first|apply z06|apply z00|refine z0v ?_| apply z04)))
 all_goals exact zD24
end Go.Proofs.YthdfkabdoidjfaaGreatDoor
