/- A part of the proof: L36 to L36. -/
import Derived.Test.YtmcggompdmngmaaGreatDoorWc
import Derived.Test.YtmcggompdmngmaaGreatDoorWF
set_option linter.all false
namespace Go.Proofs.YtmcggompdmngmaaGreatDoor
open Go.Ab Go.Rx Go.Lx Go.Ax
set_option maxHeartbeats 20000000
set_option maxRecDepth 100000
attribute [local irreducible] Run Ops Op1 z14 Val Tr z0d z0w NF Rel z1z z27 z5x
theorem zx8 (τ:Tab) (v:List ByteArray) (hv:v.length≤9223372036854775807) (e:Rx) (hf:fit e):z0w Tryz.prog 9 [.d (.slice (v.map stc)),.d (Drx e)] (zhr τ 0) [] (B true):=by
 refine z10 fun H hH=>?_
 have hX0:=hH ((0,700),.glob 1 τ.o0) (by simp)
 have hX1:=hH ((0,701),.glob 2 τ.o1) (by simp)
 have haw:=y16 τ
 have hlo:=y63 v hv
 have hhv:=y25 e hf
 refine z08 Tryz.func9 (by kernel_rfl) rfl (by simp) ?_
 dsimp only[Tryz.f9]
 refine z4b 700 0 700 hX0 rfl rfl ?_
 refine z4b 701 0 701 (z0b hX1 (by simp)) rfl rfl ?_
 by_cases hl:y1k v=true∨hvy e=true
 · generalize y1k v=b1 at *
   generalize hvy e=b2 at *
   obtain⟨op,mn,mx,rs,ks⟩:=e
   rw[z2h] at hhv ⊢
   cases b1
   all_goals cases b2
   · exact absurd hl (by simp)
   all_goals repeat' (first|(apply z03;(first|refine z1i hlo ?_| refine z1i hhv ?_))|(apply z2n;(refine z0j z5k ?_))|refine z05 ?_|fail)
   all_goals try (exfalso;first|omega|(simp at *;done)|(simp at *;omega))
   all_goals exact zD32
 rw[not_or,Bool.not_eq_true,Bool.not_eq_true] at hl
 obtain⟨hl1,hl2⟩:=hl
 have hok:=(y68 hl1).2
 have he:zhg v=0:=by
  simp only[y1k,Bool.or_eq_false_iff,zA5,zA8,zA3] at hl1
  exact hl1.2
 have hb:=y21 v hok he
 have hW:=y7g hok
 have hWl:=hW.len
 have hWf:=hok.few
 rw[zq9] at hb
 rw[hl1] at hlo
 rw[hl2] at hhv
 have s1:=zow (X:=30) (wds v) ((wds v).map (z4y v)) (zh6 (wds v)) hW e hf 0
 have s2:=zbj (X:=30) (wds v) ((wds v).map (z4y v)) (zh6 (wds v)) hW e hf 0
 by_cases h0:val e=0
 case neg =>
  rw[y20,zAy h0] at s1 s2
  generalize zh6 (wds v)=rv at *
  generalize (wds v).map (z4y v)=C at *
  generalize wds v=W at *
  clear h0
  obtain⟨op,mn,mx,rs,ks⟩:=e
  rw[z2h] at hhv s1 s2 ⊢
  repeat' (first | (apply z03; (first | refine z5f haw ?_| refine z5f s2 ?_| refine z5f s1 ?_| refine z1i hlo ?_| refine z1i hhv ?_| (refine z9z rfl (hb _) (by decide) rfl (fun r H' h => ⟨_, _, _, h.1, h.2, rfl, rfl, ?_⟩)) /- z5r -/)) | (apply z1w; (refine z0j z4e ?_)) | (apply z2n; (refine z0j z5k ?_)) | refine z05 ?_ | fail)
  all_goals exact zD149
 rw[y20,zAz h0] at s1 s2
 have o1:OkI (z61 (fun i=>mtS (fun c=>[c]) e (wd (wds v) i)) (wds v).length):=zpq _ (by omega)
 have o2:OkI (z61 (fun i=>mtS zep e (wd (wds v) i)) (wds v).length):=zpq _ (by omega)
 have s3:=zo8 _ _ o1 o2
 rw[y2m fun i _ h=>y0y e _ h] at s3
 have s4:=fun (w:ByteArray) (hw:w.size≤1000)=>zm4 e hf w (by omega)
 have hsz:=zhx (X:=30) (wds v) ((wds v).map (z4y v)) (zh6 (wds v)) 0
 have hwo:=fun (i:Nat) (hi:i<(wds v).length)=>zla (X:=30) (wds v) ((wds v).map (z4y v)) (zh6 (wds v)) 0 i hi
 have q1:=zj7 e hf h0
 have s5:=fun (a:Au) (ha:zd7 e=some a)=>zmd (X:=30) (wds v) ((wds v).map (z4y v)) (zh6 (wds v)) hW a (y3f (zzr (z9l h0 ha).1 (z9l h0 ha).2.1)) 0
 have s6:∀ (a:Au) (ha:zd7 e=some a),y51 (wds v) a=.tup [.d (inD (z61 (fun i=>mtS (fun c=>[c]) e (wd (wds v) i)) (wds v).length)),I .i64 0]:=fun a ha=>by
  rw[y51,zAz (zzr (z9l h0 ha).1 (z9l h0 ha).2.1),zp4 fun i hi=>zqt h0 ha (hW.vld _ (z7j hi))]
 have hvw:=fun i (hi:i<(wds v).length)=>hW.size _ (z7j hi)
 generalize z61 (fun i=>mtS zep e (wd (wds v) i)) (wds v).length=R2 at *
 have t1:=zk5 (z61 (fun i=>mtS (fun c=>[c]) e (wd (wds v) i)) (wds v).length) (z61 (fun i=>mtS (fun c=>[c]) e (wd (wds v) i)) (wds v).length) (by have:=o1.len;omega)
 rw[zAi rfl] at t1
 clear o2
 have hR1l:=o1.len
 generalize zh6 (wds v)=rv at *
 generalize (wds v).map (z4y v)=C at *
 generalize wds v=W at *
 obtain⟨f,hfd⟩:∃ f:Nat→Bool,(fun i=>mtS (fun c=>[c]) e (wd W i))=f:=⟨_,rfl⟩
 have hfi:∀ i,mtS (fun c=>[c]) e (wd W i)=f i:=fun i=>by rw[← hfd]
 rw[hfd] at s1 s3 s6 t1 hR1l
 have hsl:=fun n=>zts f n
 have hsg:=fun (i:Nat) (hi:i<W.length) hh=>y26 (f:=f) hi hh
 have hsn:=fun n=>zl7 f n
 clear hfd o1
 obtain⟨R1,hR1⟩:∃ R1,z61 f W.length=R1:=⟨_,rfl⟩
 rw[hR1] at s1 s3 s6 hsg t1 hR1l
 have s5':=fun a ha=>s6 a ha▸s5 a ha
 clear s5 s6
 generalize zd7 e=cm at *
 have q1':=q1
 obtain⟨op,mn,mx,rs,ks⟩:=e
 rw[z2h] at hhv s1 s2 q1 ⊢
 simp only[z2h] at s4
 repeat' (first | (apply z03; (first | refine z5f s2 ?_| refine z5f s1 ?_| refine z1i hlo ?_| refine z1i hhv ?_| (refine z9z rfl (hb _) (by decide) rfl (fun r H' h => ⟨_, _, _, h.1, h.2, rfl, rfl, ?_⟩)) /- z5r -/ | refine z1i s3 ?_)) | (apply z1w; (refine z0j z4e ?_)) | (apply z2n; (refine z0j z5k ?_)) | refine z05 ?_ | fail)
 all_goals try (exfalso;first|omega|(simp at *;done))
 have hbx:(3:Nat)=3:=rfl
 refine z0l ?_
 refine z01 (z0x (fun n:Nat=>⟨130,[(3,.ptr (0,3) 0),(5,.ptr (0,30) 0),(8,.d (inD R1)),(14,I .i64 ((z61 f n).length:Nat)),(15,I .i64 (n:Nat)),(100701,.al (0,701) (1,701)),(100700,.al (0,700) (1,700))],[(30,lexB W C rv),(3,.box ((rx5 op mn mx rs ks).map .d)),(700,.glob 1 τ.o0),(701,.glob 2 τ.o1)],upd (upd H (0,700) .gone) (0,701) .gone⟩) (fun n=>n≤W.length) (fun n=>W.length-n) ?_ 0 (zAf _)) rfl rfl
 rintro n i1 ih
 have hnl:=hsn n
 by_cases hlt:n<W.length
 · have hwd:=hwo n hlt
   have hm:=s4 (wd W n) (hvw n hlt)
   rw[hfi n] at hm
   have hsl1:=hsl n
   have hsg1:=hsg n hlt
   have ih':=ih (n+1) (by omega) (by omega)
   clear ih hfi
   rw[hsl1] at ih'
   generalize (z61 f n).length=at_ at *
   generalize wd W n=w at *
   cases hv2:f n with
   | true =>
    have hg2:=hsg1 hv2
    have hlt3:=(zA1.1 hg2).1
    rw[hv2] at hm ih'
    rw[zAz rfl] at ih'
    repeat' (first|(apply z09;(refine z0c (z1n (ys:=R1.map ic) rfl (idx hg2)) rfl rfl ?_))|(apply z03;(first|refine z5f hwd ?_| refine z5f hsz ?_| refine z1i hm ?_))|refine z05 ?_|refine fk (fun _=>?_) (fun _=>?_))
    all_goals exact zD12
   | false =>
    rw[hv2] at hm ih'
    rw[zAy (by decide),Nat.add_zero] at ih'
    repeat' (first|(apply z03;(first|refine z5f hwd ?_| refine z5f hsz ?_| refine z1i hm ?_))|refine z05 ?_|refine fk (fun _=>?_) (fun _=>?_))
    all_goals exact zD12
 · obtain rfl:n=W.length:=by omega
   rw[hR1]
   clear ih
   cases cm with
   | none =>
    simp only[y4q] at q1
    repeat' (first|(apply z03;(first|refine z5f haw ?_| refine z5f hsz ?_| refine z1i q1 ?_))|(apply z1w;(refine z0j z4e ?_))|refine z05 ?_|refine fk (fun _=>?_) (fun _=>?_))
    all_goals exact zD149
   | some a =>
    have s6:=s5' a rfl
    obtain⟨F,A⟩:=a
    simp only[y4q] at q1
    repeat' (first|(apply z03;(first|refine z5f haw ?_| refine z5f s6 ?_| refine z5f hsz ?_| refine z1i q1 ?_| refine z1i t1 ?_))|(apply z1w;(refine z0j z4e ?_))|refine z05 ?_|refine fk (fun _=>?_) (fun _=>?_))
    all_goals exact zD149
end Go.Proofs.YtmcggompdmngmaaGreatDoor
