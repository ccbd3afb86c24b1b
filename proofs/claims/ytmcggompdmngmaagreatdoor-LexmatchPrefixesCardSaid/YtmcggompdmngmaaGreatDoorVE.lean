/- A part of the proof: L32 to L32. -/
import Derived.Test.YtmcggompdmngmaaGreatDoorVc
import Derived.Test.YtmcggompdmngmaaGreatDoorVC
import Derived.Test.YtmcggompdmngmaaGreatDoorVf
import Derived.Test.YtmcggompdmngmaaGreatDoorV1
import Derived.Test.YtmcggompdmngmaaGreatDoorVr
import Derived.Test.YtmcggompdmngmaaGreatDoorVv
import Derived.Test.YtmcggompdmngmaaGreatDoorVe
import Derived.Test.YtmcggompdmngmaaGreatDoorVA
import Derived.Test.YtmcggompdmngmaaGreatDoorVD
set_option linter.all false
namespace Go.Proofs.YtmcggompdmngmaaGreatDoor
open Go.Ab Go.Rx Go.Lx Go.Ax
set_option maxHeartbeats 20000000
set_option maxRecDepth 100000
attribute [local irreducible] Run Ops Op1 z13 Val Tr z0d z0w NF Rel z2a z2b z6r
theorem zz1 (s:ByteArray):∀ f i,rnL s f i=(uB s f i).map (·.r)
 | 0,i=>by rw[rnL,uB];rfl
 | f+1,i=>by
  rw[rnL,uB]
  split
  · rw[List.map_cons,zz1 s f]
  · rfl
theorem znx (s:ByteArray):rnL s s.size 0=Go.Rx.z29 s:=by
 rw[Go.Rx.z29,rst,Nat.sub_zero];exact zz1 s _ _
theorem z4y {P:Program} {ty:TypeId} {x:Operand} {src dst e:TypeId} {ts td te:TI} {s:ByteArray} {l:List Int} [hs:z0p P src ts] [hd':z0p P dst td] [he:z0p P e te] (hl:Go.Rx.z29 s=l) (hks:ts.kind=.str) (hkd:td.kind=.slice e) (hke:te.kind=.int .i32) (hsz:s.size≤1000000) :
 Val P (.convert src dst x) ty [(x,S s)] [] (.d (.slice (l.map fun n=>[z1h n]))):=by
 have:=zsd (P:=P) (ty:=ty) (x:=x) (src:=src) (dst:=dst) (e:=e) (s:=s) hks hkd hke (by omega)
 rw[znx,hl] at this
 exact this
theorem z7p {P:Program} {ty:TypeId} {x:Operand} {src dst e:TypeId} {ts td te:TI} {l:List Int} {s:ByteArray} [hs:z0p P src ts] [hd':z0p P dst td] [he:z0p P e te] (hl:Go.runesBytes l=s) (hks:ts.kind=.slice e) (hkd:td.kind=.str) (hke:te.kind=.int .i32) :
 Val P (.convert src dst x) ty [(x,.d (.slice (l.map fun n=>[z1h n])))] [] (S s):=by
 rw[← hl];exact y2d hks hkd hke
theorem zsa:∀ p:List Int,zio (p.map z8b++[z7n])
 | []=>by simp[zio,z7n,fit]
 | c::p=>by
  rw[List.map_cons,List.cons_append,zio]
  exact⟨by simp[z8b,fit,zio],zsa p⟩
theorem y08 {p:List Int} (h:p.length≤1000):fit (zon p):=by
 rw[zon]
 split
 · simp[z7n,fit,zio]
 · rw[fit]
   exact⟨by simp,by simp;omega,zsa p⟩
theorem zv0 {W:List ByteArray} (hW:zj9 W) {p:ByteArray} (hp:z71 p=true) (hl:(Go.Rx.z29 p).length≤12) :
 zjm (fun i=>mtS (fun c=>[c]) (zon (Go.Rx.z29 p)) (wd W i)) W.length=(List.range (zdq W p)).map fun (i:Nat)=>((loS W p+i:Nat):Int):=by
 have hlo:=lo_le hW.asc p
 have hcn:zdq W p≤W.length-loS W p:=(z3p _ _).1
 rw[zjm,y6u (lo:=loS W p) (c:=zdq W p) (by omega) fun i hi=>?_,List.map_map]
 · rfl
 · rw[y6m hp (hW.vld _ (z8f hi)) hl]
   exact zcf hW.asc p hi
theorem zjr (τ:Tab) (v:List ByteArray) (hv:v.length≤9223372036854775807) (s:ByteArray) (hs0:s.size≤maxLen):z0w Tryz.prog 8 [.d (.slice (v.map stc)),S s] (zgu τ 0) [] (B true):=by
 refine z10 fun H hH=>?_
 have hX0:=hH ((0,700),.glob 1 τ.o0) (by simp)
 have hX1:=hH ((0,701),.glob 2 τ.o1) (by simp)
 have haw:=y1j τ
 have hlo:=y6q v hv
 refine z0b Tryz.func8 (by kernel_rfl) rfl (by simp) ?_
 dsimp only[Tryz.f8]
 refine z4d 700 0 700 hX0 rfl rfl ?_
 refine z4d 701 0 701 (z08 hX1 (by simp)) rfl rfl ?_
 by_cases hl:y32 v=true∨12<s.size
 · generalize y32 v=b1 at *
   cases b1
   all_goals repeat' (first|(apply z04;(refine z1w hlo ?_))|refine z05 ?_|refine fk (fun _=>?_) (fun _=>?_))
   all_goals try (exfalso;first|omega|(simp at *;done)|(simp at *;omega))
   all_goals exact zD12
 rw[not_or,Bool.not_eq_true] at hl
 obtain⟨hl1,hl2⟩:=hl
 have hok:=(y52 hl1).2
 have he:zfg v=0:=by
  simp only[y32,Bool.or_eq_false_iff,zA5,zA8,zA3] at hl1
  exact hl1.2
 have hb:=y1i v hok he
 have hW:=y4t hok
 have hWl:=hW.len
 have hrl:(Go.Rx.z29 s).length≤12:=by have:=zem s;omega
 have hr:∀ c∈Go.Rx.z29 s,0≤c∧c≤1114111:=fun c hc=>by
  have:=z3w c hc
  exact⟨this.1,this.2.1⟩
 have hsx:=znu (X:=26) (wds v) ((wds v).map (z5u v)) (zk3 (wds v)) hW (zon (Go.Rx.z29 s)) (y08 (by omega)) 0
 rw[y3o,zAz (zqj hr hrl)] at hsx
 have hps:=fun (hp:z71 s=true)=>zv0 hW hp hrl
 have hpf:=zm9 (X:=26) (W:=wds v) ((wds v).map (z5u v)) (zk3 (wds v)) 0 hW.asc (by omega) s
 rw[zoh] at hpf
 have hlo2:=lo_le hW.asc s
 have hcn:zdq (wds v) s≤(wds v).length-loS (wds v) s:=(z3p _ _).1
 have hrb:=zvj s
 rw[hl1] at hlo
 rw[zps] at hb
 generalize zjm (fun i=>mtS (fun c=>[c]) (zon (Go.Rx.z29 s)) (wd (wds v) i)) (wds v).length=R at *
 generalize loS (wds v) s=lo at *
 generalize zdq (wds v) s=c at *
 generalize zk3 (wds v)=rv at *
 generalize (wds v).map (z5u v)=C at *
 generalize wds v=W at *
 repeat' (first | (apply z04; (first | refine z1w hlo ?_| (refine zdl rfl (hb _) (by decide) rfl (fun r H' h => ⟨_, _, _, h.1, h.2, rfl, rfl, ?_⟩)) /- z69 -/)) | (apply z30; (refine z0o z6e ?_)) | refine z05 ?_ | refine fk (fun _ => ?_) (fun _ => ?_) | (apply z14; (refine z7l rfl rfl rfl (by decide) ?_)))
 all_goals try (exfalso;first|omega|(simp at *;done))
 refine z3f 8 4 1001 51 5 rfl rfl rfl rfl ?_
 refine z0n ?_
 refine z02 (z11 (fun z:Nat × List Int=>⟨121,[(1,S s),(5,.ptr (0,26) 0),(8,.ptr (0,8) 0),(34,.ptr (0,34) 0),(100701,.al (0,701) (1,701)),(100700,.al (0,700) (1,700))],[(34,.siter s z.1),(26,lexB W C rv),(8,.box [.d (z4k 2),.d (z4k 0),.d (z4k 0),.d (.lit z2t),.ref (0,1001)]),(1001,.row 51 5 ((z.2.map z8b).map rxc)),(700,.glob 1 τ.o0),(701,.glob 2 τ.o1)],upd (upd H (0,700) .gone) (0,701) .gone⟩)
  (fun z=>z.1≤s.size∧z.2++(rst s z.1).map (·.r)=Go.Rx.z29 s) (fun z=>s.size-z.1) ?_ (0,[]) ⟨zAf _,by rw[List.nil_append,Go.Rx.z29]⟩) rfl rfl
 rintro⟨i,l⟩ ⟨i1,i2⟩ ih
 simp only at i1 i2 ih ⊢
 have hll:l.length≤12:=by
  have:=congrArg List.length i2
  rw[zAa] at this;omega
 by_cases hlt:i<s.size
 · have hd:=z3b hlt
   have hw:=z5r s i hlt
   rw[hd,List.map_cons] at i2
   simp only at i2
   have ih':=ih (i+(Utf8.decode s i).2,l++[((Utf8.decode s i).1:Int)]) ⟨by simp only;omega,by simp only;rw[zAl];exact i2⟩ (by simp only;omega)
   simp only at ih'
   clear ih
   rw[List.map_append,List.map_cons,List.map_nil] at ih'
   have hml:(l.map z8b).length≤12:=by rw[zA4];exact hll
   generalize l.map z8b=q at *
   repeat' (first|(apply z1m;(refine z3r (g:=rxc) (q:=q) rfl rfl (z8b ((Utf8.decode s i).1:Nat)) (by rw[z8b,z27];rfl) rfl rfl rfl (z2g _) rfl rfl (by decide) (by omega) ?_))|refine z05 ?_|(apply z14;(refine z1q hlt rfl rfl (by decide) ?_)))
   all_goals try (exfalso;omega)
   all_goals refine z2l 46 1001 ?_
   all_goals exact z02 ih' rfl rfl
 obtain rfl:i=s.size:=by omega
 rw[z1y (zAj _),List.map_nil,List.append_nil] at i2
 subst i2
 clear ih
 obtain⟨sv,hsv⟩:∃ sv,Go.runesBytes (Go.Rx.z29 s)=sv:=⟨_,rfl⟩
 rw[hsv] at hrb
 generalize hrs:Go.Rx.z29 s=l at *
 by_cases hnil:l=[]
 · rw[zon,zAz hnil] at hsx
   subst hnil
   by_cases hv2:z71 s=true
   · have e:=hrb.2 hv2
     rw[e] at hsv
     clear e
     have hR:=hps hv2
     rw[hR] at hsx
     have hmr:=zhr ((List.range c).map fun (i:Nat)=>((lo+i:Nat):Int)) (by simp;omega)
     rw[spR,zsg lo c (by omega)] at hmr
     clear hps hR hrb
     generalize ((List.range c).map fun (i:Nat)=>((lo+i:Nat):Int))=R0 at *
     by_cases hc:c=0
     · rw[zAz hc] at hmr hpf
       clear hc
       repeat' (first|(apply z0a;(refine z0c (z2i (ys:=[z7n].map rxc) rfl (by decide) rfl rfl) rfl rfl ?_))|(apply z1m;((refine z3r (g:=rxc) (q:=([]:List Int).map z8b) rfl rfl z7n (by rw[z7n,z27];rfl) rfl rfl rfl (z2g _) rfl rfl (by decide) (by first|omega|simp) ?_;refine z3s 56 rfl ?_)))|(apply z04;(first|refine z5t haw ?_| refine z5t hpf ?_| refine z5t hsx ?_| refine z1w hmr ?_))|refine z05 ?_|refine fk (fun _=>?_) (fun _=>?_)|(apply z14;(first|refine z1i hlt rfl rfl (by decide) ?_|refine z0c (z4y hrs rfl rfl rfl (by omega)) rfl rfl ?_| refine z0c (z7p hsv rfl rfl rfl) rfl rfl ?_)))
       all_goals exact zD96
     · rw[zAy hc] at hmr hpf
       repeat' (first|(apply z0a;(first|refine z0c (z2i (ys:=[z7n].map rxc) rfl (by decide) rfl rfl) rfl rfl ?_| refine z0c (z2i (ys:=[((lo:Int),((lo+c:Nat):Int))].map spc) rfl (by decide) rfl rfl) rfl rfl ?_))|(apply z0v;(refine z0c (y3s (y9z ((lo:Int),((lo+c:Nat):Int)) ((lo:Int),((lo+c:Nat):Int)))) rfl rfl ?_))|(apply z1m;((refine z3r (g:=rxc) (q:=([]:List Int).map z8b) rfl rfl z7n (by rw[z7n,z27];rfl) rfl rfl rfl (z2g _) rfl rfl (by decide) (by first|omega|simp) ?_;refine z3s 56 rfl ?_)))|(apply z04;(first|refine z5t haw ?_| refine z5t hpf ?_| refine z5t hsx ?_| refine z1w hmr ?_))|refine z05 ?_|refine fk (fun _=>?_) (fun _=>?_)|(apply z14;(first|refine z1i hlt rfl rfl (by decide) ?_|refine z0c (z4y hrs rfl rfl rfl (by omega)) rfl rfl ?_| refine z0c (z7p hsv rfl rfl rfl) rfl rfl ?_)))
       all_goals exact zD96
   · have hne:¬ sv=s:=fun e=>hv2 (hrb.1 e)
     clear hps hrb hsx hpf
     repeat' (first|(apply z0a;(refine z0c (z2i (ys:=[z7n].map rxc) rfl (by decide) rfl rfl) rfl rfl ?_))|(apply z1m;((refine z3r (g:=rxc) (q:=([]:List Int).map z8b) rfl rfl z7n (by rw[z7n,z27];rfl) rfl rfl rfl (z2g _) rfl rfl (by decide) (by first|omega|simp) ?_;refine z3s 56 rfl ?_)))|refine z05 ?_|refine fk (fun _=>?_) (fun _=>?_)|(apply z14;(first|refine z1i hlt rfl rfl (by decide) ?_|refine z0c (z4y hrs rfl rfl rfl (by omega)) rfl rfl ?_| refine z0c (z7p hsv rfl rfl rfl) rfl rfl ?_)))
     all_goals exact zD141
 · rw[zon,zAy hnil,show Drx (.mk 2 0 0 [] (l.map z8b++[z7n]))=.agg (rx5 2 0 0 [] (l.map z8b++[z7n])) from congrArg D.agg (z27 _ _ _ _ _)] at hsx
   have hlp:0<l.length:=List.length_pos_iff.2 hnil
   have hml:(l.map z8b).length=l.length:=zA4 ..
   have hm2:((l.map z8b++[z7n]).length:Int)=(l.length:Int)+1:=by simp
   generalize l.map z8b=q at *
   by_cases hv2:z71 s=true
   · have e:=hrb.2 hv2
     rw[e] at hsv
     clear e
     have hR:=hps hv2
     rw[hR] at hsx
     have hmr:=zhr ((List.range c).map fun (i:Nat)=>((lo+i:Nat):Int)) (by simp;omega)
     rw[spR,zsg lo c (by omega)] at hmr
     clear hps hR hrb
     generalize ((List.range c).map fun (i:Nat)=>((lo+i:Nat):Int))=R0 at *
     by_cases hc:c=0
     · rw[zAz hc] at hmr hpf
       clear hc
       repeat' (first|(apply z1m;((refine z3r (g:=rxc) (q:=q) rfl rfl z7n (by rw[z7n,z27];rfl) rfl rfl rfl (z2g _) rfl rfl (by decide) (by first|omega|simp) ?_;refine z3s 56 rfl ?_)))|(apply z04;(first|refine z5t haw ?_| refine z5t hpf ?_| refine z5t hsx ?_| refine z1w hmr ?_))|refine z05 ?_|refine fk (fun _=>?_) (fun _=>?_)|(apply z14;(first|refine z1i hlt rfl rfl (by decide) ?_|refine z0c (z4y hrs rfl rfl rfl (by omega)) rfl rfl ?_| refine z0c (z7p hsv rfl rfl rfl) rfl rfl ?_)))
       all_goals exact zD96
     · rw[zAy hc] at hmr hpf
       repeat' (first|(apply z0a;(refine z0c (z2i (ys:=[((lo:Int),((lo+c:Nat):Int))].map spc) rfl (by decide) rfl rfl) rfl rfl ?_))|(apply z0v;(refine z0c (y3s (y9z ((lo:Int),((lo+c:Nat):Int)) ((lo:Int),((lo+c:Nat):Int)))) rfl rfl ?_))|(apply z1m;((refine z3r (g:=rxc) (q:=q) rfl rfl z7n (by rw[z7n,z27];rfl) rfl rfl rfl (z2g _) rfl rfl (by decide) (by first|omega|simp) ?_;refine z3s 56 rfl ?_)))|(apply z04;(first|refine z5t haw ?_| refine z5t hpf ?_| refine z5t hsx ?_| refine z1w hmr ?_))|refine z05 ?_|refine fk (fun _=>?_) (fun _=>?_)|(apply z14;(first|refine z1i hlt rfl rfl (by decide) ?_|refine z0c (z4y hrs rfl rfl rfl (by omega)) rfl rfl ?_| refine z0c (z7p hsv rfl rfl rfl) rfl rfl ?_)))
       all_goals exact zD96
   · have hne:¬ sv=s:=fun e=>hv2 (hrb.1 e)
     clear hps hrb hsx hpf
     repeat' (first|(apply z1m;((refine z3r (g:=rxc) (q:=q) rfl rfl z7n (by rw[z7n,z27];rfl) rfl rfl rfl (z2g _) rfl rfl (by decide) (by first|omega|simp) ?_;refine z3s 56 rfl ?_)))|refine z05 ?_|refine fk (fun _=>?_) (fun _=>?_)|(apply z14;(first|refine z1i hlt rfl rfl (by decide) ?_|refine z0c (z4y hrs rfl rfl rfl (by omega)) rfl rfl ?_| refine z0c (z7p hsv rfl rfl rfl) rfl rfl ?_)))
     all_goals exact zD141
end Go.Proofs.YtmcggompdmngmaaGreatDoor
