/- A part. -/
import Derived.Test.YtonhfccmeammbaaGreatDoorVTJ
set_option linter.all false
open Go.Proofs.Tryz
set_option maxRecDepth 100000
namespace Go.Proofs.YtonhfccmeammbaaGreatDoor
open Go.Ab Go.Rx
set_option maxHeartbeats 20000000
set_option maxRecDepth 100000
attribute [local irreducible] Run Ops Op1 z1z Val Tr z0q z1v NF Rel z5c z5d zal
theorem y3p(v w:Str)(hv:v∈zbm)(hw:w.size≤1000000)(fold:Bool):z0q prog 79 [S v,S w,B fold] (B (mtV v w fold)):=by
 have hx:=zql v hv
 have hm1:=zq1 (rxV v) (y4h v) w hw
 have hm2:=zp5 (rxV v) (y4h v) w hw
 rw[zxq]at hm1
 rw[zt8]at hm2
 refine z0y fun H=>?_
 obtain⟨b1,hb1⟩:∃b,mtS (fun c=>[c]) (rxV v) w=b:=⟨_,rfl⟩
 obtain⟨b2,hb2⟩:∃b,mtS zgk (rxV v) w=b:=⟨_,rfl⟩
 rw[mtV,hb1,hb2]
 rw[hb1]at hm1
 rw[hb2]at hm2
 clear hb1 hb2
 generalize rxV v=x at hx hm1 hm2
 obtain⟨op,mn,mx,rs,ks⟩:=x
 rw[show Drx (.mk op mn mx rs ks)=.agg (rx5 op mn mx rs ks)from z7u _ _ _ _ _]at hm1 hm2
 rw[z7u]at hx
 refine z0g func79 (by kernel_rfl) rfl (by simp) ?_
 dsimp only[f79]
 cases fold
 all_goals repeat' first|(apply z05;first|refine z0n ?_| (apply z0a;refine z02 z1y rfl rfl ?_)|(apply z0j;first|refine z29 hx ?_| refine z29 hm1 ?_| refine z29 hm2 ?_)|(apply z0f;refine z25 ?_)|(apply z0l;refine z0b z2e ?_))|(apply z06;first|refine z0m ?_|apply z09)|(apply z07;first|apply z08|apply z00|refine z1j ?_| refine z15 ?_| apply z04)
 all_goals try (exfalso;first|omega|contradiction)
 all_goals exact z0e func79 _ z0p ⟨rfl,rfl⟩
theorem y3d{labs:List Str}(c:z10)(hat:c.attrs=z7n):∀(x:Cn),zau labs x→z0q prog 34 [c.d,x.d] (B true):=by
 intro x
 have hal:c.attrs.length≤1000000:=by rw[hat];decide
 induction x using Cn.ind with
 | _ x ih =>
  intro h
  have ih:=fun k hk=>ih k hk (h.kid hk)
  have h2:=h.n2
  have h3:=h.n3
  have hkl:=zgn x
  have hkd:=x.kd_eq
  have a1:(x.top.op=2∨x.top.op=3)→z0q prog 77 [.d (.slice (c.attrs.map Attr.cs)),S x.top.name] (I .i64 0):=fun e=>by
   have he:x.top.name=zan:=e.elim (fun e=>(h2 e).1) fun e=>(h3 e).1
   have:=ze2 c x.top.name hal
   rw[he,zsi hat]at this
   rw[he]
   exact this
  refine z0y fun H=>?_
  refine z0g func34 (by kernel_rfl) rfl (by simp) ?_
  dsimp only[f34]
  rw[show x.d=.d (.agg (qcs x.top (x.kids.map Cn.cs))) by rw[←hkd]]
  generalize x.kids=ks at ih hkl
  have ho:x.top.op=2∨x.top.op=3∨(x.top.op≠2∧x.top.op≠3):=by omega
  rcases ho with ho|ho|ho
  ·have a1:=a1 (.inl ho)
   have hp:=zql x.top.val (h2 ho).2
   generalize rxV x.top.val=y at hp
   obtain⟨op,mn,mx,rs,kx⟩:=y
   rw[z7u]at hp
   repeat' first|(apply z05;first|refine z0n ?_| (apply z0a;refine z02 z16 rfl rfl ?_)|(apply z0c;refine z02 z0i rfl rfl ?_)|(apply z0s;refine z02 (z0w rfl) rfl rfl ?_)|(apply z0j;first|refine z29 a1 ?_| refine z29 hp ?_)|(apply z0f;refine z25 ?_)|(apply z0l;refine z0b z2e ?_)|(apply z18;refine z0b z1m ?_))|(apply z06;first|refine z0m ?_|apply z09)|(apply z07;first|apply z08|apply z00|refine z15 ?_| apply z04|apply z01|apply z03|refine z0h (fun _=>?_) fun _=>?_)
   all_goals try (exfalso;first|omega|contradiction)
   exact zD4
  ·have a1:=a1 (.inr ho)
   have a2:=ze2 c x.top.arg hal
   obtain⟨v,hv,hv0⟩:∃v,z4w c x.top.arg=v∧0≤v:=by
    refine⟨_,rfl,?_⟩
    rcases(h3 ho).2 with e2|e2
    ·rw[e2,zsi hat];decide
    ·rw[e2,y58 hat];decide
   rw[hv]at a2
   repeat' first|(apply z05;first|refine z0n ?_| (apply z0a;refine z02 z16 rfl rfl ?_)|(apply z0c;refine z02 z0i rfl rfl ?_)|(apply z0s;refine z02 (z0w rfl) rfl rfl ?_)|(apply z0j;first|refine z29 a1 ?_| refine z29 a2 ?_)|(apply z18;refine z0b z1m ?_))|(apply z06;first|refine z0m ?_|apply z09)|(apply z07;first|apply z08|apply z00|apply z04|apply z01|apply z03|refine z0h (fun _=>?_) fun _=>?_)
   all_goals try (exfalso;first|omega|contradiction)
   exact zD4
  ·clear a1
   repeat' first|(apply z05;first|refine z0n ?_| (apply z0a;refine z02 z16 rfl rfl ?_)|(apply z0c;refine z02 z0i rfl rfl ?_)|(apply z0s;refine z02 (z0w rfl) rfl rfl ?_)|(apply z18;refine z0b z1m ?_))|(apply z06;first|refine z0m ?_|apply z09)|(apply z07;first|apply z08|apply z00|apply z04|apply z01|apply z03|refine z0h (fun _=>?_) fun _=>?_)
   all_goals try (exfalso;first|omega|contradiction)
   exact zD4
theorem zkr{c:z10}{t:Int}(h0:0≤t)(h1:t<c.tokens.length){a:Int}(ha:0≤a∧a<3)(hl:∀vs∈c.tokens,vs.length=3):∃vs,c.tokens[t.toNat]? =some vs∧vs[a.toNat]? =some (z5p c t a)∧a<vs.length:=by
 obtain⟨vs,hvs⟩:∃x,c.tokens[t.toNat]? =some x:=⟨_,zA0 (by omega)⟩
 have h3:=hl vs (zA2 hvs)
 obtain⟨w,hw⟩:∃x,vs[a.toNat]? =some x:=⟨_,zA0 (by omega)⟩
 refine⟨vs,hvs,?_,by omega⟩
 rw[hw,z5p,zAy (by omega),zAy (by omega),hvs]
 show some w=some ((vs[a.toNat]?).getD ⟨#[]⟩)
 rw[hw];rfl
theorem zy1{c:z10}(hw:Wf c){a:Int}(ha:token c a=true){b:Int}(hb:0≤b):decide (head c a=b)=decide ((up c a)[0]? =some b):=by
 rw[zd0 hw ha (k:=0) (t:=a) rfl,zl0,decide_eq_decide]
 cases h:(up c a)[0]? with
 | none=>simp;omega
 | some x=>simp
structure y10(c:z10):Prop where
 wf:Wf c
 at_:c.attrs=z7n
 ln:∀vs∈c.tokens,vs.length=3
 nn:c.nodes.length≤1000000
 nr:c.regions.length≤1000000
 vs:∀t a,(z5p c t a).size≤1000000
theorem zwe(g:Lq)(h:zho z2i g)(b e i j:Int):z0q prog 78 [.d (strs z2i),z9m b e [i,j],S g.a] (I .i64 (zjn i j g.a))∧(¬(g.op=1∨g.op=2∨g.op=10)→z0q prog 78 [.d (strs z2i),z9m b e [i,j],S g.b] (I .i64 (zjn i j g.b)))∧(g.op=1∨g.op=2∨g.op=10→z0q prog 78 [.d (strs z2i),z9m b e [i,j],S g.b] (I .i64 (-1))):=by
 refine⟨?_,fun hn=>?_,fun hy=>?_⟩
 ·have:=zqw z2i b e [i,j] g.a (by decide) rfl
  rwa [zpl i j h.la]at this
 ·have:=zqw z2i b e [i,j] g.b (by decide) rfl
  rwa [zpl i j (h.lb hn)]at this
 ·have:=zqw z2i b e [i,j] g.b (by decide) rfl
  rw[h.hb hy,y1a]at this
  rw[h.hb hy];exact this
abbrev zo1(g:Lq):PV:=.d (.agg (gcs g.op g.a g.b g.name g.arg g.val g.fold g.mn g.mx g.args []))
theorem y1o{c:z10}(hc:y10 c)(g:Lq)(h:zho z2i g)(b e:Int){i j:Int}(hi:-1≤i∧i<c.tokens.length)(hj:-1≤j∧j<c.tokens.length)(ho:g.op=1∨g.op=2∨g.op=10) :
 z0q prog 35 [c.d,zo1 g,.d (strs z2i),z9m b e [i,j]] (B (zf2 c g (zjn i j g.a) (zjn i j g.b))):=by
 obtain⟨hx,-,hy⟩:=zwe g h b e i j
 have hy:=hy ho
 obtain⟨t,ht⟩:∃t,zjn i j g.a=t:=⟨_,rfl⟩
 have htr:-1≤t∧t<c.tokens.length:=ht▸zar hi hj g.a
 rw[ht]at hx⊢
 have htk:=hc.wf.tok
 have hul:=z9w c t
 have hal:c.attrs.length≤1000000:=by rw[hc.at_];decide
 refine z0y fun H=>?_
 refine z0g func35 (by kernel_rfl) rfl (by simp) ?_
 dsimp only[f35]
 by_cases hi0:t<0
 ·exact zD14
 ·have ti:token c t=true:=(z2p c t).2 ⟨by omega,htr.2⟩
  rw[zf2,zAy hi0]
  rcases ho with ho|ho|ho
  ·rw[zAz ho]
   all_goals exact zD15
  ·rw[zAy (by omega),zAz ho]
   have hm:=y3p g.val (z5p c t (z4w c g.name)) (h.n2 ho).2 (hc.vs _ _) g.fold
   have hn:=(h.n2 ho).1
   have ha:=ze2 c g.name hal
   rw[hn,zsi hc.at_]at ha hm
   rw[hn,zsi hc.at_]
   obtain⟨vs,v1,v2,v3⟩:=zkr (by omega) htr.2 (a:=0) (by decide) hc.ln
   generalize z5p c t 0=w at hm v2⊢
   have hnm:S g.name=S zan:=by rw[hn]
   rw[show zo1 g=.d (.agg (gcs g.op g.a g.b zan g.arg g.val g.fold g.mn g.mx g.args [])) by rw[zo1,hn]]
   repeat' first|(apply z05;first|refine z0n ?_| (apply z0a;first|refine z02 z1r rfl rfl ?_| refine z02 z16 rfl rfl ?_)|(apply z0c;refine z02 z0i rfl rfl ?_)|(apply z0s;refine z02 (z4a rfl) rfl rfl ?_)|(apply z18;refine z0b z1m ?_))|(apply z06;first|refine z0m ?_|apply z09)|(apply z07;first|apply z08|apply z00|refine z1j ?_| apply z04|apply z01|apply z2o|apply z03|refine z0h (fun _=>?_) fun _=>?_)|(apply z2m;first|(apply z1e;refine z2c mix ?_)|refine z2w ?_| (apply z0v;first|refine z0x z1r rfl rfl ?_| refine z0x z16 rfl rfl ?_| refine z0x z2f rfl rfl ?_)|(apply z0u;refine z0x z0i rfl rfl ?_)|(apply z1i;first|refine z0x (z1a rfl (z6h v1)) rfl rfl ?_| refine z0x (z1a rfl (z6h v2)) rfl rfl ?_)|(apply z1s;first|refine z5b hx ?_| refine z5b hy ?_| refine z5b ha ?_| refine z5b hm ?_))
   all_goals try omega
   all_goals first
    | exact z0e func35 _ z0p ⟨rfl,rfl⟩
  ·rw[zAy (by omega),zAy (by omega),zAz ho]
   repeat' first|(apply z05;first|refine z0n ?_| (apply z0a;first|refine z02 z1r rfl rfl ?_| refine z02 z16 rfl rfl ?_)|(apply z0c;refine z02 z0i rfl rfl ?_)|(apply z0s;refine z02 (z4a rfl) rfl rfl ?_)|(apply z0j;refine z29 (zuk hc.wf ti) ?_)|(apply z18;refine z0b z1m ?_))|(apply z06;first|refine z0m ?_|apply z09|refine z1g ?_| refine z1p (fun _=>?_) fun _=>?_)|(apply z07;first|apply z08|apply z00|refine z1j ?_| apply z04|apply z01|apply z2o|apply z03|refine z0h (fun _=>?_) fun _=>?_)|(apply z2m;first|(apply z1e;refine z2c mix ?_)|refine z2w ?_| (apply z0v;first|refine z0x z1r rfl rfl ?_| refine z0x z16 rfl rfl ?_)|(apply z0u;refine z0x z0i rfl rfl ?_)|(apply z1s;first|refine z5b hx ?_| refine z5b hy ?_))
   all_goals try omega
   all_goals
    refine z0e func35 _ z0p ⟨?_,rfl⟩
    first
     | (rw[zAi (p:=g.mn≤((up c t).length:Int)) (by assumption)];rfl)
     | (rw[zAo (p:=g.mn≤((up c t).length:Int)) (by assumption)];rfl)
theorem zyq{c:z10}(hw:Wf c):∃r:Int→Nat,∀(n:Nat) (t:Int),token c t=true→(up c t).length≤n→∀x∈up c t,r x<r t:=by
 obtain⟨rank,hr⟩:=hw.acyc
 refine⟨fun x=>rank x.toNat,fun n=>?_⟩
 induction n with
 | zero=>intro t ht hl x hx;have e:up c t=[]:=List.length_eq_zero_iff.1 (by omega);rw[e]at hx;cases hx
 | succ n ih =>
  intro t ht hl x hx
  rw[zaf hw ht]at hx hl
  split at hx
  ·cases hx
  ·rename_i hne
   rw[zAy hne]at hl
   have h0:=(z2p c t).1 ht
   have hk:rank (head c t).toNat<rank t.toNat:=by
    unfold head at hne⊢
    cases hh:c.heads[t.toNat]? with
    | none=>rw[hh]at hne;exact absurd rfl hne
    | some y =>
     rw[hh]at hne
     simp only at hne⊢
     split at hne
     ·rename_i hy
      rw[zAz hy]
      rcases hr _ _ hh with e|⟨_,_,e,_⟩
      ·subst e;exact absurd rfl hne
      ·exact e
     ·exact absurd rfl hne
   have hth:token c (head c t)=true:=(zbu hw h0.1).resolve_left hne
   rcases zAc.1 hx with rfl|hx
   ·exact hk
   ·exact Nat.lt_trans (ih _ hth (by simp only[zAk]at hl;omega) x hx) hk
theorem y03{c:z10}(hw:Wf c){t:Int}(ht:token c t=true):t∉up c t:=fun h=>by
 obtain⟨r,hr⟩:=zyq hw
 exact absurd (hr _ t ht (zAj _) t h) (Nat.lt_irrefl _)
theorem y1w{c:z10}(hw:Wf c){a:Int}(ha:token c a=true)(b:Int):(decide (0≤zo5 c a b)&&!decide (a=b))=(up c a).any fun y=>decide (b=y):=by
 rw[zo5,z8c,way,List.any_cons]
 by_cases e:a=b
 ·subst e
  have:=y03 hw ha
  rw[zAi (rfl:a=a),Bool.not_true,Bool.and_false]
  symm
  rw[List.any_eq_false]
  intro y hy
  simp only[zA3]
  rintro rfl
  exact this hy
 ·rw[zAo (show ¬b=a from fun h=>e h.symm),zAo e];simp
theorem y0h{c:z10}(a b:Int)(g:Lf):(decide (0≤zo5 c a b)&&decide (znd c a b=g.args))=zox c g a b:=by
 rw[zox,znd]
 by_cases h:0≤zo5 c a b
 ·rw[zAz h];rfl
 ·rw[zAo h]
  rw[zo5]at h
  rw[zAo h];rfl
theorem y2l{c:z10}(hc:y10 c)(g:Lq)(h:zho z2i g)(b e:Int){i j:Int}(hi:-1≤i∧i<c.tokens.length)(hj:-1≤j∧j<c.tokens.length)(ho:3≤g.op∧g.op≤9) :
 z0q prog 35 [c.d,zo1 g,.d (strs z2i),z9m b e [i,j]] (B (zf2 c g (zjn i j g.a) (zjn i j g.b))):=by
 obtain⟨hx,hy,-⟩:=zwe g h b e i j
 have hy:=hy (by omega)
 obtain⟨t,ht⟩:∃t,zjn i j g.a=t:=⟨_,rfl⟩
 have htr:-1≤t∧t<c.tokens.length:=ht▸zar hi hj g.a
 obtain⟨u,hu⟩:∃u,zjn i j g.b=u:=⟨_,rfl⟩
 have hur:-1≤u∧u<c.tokens.length:=hu▸zar hi hj g.b
 rw[ht]at hx⊢
 rw[hu]at hy⊢
 have htk:=hc.wf.tok
 have hul:=z9w c t
 have hal:c.attrs.length≤1000000:=by rw[hc.at_];decide
 refine z0y fun H=>?_
 refine z0g func35 (by kernel_rfl) rfl (by simp) ?_
 dsimp only[f35]
 by_cases hi0:t<0
 ·exact zD14
 have ti:token c t=true:=(z2p c t).2 ⟨by omega,htr.2⟩
 rw[zf2,zAy hi0,zAy (by omega),zAy (by omega),zAy (by omega)]
 by_cases hj0:u<0
 ·obtain rfl:u=-1:=by omega
  rw[zAz (by decide)]
  all_goals exact zD15
 rw[zAy hj0]
 have hop:g.op=3∨g.op=4∨g.op=5∨g.op=6∨g.op=7∨g.op=8∨g.op=9:=by omega
 rcases hop with o|o|o|o|o|o|o
 ·obtain⟨n1,n2⟩:=h.n3 o
  obtain⟨k,hk,hk0,hk1⟩:∃k,z4w c g.arg=k∧0≤k∧k<3:=by
   refine⟨_,rfl,?_⟩
   rcases n2 with e2|e2
   ·rw[e2,zsi hc.at_];decide
   ·rw[e2,y58 hc.at_];decide
  have ha:=ze2 c g.name hal
  have ha2:=ze2 c g.arg hal
  rw[n1,zsi hc.at_]at ha
  rw[hk]at ha2
  have e:zhc c g t u=decide (z5p c t 0=z5p c u k):=by
   rw[zhc,zAy (by omega),zAz (.inl o),zwi,zAz (by simpa[zsr]using o)]
   exact decide_eq_decide.2 (by simp only[zsr];rw[n1,zsi hc.at_,hk])
  rw[e]
  obtain⟨vs,v1,v2,v3⟩:=zkr (by omega) htr.2 (a:=0) (by decide) hc.ln
  obtain⟨us,w1,w2,w3⟩:=zkr (by omega) hur.2 (a:=k) ⟨hk0,hk1⟩ hc.ln
  clear e
  generalize z5p c t 0=x at v2⊢
  generalize z5p c u k=y at w2⊢
  rw[show zo1 g=.d (.agg (gcs g.op g.a g.b zan g.arg g.val g.fold g.mn g.mx g.args [])) by rw[zo1,n1]]
  repeat' first|(apply z05;first|refine z0n ?_| (apply z0a;first|refine z02 z1r rfl rfl ?_| refine z02 z16 rfl rfl ?_)|(apply z0c;refine z02 z0i rfl rfl ?_)|(apply z0t;refine z02 (z2l z1h) rfl rfl ?_)|(apply z0s;first|refine z02 (z0w rfl) rfl rfl ?_| refine z02 (z4a rfl) rfl rfl ?_)|(apply z18;refine z0b z1m ?_))|(apply z06;first|refine z0m ?_|apply z09|refine z1g ?_| refine z1p (fun _=>?_) fun _=>?_)|(apply z07;first|apply z08|apply z00|apply z04|apply z01|apply z2o|apply z03|refine z0h (fun _=>?_) fun _=>?_)|(apply z2m;first|(apply z1e;refine z2c mix ?_)|refine z2w ?_| (apply z0v;first|refine z0x z1r rfl rfl ?_| refine z0x z16 rfl rfl ?_| refine z0x z2f rfl rfl ?_)|(apply z0u;refine z0x z0i rfl rfl ?_)|(apply z1i;first|refine z0x (z1a rfl (z6h v1)) rfl rfl ?_| refine z0x (z1a rfl (z6h v2)) rfl rfl ?_| refine z0x (z1a rfl (z6h w1)) rfl rfl ?_| refine z0x (z1a rfl (z6h w2)) rfl rfl ?_)|(apply z1s;first|refine z5b hx ?_| refine z5b hy ?_| refine z5b ha ?_| refine z5b ha2 ?_))
  all_goals try omega
  all_goals first
   | exact z0e func35 _ z0p ⟨rfl,rfl⟩
 ·have e:zhc c g t u=(decide (g.mn≤u-t)&&decide (u-t≤g.mx)):=by
   rw[zhc,zAy (by omega),zAz (.inr o),zwi,zAy (by simp[zsr,o])];rfl
  rw[e]
  repeat' first|(apply z05;first|refine z0n ?_| (apply z0a;first|refine z02 z1r rfl rfl ?_| refine z02 z16 rfl rfl ?_)|(apply z0c;refine z02 z0i rfl rfl ?_)|(apply z0t;refine z02 (z2l z1h) rfl rfl ?_)|(apply z0s;first|refine z02 (z0w rfl) rfl rfl ?_| refine z02 (z4a rfl) rfl rfl ?_)|(apply z18;refine z0b z1m ?_))|(apply z06;first|refine z0m ?_|apply z09|refine z1g ?_| refine z1p (fun _=>?_) fun _=>?_)|(apply z07;first|apply z08|apply z00|apply z04|apply z01|apply z2o|apply z03|refine z0h (fun _=>?_) fun _=>?_)|(apply z2m;first|(apply z1e;refine z2c mix ?_)|refine z2w ?_| (apply z0v;first|refine z0x z1r rfl rfl ?_| refine z0x z16 rfl rfl ?_)|(apply z0u;refine z0x z0i rfl rfl ?_)|(apply z1s;first|refine z5b hx ?_| refine z5b hy ?_))
  all_goals try omega
  all_goals exact z0e func35 _ z0p ⟨by first|(rw[zAi (p:=g.mn≤u-t) (by assumption)];rfl)|(rw[zAo (p:=g.mn≤u-t) (by assumption)];rfl),rfl⟩
 ·have e:zhc c g t u=c.regions.any (zon g t u):=by rw[zhc,zAz o]
  rw[e]
  have hnr:=hc.nr
  repeat' first|(apply z05;first|refine z0n ?_| (apply z0a;first|refine z02 z1r rfl rfl ?_| refine z02 z16 rfl rfl ?_)|(apply z0c;refine z02 z0i rfl rfl ?_)|(apply z0t;refine z02 (z2l z1h) rfl rfl ?_)|(apply z0s;first|refine z02 (z0w rfl) rfl rfl ?_| refine z02 (z4a rfl) rfl rfl ?_)|(apply z18;refine z0b z1m ?_))|(apply z06;first|refine z0m ?_|apply z09|refine z1g ?_| refine z1p (fun _=>?_) fun _=>?_)|(apply z07;first|apply z08|apply z00|apply z04|apply z01|apply z2o|apply z03|refine z0h (fun _=>?_) fun _=>?_)|(apply z2m;first|(apply z1e;refine z2c mix ?_)|refine z2w ?_| (apply z0v;first|refine z0x z1r rfl rfl ?_| refine z0x z16 rfl rfl ?_)|(apply z0u;refine z0x z0i rfl rfl ?_)|(apply z1s;first|refine z5b hx ?_| refine z5b hy ?_))
  all_goals try omega
  refine z0r ?_
  refine z0d (z1o (fun q:Nat=>⟨264,[(4,.ptr (0,4) 0),(5,.ptr (0,5) 0),(11,I .i64 t),(12,I .i64 u),(165,.d (.slice (c.regions.map Region.cs))),(166,I .i64 c.regions.length),(167,I .i64 (q:Nat))],[(5,.box ((gcs g.op g.a g.b g.name g.arg g.val g.fold g.mn g.mx g.args []).map .d)),(4,.box (c.cs.map .d))],H⟩) (fun q=>q≤c.regions.length∧(c.regions.drop q).any (zon g t u)=c.regions.any (zon g t u)) (fun q=>c.regions.length-q) ?_ 0 ⟨zAf _,rfl⟩) rfl rfl
  intro q ⟨hq,hd⟩ ih
  by_cases hlt:q<c.regions.length
  ·obtain⟨x,hxx⟩:∃x,c.regions[q]? =some x:=⟨_,zA0 hlt⟩
   rw[z3d hxx,List.any_cons]at hd
   repeat' first|(apply z05;first|refine z0n ?_| (apply z0a;first|refine z02 z16 rfl rfl ?_| refine z02 z1w rfl rfl ?_)|(apply z0c;refine z02 z0i rfl rfl ?_)|(apply z0k;refine z02 (z1a rfl (idx hxx)) rfl rfl ?_)|(apply z0t;refine z02 (z0z z1h) rfl rfl ?_)|(apply z0s;first|refine z02 zcr rfl rfl ?_| refine z02 z84 rfl rfl ?_)|(apply z0f;refine z25 ?_)|(apply z0l;refine z0b z2e ?_))|(apply z06;first|refine z0m ?_|apply z09|refine z1g ?_| refine z1p (fun _=>?_) fun _=>?_)|(apply z07;first|apply z08|apply z00|refine z15 ?_| apply z04|apply z01|apply z03|refine z0h (fun _=>?_) (fun _=>?_)| refine z0o ?_)
   all_goals try omega
   all_goals first
    | (have hp:zon g t u x=true:=by(rw[zon];simp only[*,decide_true,Bool.and_self])
       refine z0e func35 _ z0p ⟨?_,rfl⟩
       rw[←hd,hp,Bool.true_or])
    | (have hp:zon g t u x=false:=by(rw[zon];simp[*])
       refine z0d (ih (q+1) ⟨by omega,?_⟩ (by omega)) rfl rfl
       rw[←hd,hp,Bool.false_or])
  ·obtain rfl:q=c.regions.length:=by omega
   exact zD44
 ·have e:zhc c g t u=decide (head c t=u):=by
   rw[zhc,zAy (by omega),zAy (by omega),zk7,zAy (by simp[zhp,o]),zAy (by simp[zhp,o]),zAy (by simp[zhp,o]),←zy1 hc.wf ti (by omega)]
  rw[e]
  repeat' first|(apply z05;first|refine z0n ?_| (apply z0a;first|refine z02 z1r rfl rfl ?_| refine z02 z16 rfl rfl ?_)|(apply z0c;refine z02 z0i rfl rfl ?_)|(apply z0t;refine z02 (z2l z1h) rfl rfl ?_)|(apply z0s;first|refine z02 (z0w rfl) rfl rfl ?_| refine z02 (z4a rfl) rfl rfl ?_)|(apply z0j;refine z29 (zgh hc.wf ti) ?_)|(apply z18;refine z0b z1m ?_))|(apply z06;first|refine z0m ?_|apply z09|refine z1g ?_| refine z1p (fun _=>?_) fun _=>?_)|(apply z07;first|apply z08|apply z00|apply z04|apply z01|apply z2o|apply z03|refine z0h (fun _=>?_) fun _=>?_)|(apply z2m;first|(apply z1e;refine z2c mix ?_)|refine z2w ?_| (apply z0v;first|refine z0x z1r rfl rfl ?_| refine z0x z16 rfl rfl ?_)|(apply z0u;refine z0x z0i rfl rfl ?_)|(apply z1s;first|refine z5b hx ?_| refine z5b hy ?_))
  all_goals try omega
  all_goals exact z0e func35 _ z0p ⟨rfl,rfl⟩
 ·have e:zhc c g t u=(decide (0≤zo5 c t u)&&!decide (t=u)):=by
   rw[zhc,zAy (by omega),zAy (by omega),zk7,zAz (by simpa[zhp]using o),←y1w hc.wf ti u]
  rw[e]
  have hwy:=zwg hc.wf u ti
  clear e
  generalize znd c t u=wl at hwy
  generalize decide (0≤zo5 c t u)=wb at hwy⊢
  cases wb
  all_goals repeat' first|(apply z05;first|refine z0n ?_| (apply z0a;first|refine z02 z1r rfl rfl ?_| refine z02 z16 rfl rfl ?_)|(apply z0c;refine z02 z0i rfl rfl ?_)|(apply z0t;refine z02 (z2l z1h) rfl rfl ?_)|(apply z0s;first|refine z02 (z0w rfl) rfl rfl ?_| refine z02 (z4a rfl) rfl rfl ?_)|(apply z0j;refine z29 hwy ?_)|(apply z18;refine z0b z1m ?_))|(apply z06;first|refine z0m ?_|apply z09|refine z1g ?_| refine z1p (fun _=>?_) fun _=>?_)|(apply z07;first|apply z08|apply z00|apply z04|apply z01|apply z2o|apply z03|refine z0h (fun _=>?_) fun _=>?_)|(apply z2m;first|(apply z1e;refine z2c mix ?_)|refine z2w ?_| (apply z0v;first|refine z0x z1r rfl rfl ?_| refine z0x z16 rfl rfl ?_)|(apply z0u;refine z0x z0i rfl rfl ?_)|(apply z1s;first|refine z5b hx ?_| refine z5b hy ?_))
  all_goals try (exfalso;first|omega|contradiction)
  all_goals exact z0e func35 _ z0p ⟨rfl,rfl⟩
 ·have e:zhc c g t u=(decide (0≤zo5 c t u)&&decide (znd c t u=g.args)):=by
   rw[zhc,zAy (by omega),zAy (by omega),zk7,zAy (by simp[zhp,o]),zAz (by simpa[zhp]using o),←y0h];rfl
  rw[e]
  have hwy:=zwg hc.wf u ti
  have hwl:(znd c t u).length≤1000000:=by
   rw[znd];split
   ·rw[zAm,zj8];omega
   ·simp
  have htx:=zsk (znd c t u) g.args hwl (by have:=h.al;omega)
  clear e
  generalize znd c t u=wl at hwy htx⊢
  generalize decide (0≤zo5 c t u)=wb at hwy⊢
  generalize decide (wl=g.args)=wc at htx⊢
  cases wb
  all_goals repeat' first|(apply z05;first|refine z0n ?_| (apply z0a;first|refine z02 z1r rfl rfl ?_| refine z02 z16 rfl rfl ?_)|(apply z0c;refine z02 z0i rfl rfl ?_)|(apply z0t;refine z02 (z2l z1h) rfl rfl ?_)|(apply z0s;first|refine z02 (z0w rfl) rfl rfl ?_| refine z02 (z4a rfl) rfl rfl ?_)|(apply z0j;first|refine z29 hwy ?_| refine z29 htx ?_)|(apply z18;refine z0b z1m ?_))|(apply z06;first|refine z0m ?_|apply z09|refine z1g ?_| refine z1p (fun _=>?_) fun _=>?_)|(apply z07;first|apply z08|apply z00|apply z04|apply z01|apply z2o|apply z03|refine z0h (fun _=>?_) fun _=>?_)|(apply z2m;first|(apply z1e;refine z2c mix ?_)|refine z2w ?_| (apply z0v;first|refine z0x z1r rfl rfl ?_| refine z0x z16 rfl rfl ?_)|(apply z0u;refine z0x z0i rfl rfl ?_)|(apply z1s;first|refine z5b hx ?_| refine z5b hy ?_))
  all_goals try (exfalso;first|omega|contradiction)
  all_goals exact z0e func35 _ z0p ⟨rfl,rfl⟩
 ·have e:zhc c g t u=c.nodes.any (zcy (zhp g) t u):=by
   rw[zhc,zAy (by omega),zAy (by omega),zk7,zAy (by simp[zhp,o]),zAy (by simp[zhp,o]),zAz (by simpa[zhp]using o)]
  rw[e]
  have hnn:=hc.nn
  repeat' first|(apply z05;first|refine z0n ?_| (apply z0a;first|refine z02 z1r rfl rfl ?_| refine z02 z16 rfl rfl ?_)|(apply z0c;refine z02 z0i rfl rfl ?_)|(apply z0t;refine z02 (z2l z1h) rfl rfl ?_)|(apply z0s;first|refine z02 (z0w rfl) rfl rfl ?_| refine z02 (z4a rfl) rfl rfl ?_)|(apply z18;refine z0b z1m ?_))|(apply z06;first|refine z0m ?_|apply z09|refine z1g ?_| refine z1p (fun _=>?_) fun _=>?_)|(apply z07;first|apply z08|apply z00|apply z04|apply z01|apply z2o|apply z03|refine z0h (fun _=>?_) fun _=>?_)|(apply z2m;first|(apply z1e;refine z2c mix ?_)|refine z2w ?_| (apply z0v;first|refine z0x z1r rfl rfl ?_| refine z0x z16 rfl rfl ?_)|(apply z0u;refine z0x z0i rfl rfl ?_)|(apply z1s;first|refine z5b hx ?_| refine z5b hy ?_))
  all_goals try omega
  refine z0r ?_
  refine z0d (z1o (fun q:Nat=>⟨264,[(4,.ptr (0,4) 0),(5,.ptr (0,5) 0),(11,I .i64 t),(12,I .i64 u),(236,.d (.slice (c.nodes.map Node.cs))),(237,I .i64 c.nodes.length),(238,I .i64 (q:Nat))],[(5,.box ((gcs g.op g.a g.b g.name g.arg g.val g.fold g.mn g.mx g.args []).map .d)),(4,.box (c.cs.map .d))],H⟩) (fun q=>q≤c.nodes.length∧(c.nodes.drop q).any (zcy (zhp g) t u)=c.nodes.any (zcy (zhp g) t u)) (fun q=>c.nodes.length-q) ?_ 0 ⟨zAf _,rfl⟩) rfl rfl
  intro q ⟨hq,hd⟩ ih
  by_cases hlt:q<c.nodes.length
  ·obtain⟨x,hxx⟩:∃x,c.nodes[q]? =some x:=⟨_,zA0 hlt⟩
   rw[z3d hxx,List.any_cons]at hd
   have hnm:(zhp g).name=g.name:=rfl
   repeat' first|(apply z05;first|refine z0n ?_| (apply z0a;first|refine z02 z16 rfl rfl ?_| refine z02 z1w rfl rfl ?_)|(apply z0c;refine z02 z0i rfl rfl ?_)|(apply z0k;refine z02 (z1a rfl (idx hxx)) rfl rfl ?_)|(apply z0t;refine z02 (z0z z1h) rfl rfl ?_)|(apply z0s;first|refine z02 zcr rfl rfl ?_| refine z02 z84 rfl rfl ?_)|(apply z0f;refine z25 ?_)|(apply z0l;refine z0b z2e ?_))|(apply z06;first|refine z0m ?_|apply z09|refine z1g ?_| refine z1p (fun _=>?_) fun _=>?_)|(apply z07;first|apply z08|apply z00|refine z15 ?_| apply z04|apply z01|apply z03|refine z0h (fun _=>?_) (fun _=>?_)| refine z0o ?_)
   all_goals try omega
   all_goals first
    | (have hp:zcy (zhp g) t u x=true:=by(rw[zcy,hnm];simp only[*,decide_true,Bool.and_self])
       refine z0e func35 _ z0p ⟨?_,rfl⟩
       rw[←hd,hp,Bool.true_or])
    | (have hp:zcy (zhp g) t u x=false:=by(rw[zcy,hnm];simp[*])
       refine z0d (ih (q+1) ⟨by omega,?_⟩ (by omega)) rfl rfl
       rw[←hd,hp,Bool.false_or])
  ·obtain rfl:q=c.nodes.length:=by omega
   exact zD44
theorem zd5{c:z10}(hc:y10 c)(b e:Int){i j:Int}(hi:-1≤i∧i<c.tokens.length)(hj:-1≤j∧j<c.tokens.length):∀(x:Cn),zau z2i x →
 z0q prog 35 [c.d,x.d,.d (strs z2i),z9m b e [i,j]] (B (z36 c i j x))
 | .leaf g,h=>by
  rw[z36]
  by_cases ho:g.op=1∨g.op=2∨g.op=10
  ·exact y1o hc g h b e hi hj ho
  ·exact y2l hc g h b e hi hj (by have:=h.op;omega)
 | .not y,h=>by
  have ih:=zd5 hc b e hi hj y h
  have hlen:([y.cs]:List (List D)).length=1:=rfl
  rw[z36]
  generalize z36 c i j y=r at ih⊢
  rw[show(Cn.not y).d=.d (.agg (gcs 11 eS eS eS eS eS false 0 0 [] [y.cs]))from rfl]
  refine z0y fun H=>?_
  refine z0g func35 (by kernel_rfl) rfl (by simp) ?_
  dsimp only[f35]
  repeat' first|(apply z05;first|refine z0n ?_| (apply z0a;refine z02 z16 rfl rfl ?_)|(apply z0c;refine z02 z0i rfl rfl ?_)|(apply z18;refine z0b z1m ?_))|(apply z06;first|refine z0m ?_|apply z09)|(apply z07;first|apply z08|apply z00|refine z1j ?_| refine z15 ?_| apply z01|apply z2o)|(apply z2m;first|(apply z1e;refine z2c mix ?_)|refine z2w ?_| (apply z0v;first|refine z0x z1r rfl rfl ?_| refine z0x z16 rfl rfl ?_| refine z0x z1w rfl rfl ?_)|(apply z0u;refine z0x z0i rfl rfl ?_)|(apply z1i;refine z0x (z5h (u:=y.cs) rfl) rfl rfl ?_)|(apply z1s;refine z5b ih ?_))
  all_goals try omega
  all_goals exact z0e func35 _ z0p ⟨rfl,rfl⟩
 | .bin o y z,h=>by
  have ih1:=zd5 hc b e hi hj y h.2.1
  have ih2:=zd5 hc b e hi hj z h.2.2
  have ho:=h.1
  have hlen:([y.cs,z.cs]:List (List D)).length=2:=rfl
  rw[z36]
  generalize z36 c i j y=r at ih1⊢
  generalize z36 c i j z=r' at ih2⊢
  rw[show(Cn.bin o y z).d=.d (.agg (gcs o eS eS eS eS eS false 0 0 [] [y.cs,z.cs]))from rfl]
  refine z0y fun H=>?_
  refine z0g func35 (by kernel_rfl) rfl (by simp) ?_
  dsimp only[f35]
  rcases ho with rfl|rfl <;> cases r <;> cases r'
  all_goals
   repeat' first|(apply z05;first|refine z0n ?_| (apply z0a;refine z02 z16 rfl rfl ?_)|(apply z0c;refine z02 z0i rfl rfl ?_)|(apply z0s;refine z02 (z4a rfl) rfl rfl ?_)|(apply z18;refine z0b z1m ?_))|(apply z06;first|refine z0m ?_|apply z09)|(apply z07;first|apply z08|apply z00|refine z1j ?_| refine z15 ?_| apply z04|apply z01)
  all_goals try omega
  all_goals refine z0r ?_
  all_goals refine z1u ?_
  all_goals repeat' first|(apply z05;first|refine z0n ?_| (apply z0a;first|refine z02 z16 rfl rfl ?_| refine z02 z1w rfl rfl ?_)|(apply z0c;refine z02 z0i rfl rfl ?_)|(apply z0k;refine z02 (z5h (u:=y.cs) rfl) rfl rfl ?_)|(apply z0t;refine z02 (z0z z1h) rfl rfl ?_)|(apply z0f;refine z25 ?_)|(apply z0l;refine z0b z2e ?_))|(apply z06;first|refine z0m ?_|apply z09)|(apply z07;first|apply z08|apply z00|refine z1j ?_| refine z15 ?_| apply z04|apply z01|apply z2o|apply z03)|(apply z2m;first|(apply z1e;refine z2c mix ?_)|refine z2w ?_| (apply z0v;first|refine z0x z1r rfl rfl ?_| refine z0x z16 rfl rfl ?_| refine z0x z1y rfl rfl ?_)|(apply z0u;refine z0x z0i rfl rfl ?_)|(apply z3p;refine z0x (z9z rfl) rfl rfl ?_)|(apply z1s;refine z5b ih1 ?_))
  all_goals try (exfalso;first|omega|(simp at *;done))
  all_goals try exact z0e func35 _ z0p ⟨rfl,rfl⟩
  all_goals first
   | refine z0d (tm':=[(2,.d (strs z2i)),(4,.ptr (0,4) 0),(5,.ptr (0,5) 0),(7,.ptr (0,7) 0),(43,.d (.slice [y.cs,z.cs])),(44,I .i64 ([y.cs,z.cs]:List (List D)).length),(45,I .i64 (0+1))]) (hp':=[(7,.box ([z2g b,z2g e,ints [i,j]].map .d)),(5,.box ((gcs 12 eS eS eS eS eS false 0 0 [] [y.cs,z.cs]).map .d)),(4,.box (c.cs.map .d))]) ?_ rfl rfl
   | refine z0d (tm':=[(2,.d (strs z2i)),(4,.ptr (0,4) 0),(5,.ptr (0,5) 0),(7,.ptr (0,7) 0),(43,.d (.slice [y.cs,z.cs])),(44,I .i64 ([y.cs,z.cs]:List (List D)).length),(45,I .i64 (0+1))]) (hp':=[(7,.box ([z2g b,z2g e,ints [i,j]].map .d)),(5,.box ((gcs 13 eS eS eS eS eS false 0 0 [] [y.cs,z.cs]).map .d)),(4,.box (c.cs.map .d))]) ?_ rfl rfl
  all_goals refine z1u ?_
  all_goals repeat' first|(apply z05;first|refine z0n ?_| (apply z0a;first|refine z02 z16 rfl rfl ?_| refine z02 z1w rfl rfl ?_)|(apply z0c;refine z02 z0i rfl rfl ?_)|(apply z0k;refine z02 (z5h (u:=z.cs) rfl) rfl rfl ?_)|(apply z0t;refine z02 (z0z z1h) rfl rfl ?_)|(apply z0f;refine z25 ?_)|(apply z0l;refine z0b z2e ?_))|(apply z06;first|refine z0m ?_|apply z09)|(apply z07;first|apply z08|apply z00|refine z1j ?_| refine z15 ?_| apply z04|apply z01|apply z2o|apply z03)|(apply z2m;first|(apply z1e;refine z2c mix ?_)|refine z2w ?_| (apply z0v;first|refine z0x z1r rfl rfl ?_| refine z0x z16 rfl rfl ?_| refine z0x z1y rfl rfl ?_)|(apply z0u;refine z0x z0i rfl rfl ?_)|(apply z3p;refine z0x (z9z rfl) rfl rfl ?_)|(apply z1s;refine z5b ih2 ?_))
  all_goals try (exfalso;first|omega|(simp at *;done))
  all_goals try exact z0e func35 _ z0p ⟨rfl,rfl⟩
  all_goals refine z1u ?_
  all_goals repeat' first|(apply z05;first|refine z0n ?_| (apply z0a;refine z02 z16 rfl rfl ?_)|(apply z0c;refine z02 z0i rfl rfl ?_))|(apply z06;first|refine z0m ?_|apply z09)|(apply z07;first|apply z08|apply z00|refine z15 ?_| refine z0o ?_)
  all_goals try (exfalso;first|omega|(simp at *;done))
  all_goals exact z0e func35 _ z0p ⟨rfl,rfl⟩
theorem zlm{c:z10}(hc:y10 c)(x:Cn)(h:zau z2i x)(hx:x.high≤5)(b e:Int){i j:Int}(hi:-1≤i∧i<c.tokens.length)(hj:-1≤j∧j<c.tokens.length) :
 z0q prog 15 [c.d,x.d,.d (strs z2i),z9m b e [i,j]] (B (z36 c i j x)):=by
 have hg:=zzg x h hx
 have hm:=y3d c hc.at_ x h
 have hh:=zd5 hc b e hi hj x h
 have htk:=hc.wf.tok
 generalize z36 c i j x=r at hh⊢
 have hin:∀(q:Nat) (t:Int),[i,j][q]? =some t→-1≤t∧t<c.tokens.length:=fun q t hq=>by
  have:=zA2 hq
  simp only[zAc,List.not_mem_nil,or_false]at this
  rcases this with rfl|rfl <;> assumption
 refine z0y fun H=>?_
 refine z0g func15 (by kernel_rfl) rfl (by simp) ?_
 dsimp only[f15]
 have hl1:(z2i.length:Int)=2:=rfl
 have hl2:(([i,j]:List Int).length:Int)=2:=rfl
 repeat' first|(apply z05;first|refine z0n ?_| (apply z0a;first|refine z02 z1r rfl rfl ?_| refine z02 z16 rfl rfl ?_)|(apply z0c;refine z02 z0i rfl rfl ?_)|(apply z0s;refine z02 (z0w rfl) rfl rfl ?_)|(apply z0j;first|refine z29 hg ?_| refine z29 hm ?_)|(apply z18;refine z0b z1m ?_))|(apply z06;first|refine z0m ?_|apply z09)|(apply z07;first|apply z08|apply z00|refine z15 ?_| apply z04|apply z01)
 all_goals try (exfalso;first|omega|contradiction)
 refine z0r ?_
 refine z0d (z1o (fun q:Nat=>⟨50,[(2,.d (strs z2i)),(4,.ptr (0,4) 0),(5,.ptr (0,5) 0),(7,.ptr (0,7) 0),(29,.d (ints [i,j])),(30,I .i64 ([i,j]:List Int).length),(31,I .i64 (q:Nat))],[(7,.box ([z2g b,z2g e,ints [i,j]].map .d)),(5,.box (x.cs.map .d)),(4,.box (c.cs.map .d))],H⟩) (fun q=>q≤([i,j]:List Int).length) (fun q=>([i,j]:List Int).length-q) ?_ 0 (zAf _)) rfl rfl
 intro q hq ih
 by_cases hlt:q<([i,j]:List Int).length
 ·obtain⟨t,ht⟩:∃x,[i,j][q]? =some x:=⟨_,zA0 hlt⟩
  have:=hin q t ht
  repeat' first|(apply z05;first|refine z0n ?_| (apply z0a;first|refine z02 z1r rfl rfl ?_| refine z02 z16 rfl rfl ?_| refine z02 z2f rfl rfl ?_)|(apply z0c;refine z02 z0i rfl rfl ?_)|(apply z0k;refine z02 (z1a rfl (idx ht)) rfl rfl ?_)|(apply z0t;refine z02 (z0z z1h) rfl rfl ?_)|(apply z0s;refine z02 (z0w rfl) rfl rfl ?_))|(apply z06;first|refine z0m ?_|apply z09|refine z1g ?_| refine z1p (fun _=>?_) fun _=>?_)|(apply z07;first|apply z08|apply z00|refine z1j ?_| apply z04|apply z01|apply z03|refine z0h (fun _=>?_) (fun _=>?_)| refine z0o ?_)
  all_goals exact zD63
 ·clear ih
  repeat' first|(apply z05;first|refine z0n ?_| (apply z0a;refine z02 z1r rfl rfl ?_)|(apply z0j;refine z29 hh ?_))|(apply z06;first|refine z0m ?_|apply z09)|(apply z07;first|apply z08|apply z00|apply z04|apply z01|refine z0h (fun _=>?_) (fun _=>?_)| refine z0o ?_)
  all_goals try omega
  all_goals first
   | exact z0e func15 _ z0p ⟨rfl,rfl⟩
end Go.Proofs.YtonhfccmeammbaaGreatDoor
namespace Go.Proofs.YtonhfccmeammbaaGreatDoor
open Go.Ab Go.Rx
set_option maxHeartbeats 20000000
set_option maxRecDepth 100000
attribute [local irreducible] Run Ops Op1 z1z Val Tr z0q z1v NF Rel z5c z5d
abbrev y5n(x:Int):List D:=[z2g x]
theorem zsq(l:List Int)(hl:l≠[])(hlen:l.length≤1000000):z0q prog 38 [.d (ints l)] (.d (ints l)):=by
 refine z0y fun H=>?_
 refine z0g func38 (by kernel_rfl) rfl (by simp) ?_
 dsimp only[f38]
 repeat' first|(apply z05;first|refine z0n ?_| (apply z0s;refine zmf (q:=([]:List Int)) (r:=l) (g:=y5n) rfl rfl rfl rfl rfl (fun _=>rfl) rfl rfl (by decide) (by simp;omega) ?_)|(apply z3c;refine zi0 rfl rfl rfl rfl rfl rfl rfl rfl rfl (by decide) ?_)|refine z02 (zxo rfl (by intro h;exact hl (List.map_eq_nil_iff.1 h))) rfl rfl ?_)|(apply z06;first|refine z0m ?_|apply z09)|(apply z07;first|apply z08|apply z00|refine z15 ?_| apply z04)
 refine z1f 7 rfl ?_
 exact z0e func38 _ z0p ⟨rfl,rfl⟩
theorem zne(m:Mat)(hl:m.ls.length≤1000):z0q prog 37 [.d (.agg m.cs),.d (.agg m.cs)] (I .i64 0):=by
 obtain⟨b,e,ls⟩:=m
 simp only at hl
 rw[show(⟨b,e,ls⟩:Mat).cs=[z2g b,z2g e,ints ls]from rfl]
 refine z0y fun H=>?_
 refine z0g func37 (by kernel_rfl) rfl (by simp) ?_
 dsimp only[f37]
 repeat' first|(apply z05;first|refine z0n ?_| (apply z0a;refine z02 z16 rfl rfl ?_)|(apply z0c;refine z02 z0i rfl rfl ?_)|(apply z0s;refine zmf (q:=[b,e]) (r:=ls) (g:=y5n) rfl rfl rfl rfl rfl (fun _=>rfl) rfl rfl (by decide) (by simp;omega) ?_)|(apply z18;refine z0b z1m ?_)|(apply z3c;refine zi0 (ys:=[b,e].map y5n) rfl rfl rfl rfl rfl rfl rfl rfl rfl (by decide) ?_))|(apply z06;first|refine z0m ?_|apply z09)|(apply z07;first|apply z08|apply z00|apply z01)
 refine z1f 15 rfl ?_
 refine z1f 23 rfl ?_
 obtain⟨l,hL⟩:∃l,[b,e]++ls=l:=⟨_,rfl⟩
 have hll:l.length≤1002:=by rw[←hL];simp;omega
 rw[hL]
 refine z0r ?_
 refine z0d (z1o (fun q:Nat=>⟨64,[(5,.d (ints l)),(6,.d (ints l)),(7,I .i64 (q:Nat))],[],H⟩) (fun q=>q≤l.length) (fun q=>l.length-q) ?_ 0 (zAf _)) rfl rfl
 intro q hq ih
 by_cases hlt:q<l.length
 ·obtain⟨y,hy⟩:∃x,l[q]? =some x:=⟨_,zA0 hlt⟩
  repeat' first|(apply z05;first|refine z0n ?_| (apply z0t;refine z02 (z0z z1h) rfl rfl ?_)|(apply z0s;refine z02 (z0w rfl) rfl rfl ?_))|(apply z06;first|refine z0m ?_|apply z09|refine z1g ?_| refine z1p (fun _=>?_) fun _=>?_)|(apply z07;first|apply z08|apply z00|refine z15 ?_| apply z04|apply z01|apply z2o|apply z03|refine z0h (fun _=>?_) (fun _=>?_)| refine z38 rfl (fun _=>?_) (fun _=>?_)|refine z0o ?_)|(apply z2m;first|(apply z1e;refine z2c mix ?_)|refine z2w ?_| (apply z0v;refine z0x z2f rfl rfl ?_)|(apply z1i;refine z0x (z1a rfl (idx hy)) rfl rfl ?_))
  all_goals exact zD63
 ·repeat' (first|(apply z05;first|refine z0n ?_| (apply z0s;refine z02 (z0w rfl) rfl rfl ?_))|(apply z06;first|refine z0m ?_|apply z09|refine z1g ?_| refine z1p (fun _=>?_) fun _=>?_)|(apply z07;first|apply z08|apply z00|refine z15 ?_| apply z04|apply z01|apply z2o|refine z0h (fun _=>?_) (fun _=>?_)| refine z38 rfl (fun _=>?_) (fun _=>?_)|refine z0o ?_)|(apply z2m;refine z2w ?_))
  all_goals try omega
  all_goals exact z0e func37 _ z0p ⟨rfl,rfl⟩
theorem zyk(l:List Mat)(hl:l.length≤1000000)(hm:∀m∈l,m.ls.length≤1000):z0q prog 18 [.d (.slice (l.map Mat.cs)),.d (.slice (l.map Mat.cs))] (B true):=by
 refine z0y fun H=>?_
 refine z0g func18 (by kernel_rfl) rfl (by simp) ?_
 dsimp only[f18]
 repeat' first|(apply z05;first|refine z0n ?_| (apply z0s;refine z02 (z0w rfl) rfl rfl ?_))|(apply z06;first|refine z0m ?_|apply z09)|(apply z07;first|apply z08|apply z00|apply z04|apply z01|refine z38 rfl (fun _=>?_) fun _=>?_)
 all_goals try omega
 refine z0r ?_
 refine z0d (z1o (fun q:Nat=>⟨27,[(0,.d (.slice (l.map Mat.cs))),(1,.d (.slice (l.map Mat.cs))),(12,I .i64 l.length),(13,I .i64 (q:Nat))],[],H⟩) (fun q=>q≤l.length) (fun q=>l.length-q) ?_ 0 (zAf _)) rfl rfl
 intro q hq ih
 by_cases hlt:q<l.length
 ·obtain⟨y,hy⟩:∃x,l[q]? =some x:=⟨_,zA0 hlt⟩
  have hc:=zne y (hm y (zA2 hy))
  repeat' first|(apply z05;first|refine z0n ?_| (apply z0t;refine z02 (z0z z1h) rfl rfl ?_))|(apply z06;first|refine z0m ?_|apply z09)|(apply z07;first|apply z08|apply z00|refine z15 ?_| apply z04|apply z01|apply z2o|apply z03|refine z0h (fun _=>?_) (fun _=>?_)| refine z0o ?_)|(apply z2m;first|(apply z1e;refine z2c mix ?_)|refine z2w ?_| (apply z0v;refine z0x z1w rfl rfl ?_)|(apply z1i;refine z0x (z1a rfl (idx hy)) rfl rfl ?_)|(apply z1s;refine z5b hc ?_))
  all_goals exact zD63
 ·repeat' (first|(apply z05;refine z0n ?_)|(apply z06;first|refine z0m ?_|apply z09)|(apply z07;first|apply z08|apply z00|apply z04|apply z01|apply z2o|refine z0h (fun _=>?_) (fun _=>?_)| refine z0o ?_)|(apply z2m;refine z2w ?_))
  all_goals try omega
  all_goals exact z0e func18 _ z0p ⟨rfl,rfl⟩
def z7k(c:z10)(x:Cn)(m:Mat):Bool:=z36 c (m.ls.getD 0 0) (m.ls.getD 1 0) x
theorem zv1(τ:Tab){c:z10}(hw:Wf c)(hc:c.nodes.length≤1000000)(hr:c.regions.length≤1000000)(hat:c.attrs=z7n)(hvs:∀t a,(z5p c t a).size≤1000000)(x:Cn)(h:zau z2i x)(hx:x.high≤5)
 (ms:List Mat) (hms:∀m∈ms,zpr c m) (hl:ms.length≤1000) (e0:Nat):z1v prog 19 [c.d,x.d,.d (strs z2i),.d (.slice (ms.map Mat.cs))] (z98 τ e0) [] (.d (.slice ((ms.filter (z7k c x)).map Mat.cs))):=by
 have htok:=hw.tok
 have hal:c.attrs.length≤1000000:=by rw[hat];decide
 have hs:=zla x h hx
 have hk:=zmp τ c hat x h (e0+1)
 refine z2a fun H hH=>?_
 have hT:HT τ e0 H:=HT.of (bs:=[]) hH
 refine z0g func19 (by kernel_rfl) rfl (by simp) ?_
 dsimp only[f19]
 repeat' first|(apply z05;first|refine z5f (d:=9) rfl rfl rfl (by decide) ?_|refine z0n ?_| (apply z0a;refine z02 z1r rfl rfl ?_)|(apply z0s;refine z02 (z0w rfl) rfl rfl ?_)|(apply z0j;first|refine z29 hs ?_| refine z4g hk rfl (bkT hT) (by decide) ?_)|(apply z18;refine z0b z1m ?_))|(apply z06;first|refine z0m ?_|apply z09)|(apply z07;first|apply z08|apply z00|refine z15 ?_| apply z04|apply z01)
 all_goals try (exfalso;first|omega|contradiction)
 refine z0r ?_
 refine z0d (z1o (fun q:Nat=>⟨51,[(2,.d (strs z2i)),(4,.ptr (0,4) 0),(5,.ptr (0,5) 0),(9,.ref (0,9)),(21,.d (.slice (ms.map Mat.cs))),(22,I .i64 ms.length),(23,I .i64 (q:Nat))],[(9,.row 42 3 (((ms.take q).filter (z7k c x)).map Mat.cs)),(5,.box (x.cs.map .d)),(4,.box (c.cs.map .d))],H⟩) (fun q=>q≤ms.length) (fun q=>ms.length-q) ?_ 0 (zAf _)) rfl rfl
 intro q hq ih
 have hfl:((ms.take q).filter (z7k c x)).length≤1000:=by
  have:=List.length_filter_le (z7k c x) (ms.take q)
  rw[zAm]at this;omega
 by_cases hlt:q<ms.length
 ·obtain⟨y,hy⟩:∃x,ms[q]? =some x:=⟨_,zA0 hlt⟩
  obtain⟨q1,q2,q3,i,j,rfl',hi,hj⟩:=hms y (zA2 hy)
  obtain⟨mb,me,ls⟩:=y
  simp only at q1 q2 q3 rfl'
  subst rfl'
  have hh:=zaq τ hw mb me hi hj hc hr hal hvs x h (e0+1)
  have hf:=y27 c mb me [i,j] (by omega) rfl (by intro t ht3;simp only[zAc,List.not_mem_nil,or_false]at ht3;rcases ht3 with rfl|rfl <;> assumption)
  have hcl:=zsq [i,j] (by simp) (by simp)
  have hstep:(ms.take (q+1)).filter (z7k c x)=(ms.take q).filter (z7k c x)++if z36 c i j x then [⟨mb,me,[i,j]⟩]else []:=by
   rw[List.take_add_one,hy,List.filter_append]
   simp[List.filter_cons,z7k]
  generalize z36 c i j x=r at hh hstep
  cases r
  ·repeat' (first|(apply z05;first|refine z0n ?_| (apply z0a;first|refine z02 z1r rfl rfl ?_| refine z02 z1w rfl rfl ?_| refine z02 z1y rfl rfl ?_)|(apply z0k;refine z02 (z1a rfl (idx hy)) rfl rfl ?_)|(apply z0t;refine z02 (z0z z1h) rfl rfl ?_)|(apply z0j;first|refine z29 hf ?_| refine z4g hh rfl (bkT hT) (by decide) ?_)|(apply z0f;refine z25 ?_)|(apply z0l;refine z0b z2e ?_))|(apply z06;first|refine z0m ?_|apply z09)|(apply z07;first|apply z08|apply z00|refine z15 ?_| apply z04|apply z01|apply z03|refine z0h (fun _=>?_) (fun _=>?_)| refine z0o ?_))
   all_goals try (exfalso;first|omega|contradiction)
   refine z0d (ih (q+1) (by omega) (by omega)) rfl ?_
   rw[hstep,zAy (by simp),List.append_nil];rfl
  ·repeat' (first|(apply z05;first|refine z0n ?_| (apply z0a;first|refine z02 z1r rfl rfl ?_| refine z02 z1w rfl rfl ?_| refine z02 z1y rfl rfl ?_)|(apply z0k;refine z02 (z1a rfl (idx hy)) rfl rfl ?_)|(apply z0t;refine z02 (z0z z1h) rfl rfl ?_)|(apply z0j;first|refine z29 hf ?_| refine z4g hh rfl (bkT hT) (by decide) ?_)|(apply z0f;refine z25 ?_)|(apply z0l;refine z0b z2e ?_))|(apply z06;first|refine z0m ?_|apply z09)|(apply z07;first|apply z08|apply z00|refine z1j ?_| apply z04|apply z01|apply z2o|apply z03|refine z0h (fun _=>?_) (fun _=>?_)| refine z0o ?_)|(apply z2m;first|(apply z1e;refine z2c mix ?_)|refine z2w ?_| (apply z0v;refine z0x z16 rfl rfl ?_)|(apply z0u;refine z0x z0i rfl rfl ?_)|(apply z3v;refine zao (by first|exact rfl|exact⟨_,rfl,rfl,rfl⟩) rfl rfl (⟨mb,me,[i,j]⟩:Mat) rfl rfl rfl rfl rfl rfl rfl (by decide) (by omega) ?_)|(apply z1s;refine z5b hcl ?_)|(apply zap;refine zds (by first|exact rfl|exact⟨_,rfl,rfl,rfl⟩) rfl rfl rfl rfl rfl rfl rfl (by decide) ?_)|(apply z6y;refine z7w rfl ?_)))
   all_goals try (exfalso;first|omega|contradiction)
   refine z4n 48 9 rfl rfl ?_
   refine z0d (ih (q+1) (by omega) (by omega)) rfl ?_
   rw[hstep,zAz rfl];rfl
 ·obtain rfl:q=ms.length:=by omega
  rw[List.take_length]
  refine z1f 9 rfl ?_
  repeat' first|(apply z05;refine z0n ?_)|(apply z06;first|refine z0m ?_|apply z09)|(apply z07;first|apply z08|apply z00|apply z04|apply z01|refine z0h (fun _=>?_) (fun _=>?_)| refine z0o ?_)
  all_goals try omega
  all_goals exact z0e func19 _ z0p ⟨rfl,rfl⟩
end Go.Proofs.YtonhfccmeammbaaGreatDoor
namespace Go.Proofs.YtonhfccmeammbaaGreatDoor
open Go.Ab
set_option maxHeartbeats 20000000
attribute [local irreducible] Run Ops Op1 z1z Val Tr z0q z1v NF Rel z4v z2b
theorem y4j:Wf exC:=by
 refine⟨by decide,by decide,by decide,.inr (by decide),fun i=>[1,0,1].getD i 0,fun i h hi=>?_⟩
 match i with
 | 0=>simp[exC]at hi;subst hi;decide
 | 1=>simp[exC]at hi;subst hi;decide
 | 2=>simp[exC]at hi;subst hi;decide
 | i+3=>simp[exC]at hi
abbrev zzo:Lf:=⟨6,⟨#[120]⟩,⟨#[121]⟩,⟨#[]⟩,0,0,[]⟩
abbrev zsz:Lf:=⟨8,⟨#[120]⟩,⟨#[121]⟩,⟨#[]⟩,0,0,[⟨#[100,101,116]⟩]⟩
abbrev y4i:Lf:=⟨7,⟨#[121]⟩,⟨#[120]⟩,⟨#[]⟩,0,0,[]⟩
abbrev y4g:Lf:=⟨10,⟨#[120]⟩,⟨#[]⟩,⟨#[]⟩,1,1,[]⟩
theorem y4k:zsw zzo:=⟨by decide,by decide,by decide,by decide,by decide,by decide⟩
theorem y56:zsw zsz:=⟨by decide,by decide,by decide,by decide,by decide,by decide⟩
theorem y6u:zsw y4i:=⟨by decide,by decide,by decide,by decide,by decide,by decide⟩
theorem y6q:zsw y4g:=⟨by decide,by decide,by decide,by decide,by decide,by decide⟩
theorem inE:∀t∈([0,1]:List Int),-1≤t∧t<exC.tokens.length:=by decide
theorem y4t:z0q prog 14 [exC.d,zzo.d,.d (strs z2i),z9m 0 2 [0,1]] (B true) :=
 zas y4j zzo y4k 0 2 [0,1] (zhx 0 2 0 1) (fun _=>zlf 0 2 0 1) (by decide) (by decide) (by decide) rfl inE
theorem y51:z0q prog 14 [exC.d,zsz.d,.d (strs z2i),z9m 0 2 [0,1]] (B true) :=
 (by decide:zky exC zsz 0 1=true)▸zas y4j zsz y56 0 2 [0,1] (zhx 0 2 0 1) (fun _=>zlf 0 2 0 1) (by decide) (by decide) (by decide) rfl inE
theorem y6z:z0q prog 14 [exC.d,y4i.d,.d (strs z2i),z9m 0 2 [0,1]] (B false) :=
 (by decide:zky exC y4i 1 0=false)▸zas y4j y4i y6u 0 2 [0,1] (zlf 0 2 0 1) (fun _=>zhx 0 2 0 1) (by decide) (by decide) (by decide) rfl inE
theorem y71:z0q prog 14 [exC.d,y4g.d,.d (strs z2i),z9m 0 2 [0,1]] (B true) :=
 (by decide:zky exC y4g 0 1=true)▸zas y4j y4g y6q 0 2 [0,1] (zhx 0 2 0 1) (fun h=>absurd rfl h) (by decide) (by decide) (by decide) rfl inE
theorem zjh:z0q prog 16 [] (B true):=by
 refine z0y fun H=>?_
 refine z0g func16 (by kernel_rfl) rfl (by simp) ?_
 dsimp only[f16]
 repeat' first|(apply z05;first|refine z0n ?_| (apply z0f;refine z25 ?_)|(apply z0l;refine z0b z2e ?_)|(apply z1n;refine z2y (p:=z9m 0 2 [0,1]) ?_)|(apply z3c;refine z3b rfl ?_))|(apply z06;first|refine z0m ?_|apply z09)|(apply z07;first|apply z08|apply z00|apply z2o)|(apply z2m;first|(apply z1e;refine z2c mix ?_)|refine z2w ?_| (apply z0v;refine z0x z1y rfl rfl ?_)|(apply z1s;first|refine z5b y5y ?_| refine z5b zdj ?_| refine z5b y4t ?_| refine z5b y51 ?_| refine z5b y6z ?_| refine z5b y71 ?_)|(apply zap;refine zds (by first|exact rfl|exact⟨_,rfl,rfl,rfl⟩) rfl rfl rfl rfl rfl rfl rfl (by decide) ?_)|(apply z6y;refine z7w rfl ?_))
 all_goals first
  | exact z0e func16 _ z0p ⟨rfl,rfl⟩
open Go.Ab Go.Rx
set_option maxRecDepth 100000
attribute [local irreducible] z5c z5d
theorem Made.vals{s:Nat}{c:z10}(h:Made s c)(t a:Int):(z5p c t a).size≤1000000:=by
 unfold z5p
 split
 ·decide
 ·split
  ·decide
  ·cases ht:c.tokens[t.toNat]? with
   | none=>show ByteArray.size ⟨#[]⟩≤1000000;decide
   | some vs =>
    simp only
    cases hv:vs[a.toNat]? with
    | none=>show ByteArray.size ⟨#[]⟩≤1000000;decide
    | some v =>
     have:=(h.tok vs (zA2 ht)).2 v (zA2 hv)
     simp only[Option.getD_some];omega
abbrev mls(l:List Mat):PV:=.d (.slice (l.map Mat.cs))
attribute [local irreducible] zal
theorem zpd{c:z10}(hc:y10 c)(x:Cn)(h:zau z2i x)(hx:x.high≤5)(ms:List Mat)(hms:∀m∈ms,zpr c m)(hl:ms.length≤1000) :
 z0q prog 20 [c.d,x.d,.d (strs z2i),.d (.slice (ms.map Mat.cs))] (.d (.slice ((ms.filter (z7k c x)).map Mat.cs))):=by
 have htok:=hc.wf.tok
 refine z0y fun H=>?_
 refine z0g func20 (by kernel_rfl) rfl (by simp) ?_
 dsimp only[f20]
 repeat' first|(apply z05;first|refine z5f (d:=9) rfl rfl rfl (by decide) ?_|refine z0n ?_| (apply z0s;refine z02 (z0w rfl) rfl rfl ?_)|(apply z18;refine z0b z1m ?_))|(apply z06;first|refine z0m ?_|apply z09)|(apply z07;first|apply z08|apply z00|apply z01)
 refine z0r ?_
 refine z0d (z1o (fun q:Nat=>⟨29,[(2,.d (strs z2i)),(4,.ptr (0,4) 0),(5,.ptr (0,5) 0),(9,.ref (0,9)),(12,.d (.slice (ms.map Mat.cs))),(13,I .i64 ms.length),(14,I .i64 (q:Nat))],[(9,.row 42 3 (((ms.take q).filter (z7k c x)).map Mat.cs)),(5,.box (x.cs.map .d)),(4,.box (c.cs.map .d))],H⟩) (fun q=>q≤ms.length) (fun q=>ms.length-q) ?_ 0 (zAf _)) rfl rfl
 intro q hq ih
 have hfl:((ms.take q).filter (z7k c x)).length≤1000:=by
  have:=List.length_filter_le (z7k c x) (ms.take q)
  rw[zAm]at this;omega
 by_cases hlt:q<ms.length
 ·obtain⟨y,hy⟩:∃x,ms[q]? =some x:=⟨_,zA0 hlt⟩
  obtain⟨q1,q2,q3,i,j,rfl',hi,hj⟩:=hms y (zA2 hy)
  obtain⟨mb,me,ls⟩:=y
  simp only at q1 q2 q3 rfl'
  subst rfl'
  have hh:=zlm hc x h hx mb me hi hj
  have hstep:(ms.take (q+1)).filter (z7k c x)=(ms.take q).filter (z7k c x)++if z36 c i j x then [⟨mb,me,[i,j]⟩]else []:=by
   rw[List.take_add_one,hy,List.filter_append]
   simp[List.filter_cons,z7k]
  generalize z36 c i j x=r at hh hstep
  cases r
  ·repeat' (first|(apply z05;first|refine z0n ?_| (apply z0a;first|refine z02 z1r rfl rfl ?_| refine z02 z1w rfl rfl ?_| refine z02 z1y rfl rfl ?_)|(apply z0k;refine z02 (z1a rfl (idx hy)) rfl rfl ?_)|(apply z0t;refine z02 (z0z z1h) rfl rfl ?_)|(apply z0j;refine z29 hh ?_)|(apply z0f;refine z25 ?_)|(apply z0l;refine z0b z2e ?_))|(apply z06;first|refine z0m ?_|apply z09)|(apply z07;first|apply z08|apply z00|refine z15 ?_| apply z04|apply z01|apply z03|refine z0h (fun _=>?_) (fun _=>?_)| refine z0o ?_))
   all_goals try (exfalso;first|omega|contradiction)
   refine z0d (ih (q+1) (by omega) (by omega)) rfl ?_
   rw[hstep,zAy (by simp),List.append_nil];rfl
  ·repeat' (first|(apply z05;first|refine z0n ?_| (apply z0a;first|refine z02 z1r rfl rfl ?_| refine z02 z1w rfl rfl ?_| refine z02 z1y rfl rfl ?_)|(apply z0k;refine z02 (z1a rfl (idx hy)) rfl rfl ?_)|(apply z0t;refine z02 (z0z z1h) rfl rfl ?_)|(apply z0s;refine z99 (⟨mb,me,[i,j]⟩:Mat) rfl ?_)|(apply z0j;refine z29 hh ?_)|(apply z0f;refine z25 ?_)|(apply z0l;refine z0b z2e ?_)|(apply z3c;refine z3b rfl ?_))|(apply z06;first|refine z0m ?_|apply z09)|(apply z07;first|apply z08|apply z00|refine z1j ?_| apply z04|apply z01|apply z03|refine z0h (fun _=>?_) (fun _=>?_)| refine z0o ?_))
   all_goals try (exfalso;first|omega|contradiction)
   refine z4n 26 9 rfl rfl ?_
   refine z0d (ih (q+1) (by omega) (by omega)) rfl ?_
   rw[hstep,zAz rfl];rfl
 ·obtain rfl:q=ms.length:=by omega
  rw[List.take_length]
  refine z1f 9 rfl ?_
  repeat' first|(apply z05;refine z0n ?_)|(apply z06;first|refine z0m ?_|apply z09)|(apply z07;first|apply z08|apply z00|apply z04|apply z01|refine z0h (fun _=>?_) (fun _=>?_)| refine z0o ?_)
  all_goals try omega
  all_goals exact z0e func20 _ z0p ⟨rfl,rfl⟩
theorem Made.rf{s:Nat}{c:z10}(h:Made s c)(hs:s≤3):y10 c:=⟨h.wf (by omega),h.attrs,fun vs hv=>(h.tok vs hv).1,by have:=h.nnodes;omega,by have:=h.nregs;omega,h.vals⟩
end Go.Proofs.YtonhfccmeammbaaGreatDoor
