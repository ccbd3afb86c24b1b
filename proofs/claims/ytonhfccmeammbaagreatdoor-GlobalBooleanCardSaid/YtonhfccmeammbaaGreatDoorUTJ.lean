/- A part of the proof: T63 to T77. -/
import Derived.Test.YtonhfccmeammbaaGreatDoorUTI
import Derived.Test.YtonhfccmeammbaaGreatDoorUc
import Derived.Test.YtonhfccmeammbaaGreatDoorUv
import Derived.Test.YtonhfccmeammbaaGreatDoorUTE
set_option linter.all false
set_option maxRecDepth 100000
namespace Go.Proofs.YtonhfccmeammbaaGreatDoor
open Go.Ab
set_option maxHeartbeats 20000000
attribute [local irreducible] Run Ops Op1 z1x Val Tr z0m z1r NF Rel z47 z1u
theorem zx4:Wf exC:=by
 refine⟨by decide,by decide,by decide,.inr (by decide),fun i=>[1,0,1].getD i 0,fun i h hi=>?_⟩
 match i with
 | 0=>simp[exC] at hi;subst hi;decide
 | 1=>simp[exC] at hi;subst hi;decide
 | 2=>simp[exC] at hi;subst hi;decide
 | i+3=>simp[exC] at hi
abbrev zu0:Lf:=⟨6,⟨#[120]⟩,⟨#[121]⟩,⟨#[]⟩,0,0,[]⟩
abbrev zpm:Lf:=⟨8,⟨#[120]⟩,⟨#[121]⟩,⟨#[]⟩,0,0,[⟨#[100,101,116]⟩]⟩
abbrev zx1:Lf:=⟨7,⟨#[121]⟩,⟨#[120]⟩,⟨#[]⟩,0,0,[]⟩
abbrev zwz:Lf:=⟨10,⟨#[120]⟩,⟨#[]⟩,⟨#[]⟩,1,1,[]⟩
theorem zy0:zps zu0:=⟨by decide,by decide,by decide,by decide,by decide,by decide⟩
theorem zxm:zps zpm:=⟨by decide,by decide,by decide,by decide,by decide,by decide⟩
theorem zzd:zps zx1:=⟨by decide,by decide,by decide,by decide,by decide,by decide⟩
theorem zz7:zps zwz:=⟨by decide,by decide,by decide,by decide,by decide,by decide⟩
theorem inE:∀ t∈([0,1]:List Int),-1≤t∧t<exC.tokens.length:=by decide
theorem zyf:z0m Tryz.prog 14 [exC.d,zu0.d,.d (strs z2r),za2 0 2 [0,1]] (B true) :=
 z9g zx4 zu0 zy0 0 2 [0,1] (zdb 0 2 0 1) (fun _=>zj9 0 2 0 1) (by decide) (by decide) (by decide) rfl inE
theorem zyc:z0m Tryz.prog 14 [exC.d,zpm.d,.d (strs z2r),za2 0 2 [0,1]] (B true) :=
 (by decide:zhi exC zpm 0 1=true)▸z9g zx4 zpm zxm 0 2 [0,1] (zdb 0 2 0 1) (fun _=>zj9 0 2 0 1) (by decide) (by decide) (by decide) rfl inE
theorem zzf:z0m Tryz.prog 14 [exC.d,zx1.d,.d (strs z2r),za2 0 2 [0,1]] (B false) :=
 (by decide:zhi exC zx1 1 0=false)▸z9g zx4 zx1 zzd 0 2 [0,1] (zj9 0 2 0 1) (fun _=>zdb 0 2 0 1) (by decide) (by decide) (by decide) rfl inE
theorem zzg:z0m Tryz.prog 14 [exC.d,zwz.d,.d (strs z2r),za2 0 2 [0,1]] (B true) :=
 (by decide:zhi exC zwz 0 1=true)▸z9g zx4 zwz zz7 0 2 [0,1] (zdb 0 2 0 1) (fun h=>absurd rfl h) (by decide) (by decide) (by decide) rfl inE
theorem zc8:z0m Tryz.prog 16 [] (B true):=by
 refine z10 fun H=>?_
 refine z0g Tryz.func16 (by kernel_rfl) rfl (by simp) ?_
 dsimp only[Tryz.f16]
 repeat' (first|(apply z04;(first|refine z0l ?_| (apply z0f;(refine z2d ?_))|(apply z0i;(refine z0b z1e ?_))|(apply z1i;(refine z2x (p:=za2 0 2 [0,1]) ?_))|(apply z3t;(refine z3s rfl ?_))))|(apply z05;(first|refine z0k ?_|apply z09))|(apply z06;(first|apply z07|apply z00|apply z2z))|(apply z2v;(first|(apply z1l;refine z2n mix ?_)|refine z3h ?_| (apply z0u;(refine z0w z2a rfl rfl ?_))|(apply z22;(first|refine z5f zx8 ?_| refine z5f ze0 ?_| refine z5f zyf ?_| refine z5f zyc ?_| refine z5f zzf ?_| refine z5f zzg ?_))|(apply z89;(refine zal (by first|exact rfl|exact⟨_,rfl,rfl,rfl⟩) rfl rfl rfl rfl rfl rfl rfl (by decide) ?_))|(apply z5l;(refine z61 rfl ?_)))))
 all_goals first
  | exact z0c Tryz.func16 _ z1j ⟨rfl,rfl⟩
open Go.Ab Go.Rx
set_option maxRecDepth 100000
attribute [local irreducible] z83 z7w
theorem zwo (τ:Tab) (l m:List Int) (hl:l.length≤9223372036854775807) (hm:m.length≤9223372036854775807):z1r Tryz.prog 4 [.d (ints l),.d (ints m)] (z6t τ 0) [] (B true):=by
 refine z2h fun H hH=>?_
 have hT:HT τ 0 H:=HT.of (bs:=[]) hH
 refine z0g Tryz.func4 (by kernel_rfl) rfl (by simp) ?_
 dsimp only[Tryz.f4]
 have hl2:(l.take 120).length≤120:=by simp;omega
 have hm2:(m.take 120).length≤120:=by simp;omega
 repeat' (first|(apply z04;(first|refine z0l ?_| (apply z0a;(refine z02 z2a rfl rfl ?_))|(apply z0x;(refine z02 (z0y rfl) rfl rfl ?_))|(apply z0j;(first|(refine z5c (zj5 _ 0 5 hl2 (by decide) (by decide)) rfl rfl (by decide) ?_;rintro⟨c,k1⟩ ⟨⟨s,hs,hc⟩,hk1⟩;simp only at hc hk1 ⊢;have hw:=hc.wf (by omega);have ht:=hw.tok;have ht0:=hw.tok0;have htx:=hc.ntexts;have htx0:=hc.text0)|(refine z5c (z7h _ [sX] hm2 (by decide) 0 0 (by decide) (by decide)) rfl rfl (by decide) ?_;rintro⟨g,k2⟩ ⟨g1,g2,g3⟩;simp only at g1 g2 g3 ⊢)|(refine z5c (zf7 _ k1 c 5 hl2 (by omega) (by decide) (by omega) (by omega) hc.span) rfl rfl (by decide) ?_;rintro⟨ms,k3⟩ ⟨m1,m2,m3⟩;simp only at m1 m2 m3 ⊢)))|(apply z0f;(refine z2d ?_))|(apply z0i;(refine z0b z1e ?_))|(apply z3t;(refine z3s (ys:=[sX].map fun x=>[z5p x]) rfl ?_))|(refine zox (d:=11) rfl hl (by decide) rfl ?_;refine zfa 11 500 rfl rfl ?_)|(refine zox (d:=15) rfl hm (by decide) rfl ?_;refine zfa 15 501 rfl rfl ?_)))|(apply z05;(first|refine z0k ?_|apply z09))|(apply z06;(first|apply z07|apply z00|apply z01)))
 refine z0t ?_
 refine z0e (z1v (fun q:Nat=>⟨37,[(6,.ptr (0,6) 0),(7,.ptr (0,7) 0),(20,.d (.slice (ms.map Mat.cs))),(21,I .i64 ms.length),(22,I .i64 (q:Nat))],[(7,.box (g.cs.map .d)),(6,.box (c.cs.map .d))],H⟩) (fun q=>q≤ms.length) (fun q=>ms.length-q) ?_ 0 (zAf _)) rfl rfl
 intro q hq ih
 by_cases hlt:q<ms.length
 · obtain⟨x,hx⟩:∃ x,ms[q]? =some x:=⟨_,zA0 hlt⟩
   obtain⟨q1,q2,q3,-⟩:=m1 x (zA2 hx)
   obtain⟨mb,me,ls⟩:=x
   simp only at q1 q2 q3
   have hU:=zpa τ c hc.attrs g g1 (by omega) mb me [-1,mb] (by omega) rfl (by intro t ht3;simp only[zAc,List.not_mem_nil,or_false] at ht3;rcases ht3 with rfl|rfl <;> omega) false (fun e0=>(zom c g (g1.flat g2) mb me mb).effb _) 1
   repeat' (first|(apply z04;(first|refine z0l ?_| (apply z0a;(first|refine z02 z18 rfl rfl ?_| refine z02 z2j rfl rfl ?_))|(apply z0d;(refine z02 z1a rfl rfl ?_))|(apply z0n;(refine z02 (z1o rfl (idx hx)) rfl rfl ?_))|(apply z0z;(refine z02 (z14 z1p) rfl rfl ?_))|(apply z0j;(refine z2s zc8 ?_))|(apply z0f;(refine z2d ?_))|(apply z0i;(refine z0b z1e ?_))|(apply z3t;(refine z3s (ys:=[-1,mb].map fun x=>[z3c x]) rfl ?_))))|(apply z05;(first|refine z0k ?_|apply z09))|(apply z06;(first|apply z07|apply z00|refine z1f ?_| apply z08|apply z01|apply z2z|apply z03|refine z0h (fun _=>?_) (fun _=>?_)| refine z0o ?_))|(apply z2v;(first|(apply z1l;refine z2n mix ?_)|(apply z0u;(first|refine z0w z2c rfl rfl ?_| refine z0w z2a rfl rfl ?_))|(apply z22;(first|refine z5f ze0 ?_| refine zgc hU (by first|exact rfl|exact⟨_,rfl,rfl,rfl⟩) rfl (bkT hT) (by decide) ?_)))))
   all_goals try (exfalso;first|omega|contradiction)
   all_goals first
    | exact z0e (ih (q+1) (by omega) (by omega)) rfl rfl
 · repeat' (first|(apply z04;(first|refine z0l ?_| (apply z0j;(refine z2s zc8 ?_))))|(apply z05;(first|refine z0k ?_|apply z09))|(apply z06;(first|apply z07|apply z00|apply z08|apply z01|refine z0h (fun _=>?_) (fun _=>?_)| refine z0o ?_)))
   all_goals try (exfalso;omega)
   all_goals first
    | exact z0c Tryz.func4 _ z1j ⟨rfl,rfl⟩
end Go.Proofs.YtonhfccmeammbaaGreatDoor
namespace Go.Proofs.YtonhfccmeammbaaGreatDoor
open Go.Ab Go.Rx
set_option maxHeartbeats 20000000
set_option maxRecDepth 100000
attribute [local irreducible] Run Ops Op1 z1x Val Tr z0m z1r NF Rel z83 z7w
abbrev scQ (c:z0v) (g:Lq) (a b:Int):List D:=c.cs++(Cn.leaf g).cs++[z3c a,z3c b]
def zvr (g:Lq) (a b:Int) (r:Region):Bool:=decide (r.type=g.name)&&decide (r.b≤min a b)&&decide (max a b<r.e)
theorem zmv (c:z0v) (g:Lq) (a b:Int) (n:Region) (k sl:Nat):z1r Tryz.prog 127 [.d (.agg n.cs),.ptr (k,sl) 0] [((k,sl),.box ((scQ c g a b).map .d))] [] (B (zvr g a b n)):=by
 refine z2h fun H hH=>?_
 have hH0:=hH ((k,sl),.box ((scQ c g a b).map .d)) (by simp)
 refine z0g Tryz.func127 (by kernel_rfl) rfl (by simp) ?_
 dsimp only[Tryz.f127]
 repeat' (first|(apply z04;(first|refine z0l ?_| (apply z0a;(first|refine z02 (z18 (b:=.box ((scQ c g a b).map .d))) rfl (bk1 hH0) ?_| refine z02 z18 rfl rfl ?_))|(apply z0d;(refine z02 z1a rfl rfl ?_))|(apply z0x;(first|refine z02 zjt rfl rfl ?_| refine z02 ze4 rfl rfl ?_))|(apply z1c;(refine z0b z1q ?_))))|(apply z05;(first|refine z0k ?_|apply z09|refine z1m ?_| refine z1t (fun _=>?_) (fun _=>?_)))|(apply z06;(first|apply z07|apply z00)))
 all_goals exact z0c Tryz.func127 _ z1j ⟨by unfold zvr;first|(rw[zAi (p:=n.type=g.name) (by assumption),zAi (p:=n.b≤min a b) (by assumption)];rfl)|(rw[zAi (p:=n.type=g.name) (by assumption),zAn (p:=n.b≤min a b) (by assumption)];rfl)|(rw[zAn (p:=n.type=g.name) (by assumption)];rfl),rfl⟩
theorem zmm (c:z0v) (g:Lq) (a b:Int) (hc:c.regions.length≤1000000):z0m Tryz.prog 99 [.d (.agg (scQ c g a b))] (B (c.regions.any (zvr g a b))):=by
 refine z10 fun H=>?_
 refine z0g Tryz.func99 (by kernel_rfl) rfl (by simp) ?_
 dsimp only[Tryz.f99]
 repeat' (first|(apply z04;(first|refine z0l ?_| (apply z0a;(refine z02 z18 rfl rfl ?_))|(apply z0d;(refine z02 z1a rfl rfl ?_))|(apply z0j;(refine z3u (zrm (kk:=0) (zvr g a b) c.regions hc (fun k x _=>zmv c g a b x k 1)) rfl rfl (by decide) ?_))|(apply z1c;(refine z0b z1q ?_))|refine z43 rfl rfl (by decide) ?_))|(apply z05;(first|refine z0k ?_|apply z09))|(apply z06;(first|apply z07|apply z00)))
 all_goals exact z0c Tryz.func99 _ z1j ⟨rfl,rfl⟩
def zyq (g:Lq):Lf:=⟨g.op,g.a,g.b,g.name,g.mn,g.mx,g.args⟩
def zud (g:Lq):Lp:=⟨g.op,g.a,g.b,g.name,g.arg,g.mn,g.mx⟩
def zv6 (c:z0v) (g:Lq) (a b:Int):Bool :=
 if g.op=5 then c.regions.any (zvr g a b) else if g.op=3∨g.op=4 then zu1 c (zud g) a b else zmc c (zyq g) a b
theorem zjo {c:z0v} (hw:Wf c) (g:Lq) (h:zgx z2r g) (h3:3≤g.op∧g.op≤9) {a b:Int} (ha:token c a=true) (hb:-1≤b∧b≤1000000) (ha2:a≤1000000) (hc:c.nodes.length≤1000000) (hr:c.regions.length≤1000000) (hat:c.attrs.length≤1000000):z0m Tryz.prog 73 [.d (.agg (scQ c g a b))] (B (zv6 c g a b)):=by
 obtain⟨op,ga,gb,name,arg,val,fold,mn,mx,args⟩:=g
 obtain⟨-,-,-,-,h5,h6,h7,h8,h9,-,-,-,h10⟩:=h
 simp only at h3 h5 h6 h7 h8 h9 h10
 have ht:=(z3d c a).1 ha
 have hop:(op=3∨op=4)∨op=5∨(op=6∨op=7∨op=8∨op=9):=by omega
 rcases hop with ho|rfl|ho
 · obtain⟨rfl,rfl⟩:=h7 (by omega)
   obtain rfl:=h9 (by omega)
   have hok:zz3 (zud ⟨op,ga,gb,name,arg,eS,false,mn,mx,[]⟩):=⟨ho,fun e=>h8 (by simp only[zud] at e;omega),fun e=>⟨h5 (by simp only[zud] at e;omega),h6 (by simp only[zud] at e;omega)⟩⟩
   have:=zjn c (zud ⟨op,ga,gb,name,arg,eS,false,mn,mx,[]⟩) hok a b hat ⟨by omega,ha2⟩ hb
   rw[zv6,zAx (by simp only;omega),zAy ho]
   exact this
 · obtain⟨rfl,rfl⟩:=h7 (by omega)
   have hrs:=zmm c ⟨5,ga,gb,name,arg,eS,false,mn,mx,args⟩ a b hr
   have hv:z6c[(5:Int).toNat]? =some [fnD 99]:=rfl
   refine z10 fun H=>?_
   refine z0g Tryz.func73 (by kernel_rfl) rfl (by simp) ?_
   dsimp only[Tryz.f73]
   repeat' (first|(apply z04;(first|refine zbu (ys:=z6c) rfl rfl rfl rfl rfl rfl rfl rfl (by decide) ?_|refine z0l ?_| (apply z1c;(refine z0b z1q ?_))))|(apply z05;(first|refine z0k ?_|apply z09))|(apply z06;(first|apply z07|apply z00|apply z2z))|(apply z2v;(first|(apply z1l;refine z2n mix ?_)|refine z3h ?_| (apply z0u;(first|refine z0w z2c rfl rfl ?_| refine z0w z18 rfl rfl ?_| refine z0w z2p rfl rfl ?_))|(apply z0q;(refine z0w z1a rfl rfl ?_))|(apply z1n;(refine z0w (z1o rfl hv) rfl rfl ?_))|(apply z22;(refine zgu (by first|exact rfl|exact⟨_,rfl,rfl,rfl⟩) rfl hrs rfl (by decide) ?_)))))
   all_goals exact z0c Tryz.func73 _ z1j ⟨rfl,rfl⟩
 · obtain⟨rfl,rfl⟩:=h7 (by omega)
   obtain rfl:=h6 (by omega)
   have:=zg3 hw (zyq ⟨op,ga,gb,name,eS,eS,false,mn,mx,args⟩) (by simp only[zyq];omega) b ha hc ho
   rw[zv6,zAx (by simp only;omega),zAx (by simp only;omega)]
   exact this
def rxV (v:Str):Rx:=if v=xA then rA else if v=xB then rB else rD
theorem zv9 (τ:Tab) (v:Str) (hv:v∈zcj):z1r Tryz.prog 90 [S v] (z6t τ 0) [] (.tup [.d (eX (rxV v)),I .i64 0,I .i64 0]):=by
 simp only[zcj,zAc,List.not_mem_nil,or_false] at hv
 rcases hv with rfl|rfl|rfl
 · exact zqd τ
 · exact zqh τ
 · exact zq2 τ
theorem zyw (v:Str):fit (rxV v):=by
 unfold rxV
 split
 · exact zyy
 · split
   · exact zys
   · exact zyv
def mtV (v w:Str) (fold:Bool):Bool:=if fold then mtS zl7 (rxV v) w else mtS (fun c=>[c]) (rxV v) w
theorem zxk (τ:Tab) (v w:Str) (hv:v∈zcj) (hw:w.size≤1000000) (fold:Bool) (e:Nat):z1r Tryz.prog 70 [S v,S w,B fold] (z6t τ e) [] (B (mtV v w fold)):=by
 have hx:=zv9 τ v hv
 have hm1:=zok (rxV v) (zyw v) w hw
 have hm2:=zpn (rxV v) (zyw v) w hw
 refine z2h fun H hH=>?_
 have hT:HT τ e H:=HT.of (bs:=[]) hH
 obtain⟨b1,hb1⟩:∃ b,mtS (fun c=>[c]) (rxV v) w=b:=⟨_,rfl⟩
 obtain⟨b2,hb2⟩:∃ b,mtS zl7 (rxV v) w=b:=⟨_,rfl⟩
 rw[mtV,hb1,hb2]
 rw[hb1] at hm1
 rw[hb2] at hm2
 clear hb1 hb2
 generalize rxV v=x at hx hm1 hm2
 refine z0g Tryz.func70 (by kernel_rfl) rfl (by simp) ?_
 dsimp only[Tryz.f70]
 refine z4g 700 e 700 hT.a rfl rfl ?_
 refine z4g 701 e 701 (raw:=.glob 1 τ.o1) ((z9l H (e,700) (e,701) .gone (by simp)).trans hT.b) rfl rfl ?_
 refine z0e (tm':=[(0,S v),(1,S w),(2,B fold),(100701,.al (0,701) (e+1,701)),(100700,.al (0,700) (e+1,700))]) (hp':=[(701,.glob 1 τ.o1),(700,.glob 0 τ.o0)]) ?_ rfl rfl
 obtain⟨op,mn,mx,rs,ks⟩:=x
 rw[show Drx (.mk op mn mx rs ks)=.agg (rx5 op mn mx rs ks) from zcr _ _ _ _ _] at hm1 hm2
 rw[zcr] at hx
 cases fold
 all_goals repeat' (first|(apply z04;(first|refine z0l ?_| (apply z0a;(refine z02 z2a rfl rfl ?_))|(apply z0j;(first|refine z3u hx rfl (z29 (m:=(0,700)) rfl (z29 (m:=(0,701)) rfl zfy)) (by decide) ?_|refine z2s hm1 ?_| refine z2s hm2 ?_))|(apply z0f;(refine z2d ?_))|(apply z0i;(refine z0b z1e ?_))))|(apply z05;(first|refine z0k ?_|apply z09))|(apply z06;(first|apply z07|apply z00|refine z1b rfl ?_|refine z1f ?_| apply z08)))
 all_goals try (exfalso;first|omega|contradiction)
 all_goals
  refine z39 701 e 701 (raw:=.glob 1 τ.o1) rfl rfl (by simp[upd]) rfl rfl ?_
  refine z39 700 e 700 (raw:=.glob 0 τ.o0) rfl rfl (by simp[upd]) rfl rfl ?_
  exact z0c Tryz.func70 _ z1j ⟨rfl,zi7 hT⟩
def zpr (c:z0v) (g:Lq) (i j:Int):Bool :=
 if i<0 then false else if g.op=1 then true else if g.op=2 then mtV g.val (z6o c i (z5j c g.name)) g.fold
 else if g.op=10 then decide (g.mn≤((up c i).length:Int))&&decide (((up c i).length:Int)≤g.mx) else if j<0 then false else zv6 c g i j
theorem zny (τ:Tab) {c:z0v} (hw:Wf c) (g:Lq) (h:zgx z2r g) (b e:Int) (ls:List Int) {i j:Int} (hx:z0m Tryz.prog 69 [.d (strs z2r),za2 b e ls,S g.a] (I .i64 i)) (hy:¬(g.op=1∨g.op=2∨g.op=10)→z0m Tryz.prog 69 [.d (strs z2r),za2 b e ls,S g.b] (I .i64 j))
 (hi:-1≤i∧i<c.tokens.length) (hj:-1≤j∧j<c.tokens.length) (hc:c.nodes.length≤1000000) (hr:c.regions.length≤1000000) (hat:c.attrs.length≤1000000) (hvs:∀ t a,(z6o c t a).size≤1000000) (e0:Nat) :
 z1r Tryz.prog 32 [c.d,(Cn.leaf g).d,.d (strs z2r),za2 b e ls] (z6t τ e0) [] (B (zpr c g i j)):=by
 have htok:=hw.tok
 have hul:=zdo c i
 have hop:=h.op
 rw[show (Cn.leaf g).d=.d (.agg (gcs g.op g.a g.b g.name g.arg g.val g.fold g.mn g.mx g.args [])) from rfl]
 refine z2h fun H hH=>?_
 have hT:HT τ e0 H:=HT.of (bs:=[]) hH
 refine z0g Tryz.func32 (by kernel_rfl) rfl (by simp) ?_
 dsimp only[Tryz.f32]
 by_cases hi0:i<0
 · rw[zpr,zAy hi0]
   all_goals exact zD9
 · have ti:token c i=true:=(z3d c i).2 ⟨by omega,hi.2⟩
   rw[zpr,zAx hi0]
   by_cases h1:g.op=1
   · rw[zAy h1]
     all_goals exact zD9
   · rw[zAx h1]
     by_cases h2:g.op=2
     · rw[zAy h2]
       have hm:=zxk τ g.val (z6o c i (z5j c g.name)) (h.n2 h2).2 (hvs _ _) g.fold (e0+1)
       have hgv:=zel c i g.name hat
       repeat' (first|(apply z04;(first|refine z0l ?_| (apply z0a;(first|refine z02 z2c rfl rfl ?_| refine z02 z18 rfl rfl ?_))|(apply z0d;(refine z02 z1a rfl rfl ?_))|(apply z0j;(refine z2s hx ?_))|(apply z0f;(refine z2d ?_))|(apply z0i;(refine z0b z1e ?_))|(apply z1c;(refine z0b z45 ?_))|refine z43 rfl rfl (by decide) ?_))|(apply z05;(first|refine z0k ?_|apply z09))|(apply z06;(first|apply z07|apply z00|apply z08|apply z01|apply z2z|apply z03|refine z0h (fun _=>?_) (fun _=>?_)))|(apply z2v;(first|(apply z1l;refine z2n mix ?_)|refine z3h ?_| (apply z0u;(first|refine z0w z2c rfl rfl ?_| refine z0w z18 rfl rfl ?_))|(apply z0q;(refine z0w z1a rfl rfl ?_))|(apply z22;(first|refine z5f hgv ?_| refine zgc hm (by first|exact rfl|exact⟨_,rfl,rfl,rfl⟩) rfl (bkT hT) (by decide) ?_)))))
       all_goals exact zD42
     · rw[zAx h2]
       by_cases h10:g.op=10
       · rw[zAy h10]
         repeat' (first|(apply z04;(first|refine z0l ?_| (apply z0a;(first|refine z02 z2c rfl rfl ?_| refine z02 z18 rfl rfl ?_))|(apply z0d;(refine z02 z1a rfl rfl ?_))|(apply z0x;(refine z02 (z0y rfl) rfl rfl ?_))|(apply z0j;(first|refine z2s hx ?_| refine z2s (zjw hw ti) ?_))|(apply z0f;(refine z2d ?_))|(apply z0i;(refine z0b z1e ?_))|(apply z1c;(refine z0b z45 ?_))|refine z43 rfl rfl (by decide) ?_))|(apply z05;(first|refine z0k ?_|apply z09|refine z1m ?_| refine z1t (fun _=>?_) (fun _=>?_)))|(apply z06;(first|apply z07|apply z00|apply z08|apply z01|apply z2z|apply z03|refine z0h (fun _=>?_) (fun _=>?_)))|(apply z2v;(first|refine z3h ?_| (apply z0u;(first|refine z0w z2c rfl rfl ?_| refine z0w z18 rfl rfl ?_))|(apply z0q;(refine z0w z1a rfl rfl ?_)))))
         all_goals try (exfalso;omega)
         all_goals
          refine z0c Tryz.func32 _ z1j ⟨?_,rfl⟩
          exact zD51
       · rw[zAx h10]
         have hy:=hy (by omega)
         by_cases hj0:j<0
         · rw[zAy hj0]
           repeat' (first|(apply z04;(first|refine z0l ?_| (apply z0a;(first|refine z02 z2c rfl rfl ?_| refine z02 z18 rfl rfl ?_))|(apply z0d;(refine z02 z1a rfl rfl ?_))|(apply z0j;(first|refine z2s hx ?_| refine z2s hy ?_))|(apply z0f;(refine z2d ?_))|(apply z0i;(refine z0b z1e ?_))|(apply z1c;(refine z0b z45 ?_))|(apply z1i;(refine z2x ?_))|refine z43 rfl rfl (by decide) ?_))|(apply z05;(first|refine z0k ?_|apply z09|refine z1m ?_| refine z1t (fun _=>?_) (fun _=>?_)))|(apply z06;(first|apply z07|apply z00|apply z08|apply z01|apply z2z|apply z03|refine z0h (fun _=>?_) (fun _=>?_)))|(apply z2v;(first|refine z3h ?_| (apply z0u;(first|refine z0w z2c rfl rfl ?_| refine z0w z18 rfl rfl ?_))|(apply z0q;(refine z0w z1a rfl rfl ?_)))))
           all_goals exact zD42
         · rw[zAx hj0]
           have hrel:z0m Tryz.prog 73 [.d (.agg (c.cs++gcs g.op g.a g.b g.name g.arg g.val g.fold g.mn g.mx g.args []++[z3c i,z3c j]))] (B (zv6 c g i j)):=zjo hw g h (by omega) (b:=j) ti (by omega) (by omega) hc hr hat
           repeat' (first|(apply z04;(first|refine z0l ?_| (apply z0a;(first|refine z02 z2c rfl rfl ?_| refine z02 z18 rfl rfl ?_))|(apply z0d;(refine z02 z1a rfl rfl ?_))|(apply z0j;(first|refine z2s hx ?_| refine z2s hy ?_| refine z2s hrel ?_))|(apply z0f;(refine z2d ?_))|(apply z0i;(refine z0b z1e ?_))|(apply z1c;(refine z0b z45 ?_))|(apply z1i;(refine z2x ?_))|refine z43 rfl rfl (by decide) ?_))|(apply z05;(first|refine z0k ?_|apply z09|refine z1m ?_| refine z1t (fun _=>?_) (fun _=>?_)))|(apply z06;(first|apply z07|apply z00|apply z08|apply z01|apply z2z|apply z03|refine z0h (fun _=>?_) (fun _=>?_)))|(apply z2v;(first|refine z3h ?_| (apply z0u;(first|refine z0w z2c rfl rfl ?_| refine z0w z18 rfl rfl ?_))|(apply z0q;(refine z0w z1a rfl rfl ?_)))))
           all_goals exact zD42
def zue (i j:Int) (s:Str):Int:=if s=sX then i else j
def z42 (c:z0v) (i j:Int):Cn→Bool
 | .leaf g=>zpr c g (zue i j g.a) (zue i j g.b)
 | .not x=>!z42 c i j x
 | .bin o x y=>if o=12 then z42 c i j x&&z42 c i j y else z42 c i j x||z42 c i j y
theorem zz1 (b e i j:Int) (s:Str) (hs:s∈z2r):z0m Tryz.prog 69 [.d (strs z2r),za2 b e [i,j],S s] (I .i64 (zue i j s)):=by
 simp only[z2r,zAc,List.not_mem_nil,or_false] at hs
 rcases hs with rfl|rfl
 · exact zdb b e i j
 · exact zj9 b e i j
theorem zi9 {i j n:Int} (hi:-1≤i∧i<n) (hj:-1≤j∧j<n) (s:Str):-1≤zue i j s∧zue i j s<n:=by
 unfold zue;split <;> assumption
abbrev hbx (d:Nat) (c:z0v) (b e:Int) (ls:List Int):List (Nm × Blk):=[((d,4),.box (c.cs.map .d)),((d,6),.box [.d (strs z2r)]),((d,7),.box ([z3c b,z3c e,ints ls].map .d))]
theorem zsh (τ:Tab) (c:z0v) (b e:Int) (ls:List Int) (k:Cn) (r:Bool) (ih:∀ e0,z1r Tryz.prog 32 [c.d,k.d,.d (strs z2r),za2 b e ls] (z6t τ e0) [] (B r)) (d e0:Nat) :
 z1r Tryz.prog 67 [.d (.agg k.cs),.ptr (d,4) 0,.ptr (d,6) 0,.ptr (d,7) 0] (hbx d c b e ls++z6t τ e0) [] (B r):=by
 have ih:=ih (e0+1)
 refine z2h fun H hH=>?_
 have hT:HT τ e0 H:=HT.of (bs:=hbx d c b e ls) hH
 have h4:=hH ((d,4),.box (c.cs.map .d)) (by simp)
 have h6:=hH ((d,6),.box [.d (strs z2r)]) (by simp)
 have h7:=hH ((d,7),.box ([z3c b,z3c e,ints ls].map .d)) (by simp)
 refine z0g Tryz.func67 (by kernel_rfl) rfl (by simp) ?_
 dsimp only[Tryz.f67]
 repeat' (first|(apply z04;(first|refine z0l ?_| (apply z0a;(first|refine z02 (z2c (b:=.box (c.cs.map .d)) (cs:=c.cs)) rfl (bk1 h4) ?_| refine z02 (z18 (b:=.box [.d (strs z2r)])) rfl (bk1 h6) ?_| refine z02 (z2c (b:=.box ([z3c b,z3c e,ints ls].map .d)) (cs:=[z3c b,z3c e,ints ls])) rfl (bk1 h7) ?_| refine z02 z2c rfl rfl ?_))|(apply z0j;(refine z3u ih rfl (bkT hT) (by decide) ?_))|(apply z1c;(refine z0b z1q ?_))))|(apply z05;(first|refine z0k ?_|apply z09))|(apply z06;(first|apply z07|apply z00)))
 all_goals first
  | exact z0c Tryz.func67 _ z1j ⟨rfl,rfl⟩
abbrev zwv (d:Nat):List PV:=[.ptr (d,4) 0,.ptr (d,6) 0,.ptr (d,7) 0]
abbrev kfn (d:Nat):PV:=.fn (.func 67) [] (zwv d)
theorem zw7 (τ:Tab) (c:z0v) (b e:Int) (ls:List Int) (k:Cn) (r:Bool) (ih:∀ e0,z1r Tryz.prog 32 [c.d,k.d,.d (strs z2r),za2 b e ls] (z6t τ e0) [] (B r)) (e0:Nat) :
 z1r Tryz.prog 68 [.d (.agg k.cs),.ptr (2,9) 0] (((2,9),.box [kfn 0])::(hbx 2 c b e ls++z6t τ e0)) [] (B (!r)):=by
 have hk:=zsh τ c b e ls k r ih 3 (e0+1)
 refine z2h fun H hH=>?_
 have hT:HT τ e0 H:=HT.of (bs:=((2,9),.box [kfn 0])::hbx 2 c b e ls) hH
 have h9:=hH ((2,9),.box [kfn 0]) (by simp)
 have h4:=hH ((2,4),.box (c.cs.map .d)) (by simp)
 have h6:=hH ((2,6),.box [.d (strs z2r)]) (by simp)
 have h7:=hH ((2,7),.box ([z3c b,z3c e,ints ls].map .d)) (by simp)
 refine z0g Tryz.func68 (by kernel_rfl) rfl (by simp) ?_
 dsimp only[Tryz.f68]
 repeat' (first|(apply z04;(first|refine z0l ?_| (apply z0a;(first|refine z02 (z18 (b:=.box [kfn 0]) (p:=kfn 3)) rfl (bk1 h9) ?_| refine z02 z2c rfl rfl ?_))|(apply z0j;(refine zhm (first:=[]) (cap:=zwv 3) (ps:=[k.d]) (bs:=hbx 3 c b e ls++z6t τ (e0+1)) hk rfl rfl (z29 (m:=(3,4)) h4 (z29 (m:=(3,6)) h6 (z29 (m:=(3,7)) h7 (bkT hT)))) (by decide) ?_))|(apply z1c;(refine z0b z1q ?_))))|(apply z05;(first|refine z0k ?_|apply z09))|(apply z06;(first|apply z07|apply z00)))
 all_goals first
  | exact z0c Tryz.func68 _ z1j ⟨rfl,rfl⟩
theorem zb2 (τ:Tab) {c:z0v} (hw:Wf c) (b e:Int) {i j:Int} (hi:-1≤i∧i<c.tokens.length) (hj:-1≤j∧j<c.tokens.length) (hc:c.nodes.length≤1000000) (hr:c.regions.length≤1000000) (hat:c.attrs.length≤1000000) (hvs:∀ t a,(z6o c t a).size≤1000000) :
 ∀ (x:Cn),zas z2r x→∀ e0,z1r Tryz.prog 32 [c.d,x.d,.d (strs z2r),za2 b e [i,j]] (z6t τ e0) [] (B (z42 c i j x))
 | .leaf g,h,e0=>zny τ hw g h b e [i,j] (zz1 b e i j g.a h.la) (fun hn=>zz1 b e i j g.b (h.lb hn)) (zi9 hi hj _) (zi9 hi hj _) hc hr hat hvs e0
 | .not y,h,e0=>by
  have ih:=zb2 τ hw b e hi hj hc hr hat hvs y h
  have hk:=zsh τ c b e [i,j] y _ ih 0 (e0+1)
  have hlen:([y.cs]:List (List D)).length=1:=rfl
  rw[z42]
  generalize z42 c i j y=r at hk ⊢
  rw[show (Cn.not y).d=.d (.agg (gcs 11 eS eS eS eS eS false 0 0 [] [y.cs])) from rfl]
  clear ih
  refine z2h fun H hH=>?_
  have hT:HT τ e0 H:=HT.of (bs:=[]) hH
  refine z0g Tryz.func32 (by kernel_rfl) rfl (by simp) ?_
  dsimp only[Tryz.f32]
  repeat' (first|(apply z04;(first|refine z0l ?_| (apply z0a;(refine z02 z18 rfl rfl ?_))|(apply z0d;(refine z02 z1a rfl rfl ?_))|(apply z0f;(refine z2d ?_))|(apply z0i;(refine z0b z1e ?_))|(apply z1c;(refine z0b z45 ?_))|refine z43 rfl rfl (by decide) ?_))|(apply z05;(first|refine z0k ?_|apply z09))|(apply z06;(first|apply z07|apply z00|refine z1b rfl ?_|refine z1f ?_| apply z01|apply z2z))|(apply z2v;(first|(apply z1l;refine z2n mix ?_)|refine z3h ?_| (apply z0u;(first|refine z0w z18 rfl rfl ?_| refine z0w z2j rfl rfl ?_))|(apply z0q;(refine z0w z1a rfl rfl ?_))|(apply z1n;(refine z0w (z23 (u:=y.cs) rfl (by omega) rfl rfl) rfl rfl ?_))|(apply z22;(refine zus (first:=[]) (cap:=zwv 0) (ps:=[y.d]) (bs:=hbx 0 c b e [i,j]++z6t τ (e0+1)) hk (by first|exact rfl|exact⟨_,rfl,rfl,rfl⟩) rfl rfl (z29 (m:=(0,4)) rfl (z29 (m:=(0,6)) rfl (z29 (m:=(0,7)) rfl (bkT hT)))) (by decide) ?_)))))
  all_goals try (exfalso;omega)
  all_goals first
   | exact z0c Tryz.func32 _ z1j ⟨rfl,rfl⟩
 | .bin o y z,h,e0=>by
  have ih1:=zb2 τ hw b e hi hj hc hr hat hvs y h.2.1
  have ih2:=zb2 τ hw b e hi hj hc hr hat hvs z h.2.2
  have ho:=h.1
  rw[z42]
  have hkid:∀ k∈[y,z],∀ e0,z1r Tryz.prog 32 [c.d,k.d,.d (strs z2r),za2 b e [i,j]] (z6t τ e0) [] (B (z42 c i j k)):=fun k hk=>by
   simp only[zAc,List.not_mem_nil,or_false] at hk
   rcases hk with rfl|rfl <;> assumption
  clear ih1 ih2
  have hA:=zey (cf:=68) [.ptr (0,9) 0] (((0,9),.box [kfn 0])::(hbx 0 c b e [i,j]++z6t τ (e0+1))) (fun k=>!z42 c i j k) [y,z] (by simp) (fun k hk=>zw7 τ c b e [i,j] k _ (hkid k hk) (e0+3))
  have hO:=zey (cf:=67) (zwv 0) (hbx 0 c b e [i,j]++z6t τ (e0+1)) (fun k=>z42 c i j k) [y,z] (by simp) (fun k hk=>zsh τ c b e [i,j] k _ (hkid k hk) 2 (e0+3))
  clear hkid
  rw[show ([y,z]:List Cn).any (fun k=>!z42 c i j k)=(!z42 c i j y||!z42 c i j z) by simp] at hA
  rw[show ([y,z]:List Cn).any (fun k=>z42 c i j k)=(z42 c i j y||z42 c i j z) by simp] at hO
  generalize z42 c i j y=r at hA hO ⊢
  generalize z42 c i j z=r' at hA hO ⊢
  rw[show [y,z].map Cn.cs=[y.cs,z.cs] from rfl] at hA hO
  rw[show (Cn.bin o y z).d=.d (.agg (gcs o eS eS eS eS eS false 0 0 [] [y.cs,z.cs])) from rfl]
  refine z2h fun H hH=>?_
  have hT:HT τ e0 H:=HT.of (bs:=[]) hH
  refine z0g Tryz.func32 (by kernel_rfl) rfl (by simp) ?_
  dsimp only[Tryz.f32]
  repeat' (first|(apply z04;(first|refine z0l ?_| (apply z0a;(first|refine z02 z2c rfl rfl ?_| refine z02 z18 rfl rfl ?_))|(apply z0d;(refine z02 z1a rfl rfl ?_))|(apply z0j;(first|refine z3u hA rfl (z29 (m:=(0,9)) rfl (z29 (m:=(0,4)) rfl (z29 (m:=(0,6)) rfl (z29 (m:=(0,7)) rfl (bkT hT))))) (by decide) ?_|refine z3u hO rfl (z29 (m:=(0,4)) rfl (z29 (m:=(0,6)) rfl (z29 (m:=(0,7)) rfl (bkT hT)))) (by decide) ?_))|(apply z0f;(refine z2d ?_))|(apply z0i;(refine z0b z1e ?_))|(apply z1c;(refine z0b z45 ?_))|refine z43 rfl rfl (by decide) ?_))|(apply z05;(first|refine z0k ?_|apply z09))|(apply z06;(first|apply z07|apply z00|apply z08|apply z01|apply z2z|apply z03|refine z0h (fun _=>?_) (fun _=>?_)))|(apply z2v;(first|(apply z0u;(refine z0w z18 rfl rfl ?_))|(apply z0q;(refine z0w z1a rfl rfl ?_)))))
  all_goals try (exfalso;omega)
  all_goals first
   | (rw[zAy (by assumption)];exact z0c Tryz.func32 _ z1j ⟨by cases r <;> cases r' <;> rfl,rfl⟩)
   | (rw[zAx (by assumption)];exact z0c Tryz.func32 _ z1j ⟨rfl,rfl⟩)
abbrev zxh (x:Int):List D:=[z3c x]
theorem zp1 (l:List Int) (hl:l≠[]) (hlen:l.length≤1000000):z0m Tryz.prog 38 [.d (ints l)] (.d (ints l)):=by
 refine z10 fun H=>?_
 refine z0g Tryz.func38 (by kernel_rfl) rfl (by simp) ?_
 dsimp only[Tryz.f38]
 repeat' (first|(apply z04;(first|refine z0l ?_| (apply z0x;(refine zi8 (q:=([]:List Int)) (r:=l) (g:=zxh) rfl rfl rfl rfl rfl (fun _=>rfl) rfl rfl (by decide) (by simp;omega) ?_))|(apply z3t;(refine ziu rfl rfl rfl rfl rfl rfl rfl rfl rfl (by decide) ?_))|refine z02 (ztm rfl (by intro h;exact hl (List.map_eq_nil_iff.1 h))) rfl rfl ?_))|(apply z05;(first|refine z0k ?_|apply z09))|(apply z06;(first|apply z07|apply z00|refine z1f ?_| apply z08)))
 refine z19 7 rfl ?_
 exact z0c Tryz.func38 _ z1j ⟨rfl,rfl⟩
theorem zkb (m:Mat) (hl:m.ls.length≤1000):z0m Tryz.prog 37 [.d (.agg m.cs),.d (.agg m.cs)] (I .i64 0):=by
 obtain⟨b,e,ls⟩:=m
 simp only at hl
 rw[show (⟨b,e,ls⟩:Mat).cs=[z3c b,z3c e,ints ls] from rfl]
 refine z10 fun H=>?_
 refine z0g Tryz.func37 (by kernel_rfl) rfl (by simp) ?_
 dsimp only[Tryz.f37]
 repeat' (first|(apply z04;(first|refine z0l ?_| (apply z0a;(refine z02 z18 rfl rfl ?_))|(apply z0d;(refine z02 z1a rfl rfl ?_))|(apply z0x;(refine zi8 (q:=[b,e]) (r:=ls) (g:=zxh) rfl rfl rfl rfl rfl (fun _=>rfl) rfl rfl (by decide) (by simp;omega) ?_))|(apply z1c;(refine z0b z1q ?_))|(apply z3t;(refine ziu (ys:=[b,e].map zxh) rfl rfl rfl rfl rfl rfl rfl rfl rfl (by decide) ?_))))|(apply z05;(first|refine z0k ?_|apply z09))|(apply z06;(first|apply z07|apply z00|apply z01)))
 refine z19 15 rfl ?_
 refine z19 23 rfl ?_
 obtain⟨l,hL⟩:∃ l,[b,e]++ls=l:=⟨_,rfl⟩
 have hll:l.length≤1002:=by rw[← hL];simp;omega
 rw[hL]
 refine z0t ?_
 refine z0e (z1v (fun q:Nat=>⟨64,[(5,.d (ints l)),(6,.d (ints l)),(7,I .i64 (q:Nat))],[],H⟩) (fun q=>q≤l.length) (fun q=>l.length-q) ?_ 0 (zAf _)) rfl rfl
 intro q hq ih
 by_cases hlt:q<l.length
 · obtain⟨y,hy⟩:∃ x,l[q]? =some x:=⟨_,zA0 hlt⟩
   repeat' (first|(apply z04;(first|refine z0l ?_| (apply z0z;(refine z02 (z14 z1p) rfl rfl ?_))|(apply z0x;(refine z02 (z0y rfl) rfl rfl ?_))))|(apply z05;(first|refine z0k ?_|apply z09|refine z1m ?_| refine z1t (fun _=>?_) (fun _=>?_)))|(apply z06;(first|apply z07|apply z00|refine z1f ?_| apply z08|apply z01|apply z2z|apply z03|refine z0h (fun _=>?_) (fun _=>?_)| refine z3o rfl (fun _=>?_) (fun _=>?_)|refine z0o ?_))|(apply z2v;(first|(apply z1l;refine z2n mix ?_)|refine z3h ?_| (apply z0u;(refine z0w z2p rfl rfl ?_))|(apply z1n;(refine z0w (z1o rfl (idx hy)) rfl rfl ?_)))))
   all_goals exact zD56
 · repeat' (first|(apply z04;(first|refine z0l ?_| (apply z0x;(refine z02 (z0y rfl) rfl rfl ?_))))|(apply z05;(first|refine z0k ?_|apply z09|refine z1m ?_| refine z1t (fun _=>?_) (fun _=>?_)))|(apply z06;(first|apply z07|apply z00|refine z1f ?_| apply z08|apply z01|apply z2z|refine z0h (fun _=>?_) (fun _=>?_)| refine z3o rfl (fun _=>?_) (fun _=>?_)|refine z0o ?_))|(apply z2v;(refine z3h ?_)))
   all_goals try (exfalso;omega)
   all_goals exact z0c Tryz.func37 _ z1j ⟨rfl,rfl⟩
theorem zt9 (l:List Mat) (hl:l.length≤1000000) (hm:∀ m∈l,m.ls.length≤1000):z0m Tryz.prog 18 [.d (.slice (l.map Mat.cs)),.d (.slice (l.map Mat.cs))] (B true):=by
 refine z10 fun H=>?_
 refine z0g Tryz.func18 (by kernel_rfl) rfl (by simp) ?_
 dsimp only[Tryz.f18]
 repeat' (first|(apply z04;(first|refine z0l ?_| (apply z0x;(refine z02 (z0y rfl) rfl rfl ?_))))|(apply z05;(first|refine z0k ?_|apply z09))|(apply z06;(first|apply z07|apply z00|apply z08|apply z01|refine z3o rfl (fun _=>?_) (fun _=>?_))))
 all_goals try (exfalso;omega)
 refine z0t ?_
 refine z0e (z1v (fun q:Nat=>⟨27,[(0,.d (.slice (l.map Mat.cs))),(1,.d (.slice (l.map Mat.cs))),(12,I .i64 l.length),(13,I .i64 (q:Nat))],[],H⟩) (fun q=>q≤l.length) (fun q=>l.length-q) ?_ 0 (zAf _)) rfl rfl
 intro q hq ih
 by_cases hlt:q<l.length
 · obtain⟨y,hy⟩:∃ x,l[q]? =some x:=⟨_,zA0 hlt⟩
   have hc:=zkb y (hm y (zA2 hy))
   repeat' (first|(apply z04;(first|refine z0l ?_| (apply z0z;(refine z02 (z14 z1p) rfl rfl ?_))))|(apply z05;(first|refine z0k ?_|apply z09))|(apply z06;(first|apply z07|apply z00|refine z1f ?_| apply z08|apply z01|apply z2z|apply z03|refine z0h (fun _=>?_) (fun _=>?_)| refine z0o ?_))|(apply z2v;(first|(apply z1l;refine z2n mix ?_)|refine z3h ?_| (apply z0u;(refine z0w z2j rfl rfl ?_))|(apply z1n;(refine z0w (z1o rfl (idx hy)) rfl rfl ?_))|(apply z22;(refine z5f hc ?_)))))
   all_goals exact zD56
 · repeat' (first|(apply z04;(refine z0l ?_))|(apply z05;(first|refine z0k ?_|apply z09))|(apply z06;(first|apply z07|apply z00|apply z08|apply z01|apply z2z|refine z0h (fun _=>?_) (fun _=>?_)| refine z0o ?_))|(apply z2v;(refine z3h ?_)))
   all_goals try (exfalso;omega)
   all_goals exact z0c Tryz.func18 _ z1j ⟨rfl,rfl⟩
def z5x (c:z0v) (x:Cn) (m:Mat):Bool:=z42 c (m.ls.getD 0 0) (m.ls.getD 1 0) x
theorem zoy (τ:Tab) {c:z0v} (hw:Wf c) (hc:c.nodes.length≤1000000) (hr:c.regions.length≤1000000) (hat:c.attrs=z6q) (hvs:∀ t a,(z6o c t a).size≤1000000) (x:Cn) (h:zas z2r x) (hx:x.high≤5)
 (ms:List Mat) (hms:∀ m∈ms,zlp c m) (hl:ms.length≤1000) (e0:Nat):z1r Tryz.prog 19 [c.d,x.d,.d (strs z2r),.d (.slice (ms.map Mat.cs))] (z6t τ e0) [] (.d (.slice ((ms.filter (z5x c x)).map Mat.cs))):=by
 have htok:=hw.tok
 have hal:c.attrs.length≤1000000:=by rw[hat];decide
 have hs:=zja x h hx
 have hk:=zio τ c hat x h (e0+1)
 refine z2h fun H hH=>?_
 have hT:HT τ e0 H:=HT.of (bs:=[]) hH
 refine z0g Tryz.func19 (by kernel_rfl) rfl (by simp) ?_
 dsimp only[Tryz.f19]
 repeat' (first|(apply z04;(first|refine z5z (d:=9) rfl rfl rfl (by decide) ?_|refine z0l ?_| (apply z0a;(refine z02 z2c rfl rfl ?_))|(apply z0x;(refine z02 (z0y rfl) rfl rfl ?_))|(apply z0j;(first|refine z2s hs ?_| refine z3u hk rfl (bkT hT) (by decide) ?_))|(apply z1c;(refine z0b z1q ?_))))|(apply z05;(first|refine z0k ?_|apply z09))|(apply z06;(first|apply z07|apply z00|refine z1f ?_| apply z08|apply z01)))
 all_goals try (exfalso;first|omega|contradiction)
 refine z0t ?_
 refine z0e (z1v (fun q:Nat=>⟨51,[(2,.d (strs z2r)),(4,.ptr (0,4) 0),(5,.ptr (0,5) 0),(9,.ref (0,9)),(21,.d (.slice (ms.map Mat.cs))),(22,I .i64 ms.length),(23,I .i64 (q:Nat))],[(9,.row 42 3 (((ms.take q).filter (z5x c x)).map Mat.cs)),(5,.box (x.cs.map .d)),(4,.box (c.cs.map .d))],H⟩) (fun q=>q≤ms.length) (fun q=>ms.length-q) ?_ 0 (zAf _)) rfl rfl
 intro q hq ih
 have hfl:((ms.take q).filter (z5x c x)).length≤1000:=by
  have:=List.length_filter_le (z5x c x) (ms.take q)
  rw[zAm] at this;omega
 by_cases hlt:q<ms.length
 · obtain⟨y,hy⟩:∃ x,ms[q]? =some x:=⟨_,zA0 hlt⟩
   obtain⟨q1,q2,q3,i,j,rfl',hi,hj⟩:=hms y (zA2 hy)
   obtain⟨mb,me,ls⟩:=y
   simp only at q1 q2 q3 rfl'
   subst rfl'
   have hh:=zb2 τ hw mb me hi hj hc hr hal hvs x h (e0+1)
   have hf:=zwl c mb me [i,j] (by omega) rfl (by intro t ht3;simp only[zAc,List.not_mem_nil,or_false] at ht3;rcases ht3 with rfl|rfl <;> assumption)
   have hcl:=zp1 [i,j] (by simp) (by simp)
   have hstep:(ms.take (q+1)).filter (z5x c x)=(ms.take q).filter (z5x c x)++if z42 c i j x then [⟨mb,me,[i,j]⟩] else []:=by
    rw[List.take_add_one,hy,List.filter_append]
    simp[List.filter_cons,z5x]
   generalize z42 c i j x=r at hh hstep
   cases r
   · repeat' (first|(apply z04;(first|refine z0l ?_| (apply z0a;(first|refine z02 z2c rfl rfl ?_| refine z02 z2j rfl rfl ?_| refine z02 z2a rfl rfl ?_))|(apply z0n;(refine z02 (z1o rfl (idx hy)) rfl rfl ?_))|(apply z0z;(refine z02 (z14 z1p) rfl rfl ?_))|(apply z0j;(first|refine z2s hf ?_| refine z3u hh rfl (bkT hT) (by decide) ?_))|(apply z0f;(refine z2d ?_))|(apply z0i;(refine z0b z1e ?_))))|(apply z05;(first|refine z0k ?_|apply z09))|(apply z06;(first|apply z07|apply z00|refine z1f ?_| apply z08|apply z01|apply z03|refine z0h (fun _=>?_) (fun _=>?_)| refine z0o ?_)))
     all_goals try (exfalso;first|omega|contradiction)
     refine z0e (ih (q+1) (by omega) (by omega)) rfl ?_
     rw[hstep,zAx (by simp),List.append_nil];rfl
   · repeat' (first|(apply z04;(first|refine z0l ?_| (apply z0a;(first|refine z02 z2c rfl rfl ?_| refine z02 z2j rfl rfl ?_| refine z02 z2a rfl rfl ?_))|(apply z0n;(refine z02 (z1o rfl (idx hy)) rfl rfl ?_))|(apply z0z;(refine z02 (z14 z1p) rfl rfl ?_))|(apply z0j;(first|refine z2s hf ?_| refine z3u hh rfl (bkT hT) (by decide) ?_))|(apply z0f;(refine z2d ?_))|(apply z0i;(refine z0b z1e ?_))))|(apply z05;(first|refine z0k ?_|apply z09))|(apply z06;(first|apply z07|apply z00|refine z1b rfl ?_|apply z08|apply z01|apply z2z|apply z03|refine z0h (fun _=>?_) (fun _=>?_)| refine z0o ?_))|(apply z2v;(first|(apply z1l;refine z2n mix ?_)|refine z3h ?_| (apply z0u;(refine z0w z18 rfl rfl ?_))|(apply z0q;(refine z0w z1a rfl rfl ?_))|(apply z3n;(refine z9k (by first|exact rfl|exact⟨_,rfl,rfl,rfl⟩) rfl rfl (⟨mb,me,[i,j]⟩:Mat) rfl rfl rfl rfl rfl rfl rfl (by decide) (by omega) ?_))|(apply z22;(refine z5f hcl ?_))|(apply z89;(refine zal (by first|exact rfl|exact⟨_,rfl,rfl,rfl⟩) rfl rfl rfl rfl rfl rfl rfl (by decide) ?_))|(apply z5l;(refine z61 rfl ?_)))))
     all_goals try (exfalso;first|omega|contradiction)
     refine z4x 48 9 rfl rfl ?_
     refine z0e (ih (q+1) (by omega) (by omega)) rfl ?_
     rw[hstep,zAy rfl];rfl
 · obtain rfl:q=ms.length:=by omega
   rw[List.take_length]
   refine z19 9 rfl ?_
   repeat' (first|(apply z04;(refine z0l ?_))|(apply z05;(first|refine z0k ?_|apply z09))|(apply z06;(first|apply z07|apply z00|apply z08|apply z01|refine z0h (fun _=>?_) (fun _=>?_)| refine z0o ?_)))
   all_goals try (exfalso;omega)
   all_goals exact z0c Tryz.func19 _ z1j ⟨rfl,rfl⟩
attribute [local irreducible] z47 z1u
theorem Made.vals {s:Nat} {c:z0v} (h:Made s c) (t a:Int):(z6o c t a).size≤1000000:=by
 unfold z6o
 split
 · decide
 · split
   · decide
   · cases ht:c.tokens[t.toNat]? with
     | none=>show ByteArray.size ⟨#[]⟩≤1000000;decide
     | some vs =>
      simp only
      cases hv:vs[a.toNat]? with
      | none=>show ByteArray.size ⟨#[]⟩≤1000000;decide
      | some v =>
       have:=(h.tok vs (zA2 ht)).2 v (zA2 hv)
       simp only[Option.getD_some];omega
theorem zkm {α:Type} (p:α→Bool):∀ l:List α,(l.filter p).length+(l.filter fun x=>!p x).length=l.length
 | []=>rfl
 | x::r=>by
  have:=zkm p r
  cases h:p x <;> simp[List.filter_cons,h] <;> omega
theorem zqz {α:Type} (p q:α→Bool):∀ l:List α,(l.filter fun x=>p x||q x).length+(l.filter fun x=>p x&&q x).length=(l.filter p).length+(l.filter q).length
 | []=>rfl
 | x::r=>by
  have:=zqz p q r
  cases h:p x <;> cases h':q x <;> simp[List.filter_cons,h,h'] <;> omega
abbrev zz9 (g:Cn):PV:=.d (.agg (gcs 11 eS eS eS eS eS false 0 0 [] [g.cs]))
abbrev zyu (o:Int) (g h:Cn):PV:=.d (.agg (gcs o eS eS eS eS eS false 0 0 [] [g.cs,h.cs]))
abbrev mls (l:List Mat):PV:=.d (.slice (l.map Mat.cs))
theorem zz4 (τ:Tab) {c:z0v} (hw:Wf c) (hc:c.nodes.length≤1000000) (hr:c.regions.length≤1000000) (hat:c.attrs=z6q) (hvs:∀ t a,(z6o c t a).size≤1000000) (g h:Cn) (g1:zas z2r g) (h1:zas z2r h) (gx:g.high≤4) (hx:h.high≤4)
 (ms:List Mat) (hms:∀ m∈ms,zlp c m) (hl:ms.length≤1000) (e0:Nat):∃ A B' N AN OR:List Mat,
 z1r Tryz.prog 19 [c.d,g.d,.d (strs z2r),mls ms] (z6t τ e0) [] (mls A)∧z1r Tryz.prog 19 [c.d,h.d,.d (strs z2r),mls ms] (z6t τ e0) [] (mls B') ∧
 z1r Tryz.prog 19 [c.d,zz9 g,.d (strs z2r),mls ms] (z6t τ e0) [] (mls N)∧z1r Tryz.prog 19 [c.d,zyu 12 g h,.d (strs z2r),mls ms] (z6t τ e0) [] (mls AN) ∧
 z1r Tryz.prog 19 [c.d,zyu 13 g h,.d (strs z2r),mls ms] (z6t τ e0) [] (mls OR)∧z1r Tryz.prog 19 [c.d,h.d,.d (strs z2r),mls A] (z6t τ e0) [] (mls AN) ∧
 A.length+N.length=ms.length∧OR.length+AN.length=A.length+B'.length∧(A.length≤1000∧B'.length≤1000∧AN.length≤1000∧OR.length≤1000)∧z0m Tryz.prog 18 [mls AN,mls AN] (B true):=by
 have F:=fun x hx1 hx2 l hl1 hl2=>zoy τ hw hc hr hat hvs x hx1 hx2 l hl1 hl2 e0
 have hfl:∀ p:Mat→Bool,(ms.filter p).length≤1000:=fun p=>Nat.le_trans (List.length_filter_le p ms) hl
 have hA:∀ m∈ms.filter (z5x c g),zlp c m:=fun m hm=>hms m (List.mem_filter.1 hm).1
 have hAN:(ms.filter (z5x c g)).filter (z5x c h)=ms.filter (z5x c (.bin 12 g h)):=by
  rw[List.filter_filter]
  congr 1;funext m;exact Bool.and_comm _ _
 have hFAB:=F h h1 (by omega) _ hA (hfl _)
 rw[hAN] at hFAB
 refine⟨_,_,_,_,_,F g g1 (by omega) ms hms hl,F h h1 (by omega) ms hms hl,F (.not g) g1 (by simp only[Cn.high];omega) ms hms hl,F (.bin 12 g h) ⟨.inl rfl,g1,h1⟩ (by simp only[Cn.high];omega) ms hms hl,F (.bin 13 g h) ⟨.inr rfl,g1,h1⟩ (by simp only[Cn.high];omega) ms hms hl,hFAB,zkm (z5x c g) ms,zqz (z5x c g) (z5x c h) ms,⟨hfl _,hfl _,hfl _,hfl _⟩,zt9 _ (by have:=hfl (z5x c (.bin 12 g h));omega) fun m hm=>?_⟩
 obtain⟨-,-,-,i,j,e,-⟩:=hms m (List.mem_filter.1 hm).1
 rw[e];simp
theorem zvb (τ:Tab) (l m:List Int) (hl:l.length≤9223372036854775807) (hm:m.length≤9223372036854775807):z1r Tryz.prog 7 [.d (ints l),.d (ints m)] (z6t τ 0) [] (B true):=by
 refine z2h fun H hH=>?_
 have hT:HT τ 0 H:=HT.of (bs:=[]) hH
 refine z0g Tryz.func7 (by kernel_rfl) rfl (by simp) ?_
 dsimp only[Tryz.f7]
 have hl2:(l.take 120).length≤120:=by simp;omega
 have hm2:(m.take 120).length≤120:=by simp;omega
 repeat' (first|(apply z04;(first|refine z0l ?_| (apply z0a;(refine z02 z2a rfl rfl ?_))|(apply z0j;(first|(refine z5c (zj5 _ 0 6 hl2 (by decide) (by decide)) rfl rfl (by decide) ?_;rintro⟨c,k1⟩ ⟨⟨s,hs,hc⟩,hk1⟩;simp only at hc hk1 ⊢;have hw:=hc.wf (by omega);have ht:=hw.tok;have ht0:=hw.tok0;have htx:=hc.ntexts;have htx0:=hc.text0;have hnn:=hc.nnodes;have hnr:=hc.nregs)|refine z2s ze0 ?_| (refine z5c (z7h _ z2r hm2 (by decide) 1 0 (by decide) (by decide)) rfl rfl (by decide) ?_;rintro⟨g,k2⟩ ⟨g1,g2,g3⟩;simp only at g1 g2 g3 ⊢)|(refine z5c (z7h _ z2r hm2 (by decide) 1 k2 (by decide) g3) rfl rfl (by decide) ?_;rintro⟨h,k3⟩ ⟨h1,h2,h3⟩;simp only at h1 h2 h3 ⊢)|(refine z5c (zf7 _ k1 c 8 hl2 (by omega) (by decide) (by omega) (by omega) hc.span) rfl rfl (by decide) ?_;rintro⟨ms,k4⟩ ⟨m1,m2,m3⟩;simp only at m1 m2 m3 ⊢;obtain⟨A,B',N,AN,OR,FA,FB,FN,FAN,FOR,FAB,L1,L2,L3,LA⟩:=zz4 τ hw (by omega) (by omega) hc.attrs hc.vals g h g1 h1 (by omega) (by omega) ms m1 (by omega) (0+1))))|(apply z0f;(refine z2d ?_))|(apply z0i;(refine z0b z1e ?_))|(refine zox (d:=17) rfl hl (by decide) rfl ?_;refine zfa 17 500 rfl rfl ?_)|(refine zox (d:=19) rfl hm (by decide) rfl ?_;refine zfa 19 501 rfl rfl ?_)))|(apply z05;(first|refine z0k ?_|apply z09))|(apply z06;(first|apply z07|apply z00|apply z2z))|(apply z2v;(first|(apply z1l;refine z2n mix ?_)|refine z6r rfl rfl (by decide) ?_|refine z3h ?_| (apply z0u;(refine z0w z2a rfl rfl ?_))|(apply z3y;(first|refine z0w (z14 z1p) rfl rfl ?_| refine z0w (z2q z1p) rfl rfl ?_))|(apply z3n;(refine z0w (z0y rfl) rfl rfl ?_))|(apply z22;(first|refine z5f ze0 ?_| refine zd6 FA (by first|exact rfl|exact⟨_,rfl,rfl,rfl⟩) rfl (bkT hT) (by decide) ?_|refine zd6 FB (by first|exact rfl|exact⟨_,rfl,rfl,rfl⟩) rfl (bkT hT) (by decide) ?_|refine zd6 FN (by first|exact rfl|exact⟨_,rfl,rfl,rfl⟩) rfl (bkT hT) (by decide) ?_|refine zd6 FAN (by first|exact rfl|exact⟨_,rfl,rfl,rfl⟩) rfl (bkT hT) (by decide) ?_|refine zd6 FOR (by first|exact rfl|exact⟨_,rfl,rfl,rfl⟩) rfl (bkT hT) (by decide) ?_|refine zd6 FAB (by first|exact rfl|exact⟨_,rfl,rfl,rfl⟩) rfl (bkT hT) (by decide) ?_|refine z5f LA ?_| refine z5f zc8 ?_))|(apply z89;(refine zal (by first|exact rfl|exact⟨_,rfl,rfl,rfl⟩) rfl rfl rfl rfl rfl rfl rfl (by decide) ?_))|(apply z5l;(first|refine z61 (ys:=[g.cs,h.cs]) rfl ?_| refine z61 (ys:=[g.cs]) rfl ?_))|(refine z4b rfl rfl (fun hg=>?_) (fun hg=>?_) <;> simp only[hg] <;> (try simp only[zA3,zA5,zA6,zA8] at hg)))))
 all_goals try (exfalso;first|omega|contradiction)
 all_goals first
  | exact z0c Tryz.func7 _ z1j ⟨rfl,rfl⟩
end Go.Proofs.YtonhfccmeammbaaGreatDoor
