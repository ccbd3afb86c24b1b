/- A part. -/
import Derived.Test.YtonhfccmeammbaaGreatDoorVTI
import Derived.Test.YtonhfccmeammbaaGreatDoorV2
set_option linter.all false
open Go.Proofs.Tryz
set_option maxRecDepth 100000
namespace Go.Proofs.YtonhfccmeammbaaGreatDoor
open Go.Ab Go.Rx
set_option maxHeartbeats 20000000
set_option maxRecDepth 100000
attribute [local irreducible] Run Ops Op1 z1z Val Tr z0q z1v NF Rel z5c z5d
abbrev scQ(c:z10)(g:Lq)(a b:Int):List D:=c.cs++(Cn.leaf g).cs++[z2g a,z2g b]
def zon(g:Lq)(a b:Int)(r:Region):Bool:=decide (r.type=g.name)&&decide (r.b≤min a b)&&decide (max a b<r.e)
theorem zov(c:z10)(g:Lq)(a b:Int)(n:Region)(k sl:Nat):z1v prog 127 [.d (.agg n.cs),.ptr (k,sl) 0] [((k,sl),.box ((scQ c g a b).map .d))] [] (B (zon g a b n)):=by
 refine z2a fun H hH=>?_
 have hH0:=hH ((k,sl),.box ((scQ c g a b).map .d)) (by simp)
 refine z0g func127 (by kernel_rfl) rfl (by simp) ?_
 dsimp only[f127]
 repeat' first|(apply z05;first|refine z0n ?_| (apply z0a;first|refine z02 (z16 (b:=.box ((scQ c g a b).map .d))) rfl (bk1 hH0) ?_| refine z02 z16 rfl rfl ?_)|(apply z0c;refine z02 z0i rfl rfl ?_)|(apply z0s;first|refine z02 zcr rfl rfl ?_| refine z02 z84 rfl rfl ?_)|(apply z18;refine z0b z1m ?_))|(apply z06;first|refine z0m ?_|apply z09|refine z1g ?_| refine z1p (fun _=>?_) fun _=>?_)|(apply z07;first|apply z08|apply z00)
 all_goals exact z0e func127 _ z0p ⟨by unfold zon;first|(rw[zAi (p:=n.type=g.name) (by assumption),zAi (p:=n.b≤min a b) (by assumption)];rfl)|(rw[zAi (p:=n.type=g.name) (by assumption),zAo (p:=n.b≤min a b) (by assumption)];rfl)|(rw[zAo (p:=n.type=g.name) (by assumption)];rfl),rfl⟩
theorem zpw(c:z10)(g:Lq)(a b:Int)(hc:c.regions.length≤1000000):z0q prog 99 [.d (.agg (scQ c g a b))] (B (c.regions.any (zon g a b))):=by
 refine z0y fun H=>?_
 refine z0g func99 (by kernel_rfl) rfl (by simp) ?_
 dsimp only[f99]
 repeat' first|(apply z05;first|refine z0n ?_| (apply z0a;refine z02 z16 rfl rfl ?_)|(apply z0c;refine z02 z0i rfl rfl ?_)|(apply z0j;refine z4g (y0q (kk:=0) (zon g a b) c.regions hc fun k x _=>zov c g a b x k 1) rfl rfl (by decide) ?_)|(apply z18;refine z0b z1m ?_)|refine z4x rfl rfl (by decide) ?_)|(apply z06;first|refine z0m ?_|apply z09)|(apply z07;first|apply z08|apply z00)
 all_goals exact z0e func99 _ z0p ⟨rfl,rfl⟩
def zhp(g:Lq):Lf:=⟨g.op,g.a,g.b,g.name,g.mn,g.mx,g.args⟩
def zsr(g:Lq):Lp:=⟨g.op,g.a,g.b,g.name,g.arg,g.mn,g.mx⟩
def zhc(c:z10)(g:Lq)(a b:Int):Bool :=
 if g.op=5 then c.regions.any (zon g a b)else if g.op=3∨g.op=4 then zwi c (zsr g) a b else zk7 c (zhp g) a b
theorem znt{c:z10}(hw:Wf c)(g:Lq)(h:zho z2i g)(h3:3≤g.op∧g.op≤9){a b:Int}(ha:token c a=true)(hb:-1≤b∧b≤1000000)(ha2:a≤1000000)(hc:c.nodes.length≤1000000)(hr:c.regions.length≤1000000)(hat:c.attrs.length≤1000000):z0q prog 73 [.d (.agg (scQ c g a b))] (B (zhc c g a b)):=by
 obtain⟨op,ga,gb,name,arg,val,fold,mn,mx,args⟩:=g
 obtain⟨-,-,-,-,h5,h6,h7,h8,h9,-,-,-,h10⟩:=h
 simp only at h3 h5 h6 h7 h8 h9 h10
 have ht:=(z2p c a).1 ha
 have hop:(op=3∨op=4)∨op=5∨(op=6∨op=7∨op=8∨op=9):=by omega
 rcases hop with ho|rfl|ho
 ·obtain⟨rfl,rfl⟩:=h7 (by omega)
  obtain rfl:=h9 (by omega)
  have hok:y6d (zsr ⟨op,ga,gb,name,arg,eS,false,mn,mx,[]⟩):=⟨ho,fun e=>h8 (by simp only[zsr]at e;omega),fun e=>⟨h5 (by simp only[zsr]at e;omega),h6 (by simp only[zsr]at e;omega)⟩⟩
  have:=zoa c (zsr ⟨op,ga,gb,name,arg,eS,false,mn,mx,[]⟩) hok a b hat ⟨by omega,ha2⟩ hb
  rw[zhc,zAy (by simp only;omega),zAz ho]
  exact this
 ·obtain⟨rfl,rfl⟩:=h7 (by omega)
  have hrs:=zpw c ⟨5,ga,gb,name,arg,eS,false,mn,mx,args⟩ a b hr
  have hv:z7e[(5:Int).toNat]? =some [fnD 99]:=rfl
  refine z0y fun H=>?_
  refine z0g func73 (by kernel_rfl) rfl (by simp) ?_
  dsimp only[f73]
  repeat' first|(apply z05;first|refine zdl (ys:=z7e) rfl rfl rfl rfl rfl rfl rfl rfl (by decide) ?_|refine z0n ?_| (apply z18;refine z0b z1m ?_))|(apply z06;first|refine z0m ?_|apply z09)|(apply z07;first|apply z08|apply z00|apply z2o)|(apply z2m;first|(apply z1e;refine z2c mix ?_)|refine z2w ?_| (apply z0v;first|refine z0x z1r rfl rfl ?_| refine z0x z16 rfl rfl ?_| refine z0x z2f rfl rfl ?_)|(apply z0u;refine z0x z0i rfl rfl ?_)|(apply z1i;refine z0x (z1a rfl hv) rfl rfl ?_)|(apply z1s;refine zjv (by first|exact rfl|exact⟨_,rfl,rfl,rfl⟩) rfl hrs rfl (by decide) ?_))
  all_goals exact z0e func73 _ z0p ⟨rfl,rfl⟩
 ·obtain⟨rfl,rfl⟩:=h7 (by omega)
  obtain rfl:=h6 (by omega)
  have:=zj9 hw (zhp ⟨op,ga,gb,name,eS,eS,false,mn,mx,args⟩) (by simp only[zhp];omega) b ha hc ho
  rw[zhc,zAy (by simp only;omega),zAy (by simp only;omega)]
  exact this
def rxV(v:Str):Rx:=if v=xA then rA else if v=xB then rB else rD
theorem y17(τ:Tab)(v:Str)(hv:v∈zbm):z1v prog 90 [S v] (z98 τ 0) [] (.tup [.d (eX (rxV v)),I .i64 0,I .i64 0]):=by
 simp only[zbm,zAc,List.not_mem_nil,or_false]at hv
 rcases hv with rfl|rfl|rfl
 ·exact zwn τ
 ·exact zw4 τ
 ·exact zwu τ
theorem y4h(v:Str):fit (rxV v):=by
 unfold rxV
 split
 ·exact y5m
 ·split
  ·exact y5f
  ·exact y4o
def mtV(v w:Str)(fold:Bool):Bool:=if fold then mtS zgk (rxV v) w else mtS (fun c=>[c]) (rxV v) w
theorem y4w(τ:Tab)(v w:Str)(hv:v∈zbm)(hw:w.size≤1000000)(fold:Bool)(e:Nat):z1v prog 70 [S v,S w,B fold] (z98 τ e) [] (B (mtV v w fold)):=by
 have hx:=y17 τ v hv
 have hm1:=zuh (rxV v) (y4h v) w hw
 have hm2:=zv0 (rxV v) (y4h v) w hw
 refine z2a fun H hH=>?_
 have hT:HT τ e H:=HT.of (bs:=[]) hH
 obtain⟨b1,hb1⟩:∃b,mtS (fun c=>[c]) (rxV v) w=b:=⟨_,rfl⟩
 obtain⟨b2,hb2⟩:∃b,mtS zgk (rxV v) w=b:=⟨_,rfl⟩
 rw[mtV,hb1,hb2]
 rw[hb1]at hm1
 rw[hb2]at hm2
 clear hb1 hb2
 generalize rxV v=x at hx hm1 hm2
 refine z0g func70 (by kernel_rfl) rfl (by simp) ?_
 dsimp only[f70]
 refine z57 700 e 700 hT.a rfl rfl ?_
 refine z57 701 e 701 (raw:=.glob 1 τ.o1) ((z92 H (e,700) (e,701) .gone (by simp)).trans hT.b) rfl rfl ?_
 refine z0d (tm':=[(0,S v),(1,S w),(2,B fold),(100701,.al (0,701) (e+1,701)),(100700,.al (0,700) (e+1,700))]) (hp':=[(701,.glob 1 τ.o1),(700,.glob 0 τ.o0)]) ?_ rfl rfl
 obtain⟨op,mn,mx,rs,ks⟩:=x
 rw[show Drx (.mk op mn mx rs ks)=.agg (rx5 op mn mx rs ks)from z7u _ _ _ _ _]at hm1 hm2
 rw[z7u]at hx
 cases fold
 all_goals repeat' first|(apply z05;first|refine z0n ?_| (apply z0a;refine z02 z1y rfl rfl ?_)|(apply z0j;first|refine z4g hx rfl (z2j (m:=(0,700)) rfl (z2j (m:=(0,701)) rfl z8m)) (by decide) ?_|refine z29 hm1 ?_| refine z29 hm2 ?_)|(apply z0f;refine z25 ?_)|(apply z0l;refine z0b z2e ?_))|(apply z06;first|refine z0m ?_|apply z09)|(apply z07;first|apply z08|apply z00|refine z1j ?_| refine z15 ?_| apply z04)
 all_goals try (exfalso;first|omega|contradiction)
 all_goals
  refine z3s 701 e 701 (raw:=.glob 1 τ.o1) rfl rfl (by simp[upd]) rfl rfl ?_
  refine z3s 700 e 700 (raw:=.glob 0 τ.o0) rfl rfl (by simp[upd]) rfl rfl ?_
  exact z0e func70 _ z0p ⟨rfl,zlk hT⟩
attribute [local irreducible] zal
def qA:List Uq:=[(97,0,1,true)]
def qB:List Uq:=[(98,0,1,true),(124,1,1,true),(99,2,1,true)]
def qD:List Uq:=[(46,0,1,true)]
theorem zy6:z0q prog 76 [S xA] (.tup [.d (eX rA),I .i64 0,I .i64 0]):=by
 have hf:qA.length≤1000:=by decide
 have h1:=zlp (X:=17) (s:=xA) hf 0 1 _ (zoq (X:=17) (s:=xA) hf 0 97 (by decide) rfl (by decide)) (by decide) (-1) rfl (by decide)
 have h2:=zmh (X:=17) (s:=xA) hf 0 1 _ (by decide) h1 (by decide) (by decide) 97 (-1) rfl (by decide) rfl (.inl rfl)
 have h3:=zw1 (X:=17) (s:=xA) hf 0 1 _ (by decide) h2 (by decide) rfl
 exact zk0 xA qA (by rfl) (by decide) hf rA y5m rfl h3 (by decide)
theorem zyg:z0q prog 76 [S xD] (.tup [.d (eX rD),I .i64 0,I .i64 0]):=by
 have hf:qD.length≤1000:=by decide
 have h1:=zlp (X:=17) (s:=xD) hf 0 1 _ (y3f (X:=17) (s:=xD) hf 0 (by decide) rfl) (by decide) (-1) rfl (by decide)
 have h2:=zmh (X:=17) (s:=xD) hf 0 1 _ (by decide) h1 (by decide) (by decide) 46 (-1) rfl (by decide) rfl (.inl rfl)
 have h3:=zw1 (X:=17) (s:=xD) hf 0 1 _ (by decide) h2 (by decide) rfl
 exact zk0 xD qD (by rfl) (by decide) hf rD y4o rfl h3 (by decide)
theorem y0m:z0q prog 76 [S xB] (.tup [.d (eX rB),I .i64 0,I .i64 0]):=by
 have hf:qB.length≤1000:=by decide
 have h1:=zlp (X:=17) (s:=xB) hf 0 1 _ (zoq (X:=17) (s:=xB) hf 0 98 (by decide) rfl (by decide)) (by decide) 124 rfl (by decide)
 have h1':=zlp (X:=17) (s:=xB) hf 2 3 _ (zoq (X:=17) (s:=xB) hf 2 99 (by decide) rfl (by decide)) (by decide) (-1) rfl (by decide)
 have h2:=zmh (X:=17) (s:=xB) hf 0 1 _ (by decide) h1 (by decide) (by decide) 98 124 rfl (by decide) rfl (.inr rfl)
 have h2':=zmh (X:=17) (s:=xB) hf 2 3 _ (by decide) h1' (by decide) (by decide) 99 (-1) rfl (by decide) rfl (.inl rfl)
 have h3:=y1c (X:=17) (s:=xB) hf 0 1 3 _ _ (by decide) (by decide) h2 h2' (by decide) (by decide) rfl rfl
 exact zk0 xB qB (by rfl) (by decide) hf rB y5f rfl h3 (by decide)
theorem zql(v:Str)(hv:v∈zbm):z0q prog 76 [S v] (.tup [.d (eX (rxV v)),I .i64 0,I .i64 0]):=by
 simp only[zbm,zAc,List.not_mem_nil,or_false]at hv
 rcases hv with rfl|rfl|rfl
 ·exact zy6
 ·exact y0m
 ·exact zyg
end Go.Proofs.YtonhfccmeammbaaGreatDoor
namespace Go.Proofs.YtonhfccmeammbaaGreatDoor
open Go.Ab Go.Rx
set_option maxHeartbeats 20000000
set_option maxRecDepth 100000
attribute [local irreducible] Run Ops Op1 z1z Val Tr z0q z1v NF Rel z5c z5d
def zf2(c:z10)(g:Lq)(i j:Int):Bool :=
 if i<0 then false else if g.op=1 then true else if g.op=2 then mtV g.val (z5p c i (z4w c g.name)) g.fold
 else if g.op=10 then decide (g.mn≤((up c i).length:Int))&&decide (((up c i).length:Int)≤g.mx)else if j<0 then false else zhc c g i j
theorem zt2(τ:Tab){c:z10}(hw:Wf c)(g:Lq)(h:zho z2i g)(b e:Int)(ls:List Int){i j:Int}(hx:z0q prog 69 [.d (strs z2i),z9m b e ls,S g.a] (I .i64 i))(hy:¬(g.op=1∨g.op=2∨g.op=10)→z0q prog 69 [.d (strs z2i),z9m b e ls,S g.b] (I .i64 j))
 (hi:-1≤i∧i<c.tokens.length) (hj:-1≤j∧j<c.tokens.length) (hc:c.nodes.length≤1000000) (hr:c.regions.length≤1000000) (hat:c.attrs.length≤1000000) (hvs:∀t a,(z5p c t a).size≤1000000) (e0:Nat) :
 z1v prog 32 [c.d,(Cn.leaf g).d,.d (strs z2i),z9m b e ls] (z98 τ e0) [] (B (zf2 c g i j)):=by
 have htok:=hw.tok
 have hul:=z9w c i
 have hop:=h.op
 rw[show(Cn.leaf g).d=.d (.agg (gcs g.op g.a g.b g.name g.arg g.val g.fold g.mn g.mx g.args []))from rfl]
 refine z2a fun H hH=>?_
 have hT:HT τ e0 H:=HT.of (bs:=[]) hH
 refine z0g func32 (by kernel_rfl) rfl (by simp) ?_
 dsimp only[f32]
 by_cases hi0:i<0
 ·rw[zf2,zAz hi0]
  all_goals exact zD17
 ·have ti:token c i=true:=(z2p c i).2 ⟨by omega,hi.2⟩
  rw[zf2,zAy hi0]
  by_cases h1:g.op=1
  ·rw[zAz h1]
   all_goals exact zD17
  ·rw[zAy h1]
   by_cases h2:g.op=2
   ·rw[zAz h2]
    have hm:=y4w τ g.val (z5p c i (z4w c g.name)) (h.n2 h2).2 (hvs _ _) g.fold (e0+1)
    have hgv:=zhl c i g.name hat
    repeat' first|(apply z05;first|refine z0n ?_| (apply z0a;first|refine z02 z1r rfl rfl ?_| refine z02 z16 rfl rfl ?_)|(apply z0c;refine z02 z0i rfl rfl ?_)|(apply z0j;refine z29 hx ?_)|(apply z0f;refine z25 ?_)|(apply z0l;refine z0b z2e ?_)|(apply z18;refine z0b z43 ?_)|refine z4x rfl rfl (by decide) ?_)|(apply z06;first|refine z0m ?_|apply z09)|(apply z07;first|apply z08|apply z00|apply z04|apply z01|apply z2o|apply z03|refine z0h (fun _=>?_) fun _=>?_)|(apply z2m;first|(apply z1e;refine z2c mix ?_)|refine z2w ?_| (apply z0v;first|refine z0x z1r rfl rfl ?_| refine z0x z16 rfl rfl ?_)|(apply z0u;refine z0x z0i rfl rfl ?_)|(apply z1s;first|refine z5b hgv ?_| refine zjd hm (by first|exact rfl|exact⟨_,rfl,rfl,rfl⟩) rfl (bkT hT) (by decide) ?_))
    all_goals exact zD84
   ·rw[zAy h2]
    by_cases h10:g.op=10
    ·rw[zAz h10]
     repeat' first|(apply z05;first|refine z0n ?_| (apply z0a;first|refine z02 z1r rfl rfl ?_| refine z02 z16 rfl rfl ?_)|(apply z0c;refine z02 z0i rfl rfl ?_)|(apply z0s;refine z02 (z0w rfl) rfl rfl ?_)|(apply z0j;first|refine z29 hx ?_| refine z29 (zoi hw ti) ?_)|(apply z0f;refine z25 ?_)|(apply z0l;refine z0b z2e ?_)|(apply z18;refine z0b z43 ?_)|refine z4x rfl rfl (by decide) ?_)|(apply z06;first|refine z0m ?_|apply z09|refine z1g ?_| refine z1p (fun _=>?_) fun _=>?_)|(apply z07;first|apply z08|apply z00|apply z04|apply z01|apply z2o|apply z03|refine z0h (fun _=>?_) fun _=>?_)|(apply z2m;first|refine z2w ?_| (apply z0v;first|refine z0x z1r rfl rfl ?_| refine z0x z16 rfl rfl ?_)|(apply z0u;refine z0x z0i rfl rfl ?_))
     all_goals try omega
     all_goals
      refine z0e func32 _ z0p ⟨?_,rfl⟩
      exact zD77
    ·rw[zAy h10]
     have hy:=hy (by omega)
     by_cases hj0:j<0
     ·rw[zAz hj0]
      repeat' first|(apply z05;first|refine z0n ?_| (apply z0a;first|refine z02 z1r rfl rfl ?_| refine z02 z16 rfl rfl ?_)|(apply z0c;refine z02 z0i rfl rfl ?_)|(apply z0j;first|refine z29 hx ?_| refine z29 hy ?_)|(apply z0f;refine z25 ?_)|(apply z0l;refine z0b z2e ?_)|(apply z18;refine z0b z43 ?_)|(apply z1n;refine z2y ?_)|refine z4x rfl rfl (by decide) ?_)|(apply z06;first|refine z0m ?_|apply z09|refine z1g ?_| refine z1p (fun _=>?_) fun _=>?_)|(apply z07;first|apply z08|apply z00|apply z04|apply z01|apply z2o|apply z03|refine z0h (fun _=>?_) fun _=>?_)|(apply z2m;first|refine z2w ?_| (apply z0v;first|refine z0x z1r rfl rfl ?_| refine z0x z16 rfl rfl ?_)|(apply z0u;refine z0x z0i rfl rfl ?_))
      all_goals exact zD84
     ·rw[zAy hj0]
      have hrel:z0q prog 73 [.d (.agg (c.cs++gcs g.op g.a g.b g.name g.arg g.val g.fold g.mn g.mx g.args []++[z2g i,z2g j]))] (B (zhc c g i j)):=znt hw g h (by omega) (b:=j) ti (by omega) (by omega) hc hr hat
      repeat' first|(apply z05;first|refine z0n ?_| (apply z0a;first|refine z02 z1r rfl rfl ?_| refine z02 z16 rfl rfl ?_)|(apply z0c;refine z02 z0i rfl rfl ?_)|(apply z0j;first|refine z29 hx ?_| refine z29 hy ?_| refine z29 hrel ?_)|(apply z0f;refine z25 ?_)|(apply z0l;refine z0b z2e ?_)|(apply z18;refine z0b z43 ?_)|(apply z1n;refine z2y ?_)|refine z4x rfl rfl (by decide) ?_)|(apply z06;first|refine z0m ?_|apply z09|refine z1g ?_| refine z1p (fun _=>?_) fun _=>?_)|(apply z07;first|apply z08|apply z00|apply z04|apply z01|apply z2o|apply z03|refine z0h (fun _=>?_) fun _=>?_)|(apply z2m;first|refine z2w ?_| (apply z0v;first|refine z0x z1r rfl rfl ?_| refine z0x z16 rfl rfl ?_)|(apply z0u;refine z0x z0i rfl rfl ?_))
      all_goals exact zD84
def zjn(i j:Int)(s:Str):Int:=if s=sX then i else j
def z36(c:z10)(i j:Int):Cn→Bool
 | .leaf g=>zf2 c g (zjn i j g.a) (zjn i j g.b)
 | .not x=>!z36 c i j x
 | .bin o x y=>if o=12 then z36 c i j x&&z36 c i j y else z36 c i j x||z36 c i j y
theorem y6h(b e i j:Int)(s:Str)(hs:s∈z2i):z0q prog 69 [.d (strs z2i),z9m b e [i,j],S s] (I .i64 (zjn i j s)):=by
 simp only[z2i,zAc,List.not_mem_nil,or_false]at hs
 rcases hs with rfl|rfl
 ·exact zhx b e i j
 ·exact zlf b e i j
theorem zar{i j n:Int}(hi:-1≤i∧i<n)(hj:-1≤j∧j<n)(s:Str):-1≤zjn i j s∧zjn i j s<n:=by
 unfold zjn;split <;> assumption
abbrev hbx(d:Nat)(c:z10)(b e:Int)(ls:List Int):List (Nm × Blk):=[((d,4),.box (c.cs.map .d)),((d,6),.box [.d (strs z2i)]),((d,7),.box ([z2g b,z2g e,ints ls].map .d))]
theorem zyx(τ:Tab)(c:z10)(b e:Int)(ls:List Int)(k:Cn)(r:Bool)(ih:∀e0,z1v prog 32 [c.d,k.d,.d (strs z2i),z9m b e ls] (z98 τ e0) [] (B r))(d e0:Nat) :
 z1v prog 67 [.d (.agg k.cs),.ptr (d,4) 0,.ptr (d,6) 0,.ptr (d,7) 0] (hbx d c b e ls++z98 τ e0) [] (B r):=by
 have ih:=ih (e0+1)
 refine z2a fun H hH=>?_
 have hT:HT τ e0 H:=HT.of (bs:=hbx d c b e ls) hH
 have h4:=hH ((d,4),.box (c.cs.map .d)) (by simp)
 have h6:=hH ((d,6),.box [.d (strs z2i)]) (by simp)
 have h7:=hH ((d,7),.box ([z2g b,z2g e,ints ls].map .d)) (by simp)
 refine z0g func67 (by kernel_rfl) rfl (by simp) ?_
 dsimp only[f67]
 repeat' first|(apply z05;first|refine z0n ?_| (apply z0a;first|refine z02 (z1r (b:=.box (c.cs.map .d)) (cs:=c.cs)) rfl (bk1 h4) ?_| refine z02 (z16 (b:=.box [.d (strs z2i)])) rfl (bk1 h6) ?_| refine z02 (z1r (b:=.box ([z2g b,z2g e,ints ls].map .d)) (cs:=[z2g b,z2g e,ints ls])) rfl (bk1 h7) ?_| refine z02 z1r rfl rfl ?_)|(apply z0j;refine z4g ih rfl (bkT hT) (by decide) ?_)|(apply z18;refine z0b z1m ?_))|(apply z06;first|refine z0m ?_|apply z09)|(apply z07;first|apply z08|apply z00)
 all_goals first
  | exact z0e func67 _ z0p ⟨rfl,rfl⟩
abbrev y4a(d:Nat):List PV:=[.ptr (d,4) 0,.ptr (d,6) 0,.ptr (d,7) 0]
abbrev kfn(d:Nat):PV:=.fn (.func 67) [] (y4a d)
theorem y1p(τ:Tab)(c:z10)(b e:Int)(ls:List Int)(k:Cn)(r:Bool)(ih:∀e0,z1v prog 32 [c.d,k.d,.d (strs z2i),z9m b e ls] (z98 τ e0) [] (B r))(e0:Nat) :
 z1v prog 68 [.d (.agg k.cs),.ptr (2,9) 0] (((2,9),.box [kfn 0])::(hbx 2 c b e ls++z98 τ e0)) [] (B (!r)):=by
 have hk:=zyx τ c b e ls k r ih 3 (e0+1)
 refine z2a fun H hH=>?_
 have hT:HT τ e0 H:=HT.of (bs:=((2,9),.box [kfn 0])::hbx 2 c b e ls) hH
 have h9:=hH ((2,9),.box [kfn 0]) (by simp)
 have h4:=hH ((2,4),.box (c.cs.map .d)) (by simp)
 have h6:=hH ((2,6),.box [.d (strs z2i)]) (by simp)
 have h7:=hH ((2,7),.box ([z2g b,z2g e,ints ls].map .d)) (by simp)
 refine z0g func68 (by kernel_rfl) rfl (by simp) ?_
 dsimp only[f68]
 repeat' first|(apply z05;first|refine z0n ?_| (apply z0a;first|refine z02 (z16 (b:=.box [kfn 0]) (p:=kfn 3)) rfl (bk1 h9) ?_| refine z02 z1r rfl rfl ?_)|(apply z0j;refine zkx (first:=[]) (cap:=y4a 3) (ps:=[k.d]) (bs:=hbx 3 c b e ls++z98 τ (e0+1)) hk rfl rfl (z2j (m:=(3,4)) h4 (z2j (m:=(3,6)) h6 (z2j (m:=(3,7)) h7 (bkT hT)))) (by decide) ?_)|(apply z18;refine z0b z1m ?_))|(apply z06;first|refine z0m ?_|apply z09)|(apply z07;first|apply z08|apply z00)
 all_goals first
  | exact z0e func68 _ z0p ⟨rfl,rfl⟩
theorem zaq(τ:Tab){c:z10}(hw:Wf c)(b e:Int){i j:Int}(hi:-1≤i∧i<c.tokens.length)(hj:-1≤j∧j<c.tokens.length)(hc:c.nodes.length≤1000000)(hr:c.regions.length≤1000000)(hat:c.attrs.length≤1000000)(hvs:∀t a,(z5p c t a).size≤1000000) :
 ∀(x:Cn),zau z2i x→∀e0,z1v prog 32 [c.d,x.d,.d (strs z2i),z9m b e [i,j]] (z98 τ e0) [] (B (z36 c i j x))
 | .leaf g,h,e0=>zt2 τ hw g h b e [i,j] (y6h b e i j g.a h.la) (fun hn=>y6h b e i j g.b (h.lb hn)) (zar hi hj _) (zar hi hj _) hc hr hat hvs e0
 | .not y,h,e0=>by
  have ih:=zaq τ hw b e hi hj hc hr hat hvs y h
  have hk:=zyx τ c b e [i,j] y _ ih 0 (e0+1)
  have hlen:([y.cs]:List (List D)).length=1:=rfl
  rw[z36]
  generalize z36 c i j y=r at hk⊢
  rw[show(Cn.not y).d=.d (.agg (gcs 11 eS eS eS eS eS false 0 0 [] [y.cs]))from rfl]
  clear ih
  refine z2a fun H hH=>?_
  have hT:HT τ e0 H:=HT.of (bs:=[]) hH
  refine z0g func32 (by kernel_rfl) rfl (by simp) ?_
  dsimp only[f32]
  repeat' first|(apply z05;first|refine z0n ?_| (apply z0a;refine z02 z16 rfl rfl ?_)|(apply z0c;refine z02 z0i rfl rfl ?_)|(apply z0f;refine z25 ?_)|(apply z0l;refine z0b z2e ?_)|(apply z18;refine z0b z43 ?_)|refine z4x rfl rfl (by decide) ?_)|(apply z06;first|refine z0m ?_|apply z09)|(apply z07;first|apply z08|apply z00|refine z1j ?_| refine z15 ?_| apply z01|apply z2o)|(apply z2m;first|(apply z1e;refine z2c mix ?_)|refine z2w ?_| (apply z0v;first|refine z0x z16 rfl rfl ?_| refine z0x z1w rfl rfl ?_)|(apply z0u;refine z0x z0i rfl rfl ?_)|(apply z1i;refine z0x (z5h (u:=y.cs) rfl) rfl rfl ?_)|(apply z1s;refine y1b (first:=[]) (cap:=y4a 0) (ps:=[y.d]) (bs:=hbx 0 c b e [i,j]++z98 τ (e0+1)) hk (by first|exact rfl|exact⟨_,rfl,rfl,rfl⟩) rfl rfl (z2j (m:=(0,4)) rfl (z2j (m:=(0,6)) rfl (z2j (m:=(0,7)) rfl (bkT hT)))) (by decide) ?_))
  all_goals try omega
  all_goals first
   | exact z0e func32 _ z0p ⟨rfl,rfl⟩
 | .bin o y z,h,e0=>by
  have ih1:=zaq τ hw b e hi hj hc hr hat hvs y h.2.1
  have ih2:=zaq τ hw b e hi hj hc hr hat hvs z h.2.2
  have ho:=h.1
  rw[z36]
  have hkid:∀k∈[y,z],∀e0,z1v prog 32 [c.d,k.d,.d (strs z2i),z9m b e [i,j]] (z98 τ e0) [] (B (z36 c i j k)):=fun k hk=>by
   simp only[zAc,List.not_mem_nil,or_false]at hk
   rcases hk with rfl|rfl <;> assumption
  clear ih1 ih2
  have hA:=zgv (cf:=68) [.ptr (0,9) 0] (((0,9),.box [kfn 0])::(hbx 0 c b e [i,j]++z98 τ (e0+1))) (fun k=>!z36 c i j k) [y,z] (by simp) fun k hk=>y1p τ c b e [i,j] k _ (hkid k hk) (e0+3)
  have hO:=zgv (cf:=67) (y4a 0) (hbx 0 c b e [i,j]++z98 τ (e0+1)) (fun k=>z36 c i j k) [y,z] (by simp) fun k hk=>zyx τ c b e [i,j] k _ (hkid k hk) 2 (e0+3)
  clear hkid
  rw[show([y,z]:List Cn).any (fun k=>!z36 c i j k)=(!z36 c i j y||!z36 c i j z) by simp]at hA
  rw[show([y,z]:List Cn).any (fun k=>z36 c i j k)=(z36 c i j y||z36 c i j z) by simp]at hO
  generalize z36 c i j y=r at hA hO⊢
  generalize z36 c i j z=r' at hA hO⊢
  rw[show [y,z].map Cn.cs=[y.cs,z.cs]from rfl]at hA hO
  rw[show(Cn.bin o y z).d=.d (.agg (gcs o eS eS eS eS eS false 0 0 [] [y.cs,z.cs]))from rfl]
  refine z2a fun H hH=>?_
  have hT:HT τ e0 H:=HT.of (bs:=[]) hH
  refine z0g func32 (by kernel_rfl) rfl (by simp) ?_
  dsimp only[f32]
  repeat' first|(apply z05;first|refine z0n ?_| (apply z0a;first|refine z02 z1r rfl rfl ?_| refine z02 z16 rfl rfl ?_)|(apply z0c;refine z02 z0i rfl rfl ?_)|(apply z0j;first|refine z4g hA rfl (z2j (m:=(0,9)) rfl (z2j (m:=(0,4)) rfl (z2j (m:=(0,6)) rfl (z2j (m:=(0,7)) rfl (bkT hT))))) (by decide) ?_|refine z4g hO rfl (z2j (m:=(0,4)) rfl (z2j (m:=(0,6)) rfl (z2j (m:=(0,7)) rfl (bkT hT)))) (by decide) ?_)|(apply z0f;refine z25 ?_)|(apply z0l;refine z0b z2e ?_)|(apply z18;refine z0b z43 ?_)|refine z4x rfl rfl (by decide) ?_)|(apply z06;first|refine z0m ?_|apply z09)|(apply z07;first|apply z08|apply z00|apply z04|apply z01|apply z2o|apply z03|refine z0h (fun _=>?_) fun _=>?_)|(apply z2m;first|(apply z0v;refine z0x z16 rfl rfl ?_)|(apply z0u;refine z0x z0i rfl rfl ?_))
  all_goals try omega
  all_goals first
   | (rw[zAz (by assumption)];exact z0e func32 _ z0p ⟨by cases r <;> cases r' <;> rfl,rfl⟩)
   | (rw[zAy (by assumption)];exact z0e func32 _ z0p ⟨rfl,rfl⟩)
theorem zg4:∀(x:Cn) (d:Int),x.size≤60→0≤d→d+x.high≤60→z0q prog 74 [x.d,I .i64 d] (.tup [I .i64 x.size,I .i64 x.high])
 | .leaf g,d,h1,h2,h3=>by
  simp only[Cn.size,Cn.high]at h1 h2 h3⊢
  refine z0y fun H=>?_
  refine z0g func74 (by kernel_rfl) rfl (by simp) ?_
  dsimp only[f74]
  repeat' first|(apply z05;first|refine z0n ?_| (apply z0a;refine z02 z16 rfl rfl ?_)|(apply z0c;refine z02 z0i rfl rfl ?_)|(apply z0s;refine z02 (z4a rfl) rfl rfl ?_)|(apply z18;refine z0b z1m ?_))|(apply z06;first|refine z0m ?_|apply z09)|(apply z07;first|apply z08|apply z00|apply z04|apply z01|refine z0h (fun _=>?_) fun _=>?_)
  all_goals try omega
  refine z0r ?_
  refine z1u ?_
  repeat' first|(apply z05;first|refine z0n ?_| (apply z0t;refine z02 (z0z z1h) rfl rfl ?_))|(apply z06;first|refine z0m ?_|apply z09)|(apply z07;first|apply z08|apply z00|refine z15 ?_| refine z0o ?_)
  all_goals try omega
  all_goals exact z0e func74 _ z2s ⟨rfl,rfl⟩
 | .not y,d,h1,h2,h3=>by
  have ih:=zg4 y (d+1)
  have hp:=y.size_pos
  simp only[Cn.size,Cn.high]at h1 h2 h3 ih⊢
  have ih:=ih (by omega) (by omega) (by omega)
  have hlen:([y.cs]:List (List D)).length=1:=rfl
  rw[show(Cn.not y).d=.d (.agg (gcs 11 eS eS eS eS eS false 0 0 [] [y.cs]))from rfl]
  refine z0y fun H=>?_
  refine z0g func74 (by kernel_rfl) rfl (by simp) ?_
  dsimp only[f74]
  repeat' first|(apply z05;first|refine z0n ?_| (apply z0a;refine z02 z16 rfl rfl ?_)|(apply z0c;refine z02 z0i rfl rfl ?_)|(apply z0s;refine z02 (z4a rfl) rfl rfl ?_)|(apply z18;refine z0b z1m ?_))|(apply z06;first|refine z0m ?_|apply z09)|(apply z07;first|apply z08|apply z00|apply z04|apply z01|refine z0h (fun _=>?_) fun _=>?_)
  all_goals try omega
  refine z0r ?_
  refine z1u ?_
  repeat' first|(apply z05;first|refine z0n ?_| (apply z0a;first|refine z02 z1w rfl rfl ?_| refine z02 z1y rfl rfl ?_)|(apply z0k;refine z02 (z5h (u:=y.cs) rfl) rfl rfl ?_)|(apply z0t;refine z02 (z0z z1h) rfl rfl ?_)|(apply z0s;refine z02 z84 rfl rfl ?_)|(apply z0j;refine z29 ih ?_)|(apply z0f;refine z25 ?_)|(apply z0l;refine z0b z2e ?_))|(apply z06;first|refine z0m ?_|apply z09)|(apply z07;first|apply z08|apply z00|refine z1j ?_| apply z04|apply z01|apply z03|refine z0h (fun _=>?_) fun _=>?_)
  all_goals try omega
  exact zD46
 | .bin o y z,d,h1,h2,h3=>by
  have ih:=zg4 y (d+1)
  have ih2:=zg4 z (d+1)
  have hp:=y.size_pos
  have hp2:=z.size_pos
  simp only[Cn.size,Cn.high]at h1 h2 h3 ih ih2⊢
  have ih:=ih (by omega) (by omega) (by omega)
  have ih2:=ih2 (by omega) (by omega) (by omega)
  have hlen:([y.cs,z.cs]:List (List D)).length=2:=rfl
  rw[show(Cn.bin o y z).d=.d (.agg (gcs o eS eS eS eS eS false 0 0 [] [y.cs,z.cs]))from rfl]
  refine z0y fun H=>?_
  refine z0g func74 (by kernel_rfl) rfl (by simp) ?_
  dsimp only[f74]
  repeat' first|(apply z05;first|refine z0n ?_| (apply z0a;refine z02 z16 rfl rfl ?_)|(apply z0c;refine z02 z0i rfl rfl ?_)|(apply z0s;refine z02 (z4a rfl) rfl rfl ?_)|(apply z18;refine z0b z1m ?_))|(apply z06;first|refine z0m ?_|apply z09)|(apply z07;first|apply z08|apply z00|apply z04|apply z01|refine z0h (fun _=>?_) fun _=>?_)
  all_goals try omega
  refine z0r ?_
  refine z1u ?_
  repeat' first|(apply z05;first|refine z0n ?_| (apply z0a;first|refine z02 z1w rfl rfl ?_| refine z02 z1y rfl rfl ?_)|(apply z0k;refine z02 (z5h (u:=y.cs) rfl) rfl rfl ?_)|(apply z0t;refine z02 (z0z z1h) rfl rfl ?_)|(apply z0s;refine z02 z84 rfl rfl ?_)|(apply z0j;refine z29 ih ?_)|(apply z0f;refine z25 ?_)|(apply z0l;refine z0b z2e ?_))|(apply z06;first|refine z0m ?_|apply z09)|(apply z07;first|apply z08|apply z00|refine z1j ?_| apply z04|apply z01|apply z03|refine z0h (fun _=>?_) fun _=>?_)
  all_goals try omega
  refine z0d (tm':=[(1,I .i64 d),(6,I .i64 (1+y.size)),(7,I .i64 (max 0 y.high)),(15,.d (.slice [y.cs,z.cs])),(16,I .i64 ([y.cs,z.cs]:List (List D)).length),(17,I .i64 (0+1))]) (hp':=[(2,.box ((gcs o eS eS eS eS eS false 0 0 [] [y.cs,z.cs]).map .d))]) ?_ rfl rfl
  refine z1u ?_
  repeat' first|(apply z05;first|refine z0n ?_| (apply z0a;first|refine z02 z1w rfl rfl ?_| refine z02 z1y rfl rfl ?_)|(apply z0k;refine z02 (z5h (u:=z.cs) rfl) rfl rfl ?_)|(apply z0t;refine z02 (z0z z1h) rfl rfl ?_)|(apply z0s;refine z02 z84 rfl rfl ?_)|(apply z0j;refine z29 ih2 ?_)|(apply z0f;refine z25 ?_)|(apply z0l;refine z0b z2e ?_))|(apply z06;first|refine z0m ?_|apply z09)|(apply z07;first|apply z08|apply z00|refine z1j ?_| apply z04|apply z01|apply z03|refine z0h (fun _=>?_) fun _=>?_)
  all_goals try omega
  exact zD46
theorem zgw{labs:List Str}:∀(x:Cn),zau labs x→∀b:Bool,z0q prog 75 [x.d,B b] (B true)
 | .leaf g,h,b=>by
  refine z0y fun H=>?_
  refine z0g func75 (by kernel_rfl) rfl (by simp) ?_
  dsimp only[f75]
  obtain⟨op,a,b,name,arg,val,fold,mn,mx,args⟩:=g
  obtain⟨h1,-,h3,-,h5,h6,h7,h8,h9,-,-,-,h10⟩:=h
  simp only at h1 h3 h5 h6 h7 h8 h9 h10
  have hop:op=1∨op=2∨op=3∨op=4∨op=5∨op=6∨op=7∨op=8∨op=9∨op=10:=by omega
  rcases hop with rfl|rfl|rfl|rfl|rfl|rfl|rfl|rfl|rfl|rfl
  all_goals
   first|(have e3:=h3 (by decide);subst e3)|skip
   first|(have e3:=h5 (by decide);subst e3)|skip
   first|(have e3:=h6 (by decide);subst e3)|skip
   first|(have e3:=h7 (by decide);obtain⟨rfl,rfl⟩:=e3)|skip
   first|(have e3:=h8 (by decide);obtain⟨rfl,rfl⟩:=e3)|skip
   first|(have e3:=h9 (by decide);subst e3)|skip
   clear h1 h3 h5 h6 h7 h8 h9
   rw[show ∀o a b n g v f i j r,(Cn.leaf ⟨o,a,b,n,g,v,f,i,j,r⟩).d=.d (.agg (gcs o a b n g v f i j r []))from fun _ _ _ _ _ _ _ _ _ _=>rfl]
   repeat' first|(apply z05;first|refine z0n ?_| (apply z0a;refine z02 z16 rfl rfl ?_)|(apply z0c;refine z02 z0i rfl rfl ?_)|(apply z0s;first|refine z02 (z0w rfl) rfl rfl ?_| refine z02 (z4a rfl) rfl rfl ?_)|(apply z18;refine z0b z1m ?_))|(apply z06;first|refine z0m ?_|apply z09|refine z1g ?_| refine z7t rfl rfl (by decide) ?_)|(apply z07;first|apply z08|apply z00|refine z1j ?_| refine z15 ?_| apply z04|apply z01|apply z03)
   all_goals first
    | omega
    | (exfalso;simp_all;done)
    | skip
   all_goals refine z0r ?_
   all_goals exact zD54
 | .not y,h,b=>by
  have ih:=zgw y h false
  have hlen:([y.cs]:List (List D)).length=1:=rfl
  rw[show(Cn.not y).d=.d (.agg (gcs 11 eS eS eS eS eS false 0 0 [] [y.cs]))from rfl]
  refine z0y fun H=>?_
  refine z0g func75 (by kernel_rfl) rfl (by simp) ?_
  dsimp only[f75]
  repeat' first|(apply z05;first|refine z0n ?_| (apply z0a;refine z02 z16 rfl rfl ?_)|(apply z0c;refine z02 z0i rfl rfl ?_)|(apply z0s;first|refine z02 (z0w rfl) rfl rfl ?_| refine z02 (z4a rfl) rfl rfl ?_)|(apply z18;refine z0b z1m ?_))|(apply z06;first|refine z0m ?_|apply z09)|(apply z07;first|apply z08|apply z00|refine z1j ?_| refine z15 ?_| apply z04|apply z01|apply z03)
  all_goals first
   | omega
   | (exfalso;simp_all;done)
   | skip
  refine z0r ?_
  refine z1u ?_
  repeat' first|(apply z05;first|refine z0n ?_| (apply z0a;first|refine z02 z1w rfl rfl ?_| refine z02 z1y rfl rfl ?_)|(apply z0k;refine z02 (z5h (u:=y.cs) rfl) rfl rfl ?_)|(apply z0t;refine z02 (z0z z1h) rfl rfl ?_)|(apply z0j;refine z29 ih ?_)|(apply z0f;refine z25 ?_)|(apply z0l;refine z0b z2e ?_))|(apply z06;first|refine z0m ?_|apply z09)|(apply z07;first|apply z08|apply z00|refine z1j ?_| refine z15 ?_| apply z04|apply z01|apply z03)
  all_goals try (exfalso;first|omega|(simp_all;done))
  refine z1u ?_
  repeat' first|(apply z05;refine z0n ?_)|(apply z06;first|refine z0m ?_|apply z09)|(apply z07;first|apply z08|apply z00|refine z15 ?_| refine z0o ?_)
  all_goals first
   | omega
   | exact z0e func75 _ z0p ⟨rfl,rfl⟩
 | .bin o y z,h,b=>by
  have ih:=zgw y h.2.1 false
  have ih2:=zgw z h.2.2 false
  have ho:=h.1
  have hlen:([y.cs,z.cs]:List (List D)).length=2:=rfl
  rw[show(Cn.bin o y z).d=.d (.agg (gcs o eS eS eS eS eS false 0 0 [] [y.cs,z.cs]))from rfl]
  refine z0y fun H=>?_
  refine z0g func75 (by kernel_rfl) rfl (by simp) ?_
  dsimp only[f75]
  repeat' first|(apply z05;first|refine z0n ?_| (apply z0a;refine z02 z16 rfl rfl ?_)|(apply z0c;refine z02 z0i rfl rfl ?_)|(apply z0s;first|refine z02 (z0w rfl) rfl rfl ?_| refine z02 (z4a rfl) rfl rfl ?_)|(apply z18;refine z0b z1m ?_))|(apply z06;first|refine z0m ?_|apply z09|refine z1g ?_| refine z7t rfl rfl (by decide) ?_)|(apply z07;first|apply z08|apply z00|refine z1j ?_| refine z15 ?_| apply z04|apply z01|apply z03|refine z0h (fun _=>?_) (fun _=>?_)| refine z2q rfl (fun _=>?_) fun _=>?_)
  all_goals first
   | omega
   | (exfalso;simp_all;done)
   | skip
  all_goals refine z0r ?_
  all_goals refine z1u ?_
  all_goals repeat' first|(apply z05;first|refine z0n ?_| (apply z0a;first|refine z02 z1w rfl rfl ?_| refine z02 z1y rfl rfl ?_)|(apply z0k;refine z02 (z5h (u:=y.cs) rfl) rfl rfl ?_)|(apply z0t;refine z02 (z0z z1h) rfl rfl ?_)|(apply z0j;refine z29 ih ?_)|(apply z0f;refine z25 ?_)|(apply z0l;refine z0b z2e ?_))|(apply z06;first|refine z0m ?_|apply z09)|(apply z07;first|apply z08|apply z00|refine z1j ?_| refine z15 ?_| apply z04|apply z01|apply z03)
  all_goals try (exfalso;first|omega|(simp_all;done))
  all_goals refine z0d (tm':=[(136,.d (.slice [y.cs,z.cs])),(137,I .i64 ([y.cs,z.cs]:List (List D)).length),(138,I .i64 (0+1))]) (hp':=[(2,.box ((gcs o eS eS eS eS eS false 0 0 [] [y.cs,z.cs]).map .d))]) ?_ rfl rfl
  all_goals refine z1u ?_
  all_goals repeat' first|(apply z05;first|refine z0n ?_| (apply z0a;first|refine z02 z1w rfl rfl ?_| refine z02 z1y rfl rfl ?_)|(apply z0k;refine z02 (z5h (u:=z.cs) rfl) rfl rfl ?_)|(apply z0t;refine z02 (z0z z1h) rfl rfl ?_)|(apply z0j;refine z29 ih2 ?_)|(apply z0f;refine z25 ?_)|(apply z0l;refine z0b z2e ?_))|(apply z06;first|refine z0m ?_|apply z09)|(apply z07;first|apply z08|apply z00|refine z1j ?_| refine z15 ?_| apply z04|apply z01|apply z03)
  all_goals try (exfalso;first|omega|(simp_all;done))
  all_goals exact zD54
theorem zzg{labs:List Str}(x:Cn)(h:zau labs x)(hx:x.high≤5):z0q prog 33 [x.d] (B true):=by
 have hs:=z94 x
 have hp:2 ^ x.high≤2 ^ 5:=Nat.pow_le_pow_right (by decide) hx
 have hm:=zg4 x 0 (by omega) (by omega) (by omega)
 have hg:=zgw x h true
 refine z0y fun H=>?_
 refine z0g func33 (by kernel_rfl) rfl (by simp) ?_
 dsimp only[f33]
 repeat' first|(apply z05;first|refine z0n ?_| (apply z0a;refine z02 z1r rfl rfl ?_)|(apply z0j;first|refine z29 hm ?_| refine z29 hg ?_)|(apply z18;refine z0b z1m ?_))|(apply z06;first|refine z0m ?_|apply z09|refine z1g ?_| refine z1p (fun _=>?_) fun _=>?_)|(apply z07;first|apply z08|apply z00)
 all_goals first
  | omega
  | exact z0e func33 _ z0p ⟨rfl,rfl⟩
  | (exfalso;simp_all;done)
theorem ze2(c:z10)(x:Str)(hc:c.attrs.length≤1000000):z0q prog 77 [.d (.slice (c.attrs.map Attr.cs)),S x] (I .i64 (z4w c x)):=by
 refine z0y fun H=>?_
 refine z0g func77 (by kernel_rfl) rfl (by simp) ?_
 dsimp only[f77]
 rw[z4w]
 generalize c.attrs=l at hc⊢
 repeat' first|(apply z05;first|refine z0n ?_| (apply z0s;refine z02 (z0w rfl) rfl rfl ?_))|(apply z06;first|refine z0m ?_|apply z09)|(apply z07;first|apply z08|apply z00|apply z01)
 refine z0r ?_
 refine z0d (z1o (fun q:Nat=>⟨20,[(1,S x),(7,.d (.slice (l.map Attr.cs))),(8,I .i64 l.length),(9,I .i64 (q:Nat))],[],H⟩) (fun q=>q≤l.length∧z5a (fun a:Attr=>decide (a.name=x)) (l.drop q) q=z5a (fun a:Attr=>decide (a.name=x)) l 0) (fun q=>l.length-q) ?_ 0 ⟨zAf _,rfl⟩) rfl rfl
 intro k ⟨hk,hi⟩ ih
 by_cases hlt:k<l.length
 ·obtain⟨y,hy⟩:∃x,l[k]? =some x:=⟨_,zA0 hlt⟩
  rw[z3d hy,z5a]at hi
  repeat' first|(apply z05;first|refine z0n ?_| (apply z0a;first|refine z02 z16 rfl rfl ?_| refine z02 z1w rfl rfl ?_)|(apply z0c;refine z02 z0i rfl rfl ?_)|(apply z0k;refine z02 (z1a rfl (idx hy)) rfl rfl ?_)|(apply z0t;refine z02 (z0z z1h) rfl rfl ?_)|(apply z0f;refine z25 ?_)|(apply z0l;refine z0b z2e ?_))|(apply z06;first|refine z0m ?_|apply z09)|(apply z07;first|apply z08|apply z00|apply z04|apply z01|apply z03|refine z0h (fun _=>?_) (fun _=>?_)| refine z0o ?_)
  all_goals try omega
  all_goals first
   | (refine z0e func77 _ z0p ⟨?_,rfl⟩;rw[←hi,zAz (by simp_all)])
   | exact z0d (ih (k+1) ⟨by omega,by rw[←hi,zAy (by simp_all)]⟩ (by omega)) rfl rfl
 ·obtain rfl:k=l.length:=by omega
  rw[zAs,z5a]at hi
  repeat' first|(apply z05;refine z0n ?_)|(apply z06;first|refine z0m ?_|apply z09)|(apply z07;first|apply z08|apply z00|apply z04|apply z01|refine z0h (fun _=>?_) (fun _=>?_)| refine z0o ?_)
  all_goals try omega
  all_goals exact z0e func77 _ z0p ⟨by rw[←hi],rfl⟩
def zjp:List Str→List Int→Str→Int
 | x::r,t::u,s=>if x=s then t else zjp r u s
 | _,_,_=> -1
theorem zqw(labs:List Str)(b e:Int)(ls:List Int)(s:Str)(hl:labs.length≤1000000)(hll:ls.length=labs.length):z0q prog 78 [.d (strs labs),z9m b e ls,S s] (I .i64 (zjp labs ls s)):=by
 refine z0y fun H=>?_
 refine z0g func78 (by kernel_rfl) rfl (by simp) ?_
 dsimp only[f78]
 repeat' first|(apply z05;first|refine z0n ?_| (apply z0s;refine z02 (z0w rfl) rfl rfl ?_)|(apply z18;refine z0b z1m ?_))|(apply z06;first|refine z0m ?_|apply z09)|(apply z07;first|apply z08|apply z00|apply z01)
 refine z0r ?_
 refine z0d (z1o (fun q:Nat=>⟨25,[(2,S s),(4,.ptr (0,4) 0),(9,.d (strs labs)),(10,I .i64 labs.length),(11,I .i64 (q:Nat))],[(4,.box ([z2g b,z2g e,ints ls].map .d))],H⟩) (fun q=>q≤labs.length∧zjp (labs.drop q) (ls.drop q) s=zjp labs ls s) (fun q=>labs.length-q) ?_ 0 ⟨zAf _,rfl⟩) rfl rfl
 intro k ⟨hk,hi⟩ ih
 by_cases hlt:k<labs.length
 ·obtain⟨y,hy⟩:∃x,labs[k]? =some x:=⟨_,zA0 hlt⟩
  obtain⟨t,ht⟩:∃x,ls[k]? =some x:=⟨_,zA0 (by omega)⟩
  rw[z3d hy,z3d ht,zjp]at hi
  repeat' first|(apply z05;first|refine z0n ?_| (apply z0a;first|refine z02 z16 rfl rfl ?_| refine z02 z2f rfl rfl ?_)|(apply z0c;refine z02 z0i rfl rfl ?_)|(apply z0k;first|refine z02 (z1a rfl (idx hy)) rfl rfl ?_| refine z02 (z1a rfl (idx ht)) rfl rfl ?_)|(apply z0t;refine z02 (z0z z1h) rfl rfl ?_))|(apply z06;first|refine z0m ?_|apply z09)|(apply z07;first|apply z08|apply z00|apply z04|apply z01|apply z03|refine z0h (fun _=>?_) (fun _=>?_)| refine z0o ?_)
  all_goals try omega
  all_goals first
   | (refine z0e func78 _ z0p ⟨?_,rfl⟩;rw[←hi,zAz (by simp_all)])
   | exact z0d (ih (k+1) ⟨by omega,by rw[←hi,zAy (by simp_all)]⟩ (by omega)) rfl rfl
 ·obtain rfl:k=labs.length:=by omega
  rw[zAs]at hi
  repeat' first|(apply z05;refine z0n ?_)|(apply z06;first|refine z0m ?_|apply z09)|(apply z07;first|apply z08|apply z00|apply z04|apply z01|refine z0h (fun _=>?_) (fun _=>?_)| refine z0o ?_)
  all_goals try omega
  all_goals exact z0e func78 _ z0p ⟨by rw[←hi];rfl,rfl⟩
theorem zpl(i j:Int){s:Str}(hs:s∈z2i):zjp z2i [i,j] s=zjn i j s:=by
 simp only[z2i,zAc,List.not_mem_nil,or_false]at hs
 rcases hs with rfl|rfl
 ·rfl
 ·rfl
theorem y1a(i j:Int):zjp z2i [i,j] eS=-1:=rfl
theorem zgh{c:z10}(hw:Wf c){t:Int}(ht:token c t=true):z0q prog 81 [c.d,I .i64 t] (.tup [I .i64 (head c t),S (zha c t)]):=by
 have h0:=(z2p c t).1 ht
 have htk:=hw.tok
 have hrl:=hw.rel
 refine z0y fun H=>?_
 refine z0g func81 (by kernel_rfl) rfl (by simp) ?_
 dsimp only[f81]
 rcases hw.hd with hh|hh
 ·have e1:head c t=-1:=by simp[head,hh]
  have hr0:c.rels=[]:=List.length_eq_zero_iff.1 (by rw[hrl,hh];rfl)
  have e2:zha c t=eS:=by simp[zha,hr0]
  rw[e1,e2]
  have hln:c.heads.length=0:=by rw[hh];rfl
  repeat' first|(apply z05;first|refine z0n ?_| (apply z0a;refine z02 z16 rfl rfl ?_)|(apply z0c;refine z02 z0i rfl rfl ?_)|(apply z0s;refine z02 (z0w rfl) rfl rfl ?_)|(apply z18;refine z0b z1m ?_))|(apply z06;first|refine z0m ?_|apply z09)|(apply z07;first|apply z08|apply z00|apply z04|apply z2o|refine z0h (fun _=>?_) fun _=>?_)|(apply z2m;first|refine z2w ?_| (apply z0v;refine z0x z16 rfl rfl ?_)|(apply z0u;refine z0x z0i rfl rfl ?_))
  all_goals try omega
  all_goals exact z0e func81 _ z2s ⟨rfl,rfl⟩
 ·obtain⟨h,hg⟩:∃x,c.heads[t.toNat]? =some x:=⟨_,zA0 (by omega)⟩
  obtain⟨r,hr⟩:∃x,c.rels[t.toNat]? =some x:=⟨_,zA0 (by omega)⟩
  obtain⟨rank,hrk⟩:=hw.acyc
  have e1:head c t=h:=by
   simp only[head,hg]
   rcases hrk _ _ hg with e|⟨e,e',-⟩
   ·subst e;split <;> rfl
   ·rw[zAz ((z2p c h).2 ⟨e,by omega⟩)]
  have e2:zha c t=r:=by simp[zha,hr]
  rw[e1,e2]
  repeat' first|(apply z05;first|refine z0n ?_| (apply z0a;refine z02 z16 rfl rfl ?_)|(apply z0c;refine z02 z0i rfl rfl ?_)|(apply z0s;refine z02 (z0w rfl) rfl rfl ?_)|(apply z18;refine z0b z1m ?_))|(apply z06;first|refine z0m ?_|apply z09)|(apply z07;first|apply z08|apply z00|apply z04|apply z2o|refine z0h (fun _=>?_) fun _=>?_)|(apply z2m;first|(apply z1e;refine z2c mix ?_)|refine z2w ?_| (apply z0v;first|refine z0x z16 rfl rfl ?_| refine z0x z2f rfl rfl ?_)|(apply z0u;refine z0x z0i rfl rfl ?_)|(apply z1i;first|refine z0x (z3k rfl h0.1 (z6h hg) rfl) rfl rfl ?_| refine z0x (z3k rfl h0.1 (z6h hr) rfl) rfl rfl ?_))
  all_goals try omega
  all_goals exact z0e func81 _ z2s ⟨rfl,rfl⟩
theorem zd0{c:z10}(hw:Wf c){a:Int}(ha:token c a=true){k:Nat}{t:Int}(ht:(way c a)[k]? =some t):head c t=((way c a)[k+1]?).getD (-1):=by
 obtain⟨h1,h2⟩:=zd7 hw ha ht
 rw[zl0]
 have h3:=zaf hw h2
 have h4:(up c a)[k]? =(up c t)[0]?:=by rw[←h1,List.getElem?_drop];rfl
 rw[h4,h3]
 split
 ·rename_i e;rw[e];rfl
 ·rfl
theorem zuk{c:z10}(hw:Wf c){a:Int}(ha:token c a=true):z0q prog 80 [c.d,I .i64 a] (I .i64 (up c a).length):=by
 have htk:=hw.tok
 have hul:=z9w c a
 have hlen:(way c a).length=(up c a).length+1:=rfl
 have h0:=zgh hw ha
 have e0:=zd0 hw ha (k:=0) (t:=a) rfl
 have hwt:∀k t,(way c a)[k]? =some t→token c t=true:=fun k t h=>(zd7 hw ha h).2
 refine z0y fun H=>?_
 refine z0g func80 (by kernel_rfl) rfl (by simp) ?_
 dsimp only[f80]
 repeat' first|(apply z05;first|refine z0n ?_| (apply z0a;refine z02 z1r rfl rfl ?_)|(apply z0j;refine z29 h0 ?_)|(apply z18;refine z0b z1m ?_))|(apply z06;first|refine z0m ?_|apply z09)|(apply z07;first|apply z08|apply z00|apply z01)
 refine z0r ?_
 refine z0d (z1o (fun q:Nat × Int=>⟨25,[(2,.ptr (0,2) 0),(5,I .i64 (q.1:Nat)),(6,I .i64 q.2)],[(2,.box (c.cs.map .d))],H⟩) (fun q=>q.1<(way c a).length∧((way c a)[q.1+1]?).getD (-1)=q.2) (fun q=>(way c a).length-q.1) ?_ (0,head c a) ⟨by simp only;omega,e0.symm⟩) rfl rfl
 intro⟨k,h⟩ ⟨hk,hh⟩ ih
 simp only at hk hh ih⊢
 cases hn:(way c a)[k+1]? with
 | none =>
  rw[hn]at hh
  obtain rfl:h=-1:=hh.symm
  have:=List.getElem?_eq_none_iff.1 hn
  obtain rfl:k=(up c a).length:=by omega
  repeat' first|(apply z05;refine z0n ?_)|(apply z06;first|refine z0m ?_|apply z09)|(apply z07;first|apply z08|apply z00|refine z15 ?_| refine z0o ?_)
  all_goals try omega
  all_goals exact z0e func80 _ z0p ⟨rfl,rfl⟩
 | some t =>
  rw[hn]at hh
  obtain rfl:t=h:=hh
  have hkl:=(zA1.1 hn).1
  have htt:=hwt _ _ hn
  have hb:=(z2p c t).1 htt
  have h2:=zgh hw htt
  have e2:=zd0 hw ha hn
  repeat' first|(apply z05;first|refine z0n ?_| (apply z0a;refine z02 z1r rfl rfl ?_)|(apply z0t;refine z02 (z0z z1h) rfl rfl ?_)|(apply z0j;refine z29 h2 ?_))|(apply z06;first|refine z0m ?_|apply z09)|(apply z07;first|apply z08|apply z00|apply z04|apply z01|apply z03|refine z38 rfl (fun _=>?_) (fun _=>?_)|refine z0o ?_)
  all_goals try omega
  all_goals exact z0d (ih (k+1,head c t) ⟨by simp only;omega,e2.symm⟩ (by simp only;omega)) rfl rfl
def zo5(c:z10)(a b:Int):Int:=z5a (fun y=>decide (b=y)) (way c a) 0
def znd(c:z10)(a b:Int):List Str:=if 0≤zo5 c a b then(z6a c a (up c a).length).take (zo5 c a b).toNat else []
theorem zno{c:z10}{a:Int}{k:Nat}{t:Int}(h:(way c a)[k]? =some t):z6a c a (k+1)=z6a c a k++[zha c t]:=by
 rw[z6a,List.take_add_one,h,List.map_append];rfl
theorem zwg{c:z10}(hw:Wf c){a:Int}(b:Int)(ha:token c a=true):z0q prog 82 [c.d,I .i64 a,I .i64 b] (.tup [.d (strs (znd c a b)),B (decide (0≤zo5 c a b))]):=by
 have htk:=hw.tok
 have hul:=z9w c a
 have hlen:(way c a).length=(up c a).length+1:=rfl
 have hwt:∀k t,(way c a)[k]? =some t→token c t=true:=fun k t h=>(zd7 hw ha h).2
 refine z0y fun H=>?_
 refine z0g func82 (by kernel_rfl) rfl (by simp) ?_
 dsimp only[f82]
 repeat' first|(apply z05;first|refine z5f (d:=8) rfl rfl rfl (by decide) ?_|refine z0n ?_| (apply z18;refine z0b z1m ?_))|(apply z06;first|refine z0m ?_|apply z09)|(apply z07;first|apply z08|apply z00|apply z01)
 refine z0r ?_
 refine z0d (z1o (fun q:Nat × Int=>⟨28,[(1,I .i64 q.2),(2,I .i64 b),(3,.ptr (0,3) 0),(8,.ref (0,8))],[(8,.row 9 1 ((z6a c a q.1).map fun x=>[z6o x])),(3,.box (c.cs.map .d))],H⟩) (fun q=>(way c a)[q.1]? =some q.2∧z5a (fun y=>decide (b=y)) ((way c a).drop q.1) q.1=zo5 c a b) (fun q=>(way c a).length-q.1) ?_ (0,a) ⟨rfl,rfl⟩) rfl rfl
 intro⟨k,t⟩ ⟨hk,hi⟩ ih
 simp only at hk hi ih⊢
 have hkl:=(zA1.1 hk).1
 have htt:=hwt _ _ hk
 have h2:=zgh hw htt
 have e2:=zd0 hw ha hk
 have hrk:(z6a c a k).length=k:=by simp[z6a];omega
 have hsmall:(z6a c a k).length<137438953472:=by omega
 rw[z3d hk,z5a]at hi
 by_cases hb:b=t
 ·rw[zAz (by simp[hb])]at hi
  have hL:znd c a b=z6a c a k:=by
   rw[znd,←hi,zAz (by omega),zA9,z6a,←List.map_take,List.take_take,Nat.min_eq_left (by omega)];rfl
  rw[hL,←hi,zAi (by omega)]
  repeat' first|(apply z05;first|refine z0n ?_| (apply z0a;refine z02 z1r rfl rfl ?_))|(apply z06;first|refine z0m ?_|apply z09)|(apply z07;first|apply z08|apply z00|apply z04|apply z01|refine z38 rfl (fun _=>?_) (fun _=>?_)|refine z0o ?_)
  all_goals try omega
  refine z1f 8 rfl ?_
  skip
  all_goals exact z0e func82 _ z2s ⟨rfl,rfl⟩
 ·rw[zAy (by simpa using hb)]at hi
  cases hn:(way c a)[k+1]? with
  | none =>
   rw[hn]at e2
   have hd:(way c a).drop (k+1)=[]:=List.drop_eq_nil_iff.2 (List.getElem?_eq_none_iff.1 hn)
   rw[hd,z5a]at hi
   have hL:znd c a b=[]:=by rw[znd,←hi,zAy (by omega)]
   rw[hL,←hi,zAo (by omega)]
   rw[show head c t=-1 from e2]at h2
   repeat' first|(apply z05;first|refine z0n ?_| (apply z0a;refine z02 z1r rfl rfl ?_)|(apply z0j;refine z29 h2 ?_))|(apply z06;first|refine z0m ?_|apply z09)|(apply z07;first|apply z08|apply z00|refine z1j ?_| apply z04|apply z01|refine z38 rfl (fun _=>?_) (fun _=>?_)|refine z0o ?_)
   all_goals try omega
   refine y26 6 rfl ?_
   all_goals exact z0e func82 _ z2s ⟨rfl,rfl⟩
  | some h =>
   rw[hn]at e2
   have hb2:=(z2p c h).1 (hwt _ _ hn)
   rw[show head c t=h from e2]at h2
   repeat' first|(apply z05;first|refine z0n ?_| (apply z0a;refine z02 z1r rfl rfl ?_)|(apply z0s;refine z99 _ rfl ?_)|(apply z0j;refine z29 h2 ?_)|(apply z3c;refine z3b rfl ?_))|(apply z06;first|refine z0m ?_|apply z09)|(apply z07;first|apply z08|apply z00|apply z04|apply z01|apply z03|refine z0h (fun _=>?_) (fun _=>?_)| refine z38 rfl (fun _=>?_) (fun _=>?_)|refine z0o ?_)
   all_goals try omega
   refine z4n 26 8 rfl rfl ?_
   refine z0d (ih (k+1,h) ⟨hn,hi⟩ (by simp only;omega)) rfl ?_
   rw[zno hk];rfl
theorem zsk(a b:List Str)(ha:a.length≤1000000)(hb:b.length≤1000000):z0q prog 83 [.d (strs a),.d (strs b)] (B (decide (a=b))):=by
 refine z0y fun H=>?_
 refine z0g func83 (by kernel_rfl) rfl (by simp) ?_
 dsimp only[f83]
 by_cases hlen:a.length=b.length
 ·repeat' (first|(apply z05;first|refine z0n ?_| (apply z0s;refine z02 (z0w rfl) rfl rfl ?_))|(apply z06;first|refine z0m ?_|apply z09)|(apply z07;first|apply z08|apply z00|apply z04|apply z01|refine z38 rfl (fun _=>?_) fun _=>?_))
  ·omega
  refine z0r ?_
  refine z0d (z1o (fun q:Nat=>⟨26,[(0,.d (strs a)),(1,.d (strs b)),(12,I .i64 a.length),(13,I .i64 (q:Nat))],[],H⟩) (fun q=>q≤a.length∧∀j<q,a[j]? =b[j]?) (fun q=>a.length-q) ?_ 0 ⟨zAf _,by simp⟩) rfl rfl
  intro k ⟨hk,hi⟩ ih
  by_cases hlt:k<a.length
  ·obtain⟨x,hx⟩:∃x,a[k]? =some x:=⟨_,zA0 hlt⟩
   obtain⟨y,hy⟩:∃x,b[k]? =some x:=⟨_,zA0 (by omega)⟩
   repeat' first|(apply z05;first|refine z0n ?_| (apply z0t;refine z02 (z0z z1h) rfl rfl ?_))|(apply z06;first|refine z0m ?_|apply z09)|(apply z07;first|apply z08|apply z00|apply z04|apply z01|apply z2o|apply z03|refine z0h (fun _=>?_) (fun _=>?_)| refine z38 rfl (fun _=>?_) (fun _=>?_)|refine z0o ?_)|(apply z2m;first|(apply z1e;refine z2c mix ?_)|refine z2w ?_| (apply z0v;refine z0x z2f rfl rfl ?_)|(apply z1i;first|refine z0x (z1a rfl (idx hx)) rfl rfl ?_| refine z0x (z1a rfl (idx hy)) rfl rfl ?_))
   all_goals try omega
   all_goals first
    | (refine z0e func83 _ z0p ⟨?_,rfl⟩
       rw[zAo]
       intro e;subst e;rw[hx]at hy;simp_all;done)
    | (refine z0d (ih (k+1) ⟨by omega,fun j hj=>?_⟩ (by omega)) rfl rfl
       by_cases e:j=k
       ·subst e;rw[hx,hy];simp_all
       ·exact hi j (by omega))
  ·repeat' (first|(apply z05;refine z0n ?_)|(apply z06;first|refine z0m ?_|apply z09)|(apply z07;first|apply z08|apply z00|apply z04|apply z01|apply z2o|refine z0h (fun _=>?_) (fun _=>?_)| refine z0o ?_)|(apply z2m;refine z2w ?_))
   all_goals try omega
   all_goals
    refine z0e func83 _ z0p ⟨?_,rfl⟩
    rw[zAi]
    exact zrt hlen fun j hj=>hi j (by omega)
 ·repeat' (first|(apply z05;first|refine z0n ?_| (apply z0s;refine z02 (z0w rfl) rfl rfl ?_))|(apply z06;first|refine z0m ?_|apply z09)|(apply z07;first|apply z08|apply z00|apply z04|apply z01|refine z38 rfl (fun _=>?_) fun _=>?_))
  ·refine z0e func83 _ z0p ⟨?_,rfl⟩
   rw[zAo]
   intro e;subst e;exact hlen rfl
  ·omega
end Go.Proofs.YtonhfccmeammbaaGreatDoor
