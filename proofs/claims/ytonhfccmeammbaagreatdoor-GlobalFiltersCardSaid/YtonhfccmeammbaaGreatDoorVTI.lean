/- A part. -/
import Derived.Test.YtonhfccmeammbaaGreatDoorVTH
import Derived.Test.YtonhfccmeammbaaGreatDoorV1
set_option linter.all false
open Go.Proofs.Tryz
set_option maxRecDepth 100000
namespace Go.Proofs.YtonhfccmeammbaaGreatDoor
open Go.Ab
set_option maxHeartbeats 20000000
attribute [local irreducible] Run Ops Op1 z1z Val Tr z0q z1v NF Rel z4v z2b
structure Mat where
 b:Int
 e:Int
 ls:List Int
def Mat.cs(m:Mat):List D:=[z2g m.b,z2g m.e,ints m.ls]
def zpr(c:z10)(m:Mat):Prop:=0≤m.b∧m.b<m.e∧m.e≤c.tokens.length∧∃i j,m.ls=[i,j]∧(-1≤i∧i<c.tokens.length)∧(-1≤j∧j<c.tokens.length)
theorem zhu(l:List Int)(k:Nat)(c:z10)(most:Int)(hl:l.length≤120)(hk:k≤120)(hm:0≤most∧most≤20)(ht0:0<c.texts.length∧c.texts.length≤1000)(hn:c.tokens.length≤1000000)(hsp:∀t∈c.texts,0≤t.b∧t.b<t.e∧t.e≤c.tokens.length) :
 Rel prog 13 [.ptr (0,500) 0,c.d,I .i64 2,I .i64 most] [((0,500),z2u l k)]
  (fun x:List Mat × Nat=>(∀m∈x.1,zpr c m)∧(x.1.length:Int)≤most∧x.2≤120) (fun x=>.d (.slice (x.1.map Mat.cs))) (fun x=>[((0,500),z2u l x.2)]):=by
 refine zfd fun H hH=>?_
 have hH0:=hH ((0,500),z2u l k) (by simp)
 refine z0g func13 (by kernel_rfl) rfl (by simp) ?_
 dsimp only[f13]
 refine z57 500 0 500 hH0 rfl rfl ?_
 refine z0d (tm':=[(0,.ptr (0,500) 0),(1,c.d),(2,I .i64 2),(3,I .i64 most),(100500,.al (0,500) (1,500))]) (hp':=[(500,z2u l k)]) ?_ rfl rfl
 repeat' first|(apply z05;first|refine z5f (d:=9) rfl rfl rfl (by decide) ?_|refine z0n ?_| (apply z0t;refine z02 (z0z z1h) rfl rfl ?_)|(apply z0j;refine zt3 hl rfl rfl (by decide) (by omega) (by assumption) fun _ _ _=>?_)|(apply z18;refine z0b z1m ?_))|(apply z06;first|refine z0m ?_|apply z09)|(apply z07;first|apply z08|apply z00|apply z01)
 refine z0r ?_
 refine z0d (z1o (fun q:Int × List Mat × Nat=>⟨92,[(0,.ptr (0,500) 0),(2,I .i64 2),(5,.ptr (0,5) 0),(9,.ref (0,9)),(10,I .i64 q.1),(100500,.al (0,500) (1,500))],[(9,.row 42 3 (q.2.1.map Mat.cs)),(500,z2u l q.2.2),(5,.box (c.cs.map .d))],upd H (0,500) .gone⟩)
  (fun q=>0≤q.1∧(q.2.1.length:Int)+q.1≤most∧(∀m∈q.2.1,zpr c m)∧q.2.2≤120) (fun q=>q.1.toNat) ?_ (_,[],_) ⟨by assumption,by simp only[List.length_nil];omega,by simp,by assumption⟩) rfl rfl
 intro⟨m,ms,kt⟩ ⟨h1,h2,h3,h4⟩ ih
 simp only at h1 h2 h3 h4 ih⊢
 by_cases hm0:0<m
 ·have hr0:=tn0 (l:=l) (k:=kt) (n:=(c.texts.length:Int)) (by omega)
  have hr1:=tn1 (l:=l) (k:=kt) (n:=(c.texts.length:Int)) (by omega)
  obtain⟨x,hx⟩:∃x,c.texts[(z4v l kt c.texts.length).toNat]? =some x:=⟨_,zA0 (by omega)⟩
  have hx3:=hsp x (zA2 hx)
  repeat' first|(apply z05;first|refine z0n ?_| (apply z0a;refine z02 z16 rfl rfl ?_)|(apply z0c;refine z02 z0i rfl rfl ?_)|(apply z0t;first|refine z02 (z0z z1h) rfl rfl ?_| refine z02 (z2l z1h) rfl rfl ?_)|(apply z0j;refine zt3 hl rfl rfl (by decide) (by omega) (by assumption) fun _ _ _=>?_)|(apply z0f;refine z25 ?_)|(apply z0l;refine z0b z2e ?_)|(apply z1n;refine z2y ?_))|(apply z06;first|refine z0m ?_|apply z09)|(apply z07;first|apply z08|apply z00|apply z04|apply z01|apply z2o|refine z0h (fun _=>?_) (fun _=>?_)| refine z0o ?_)|(apply z2m;first|(apply z1e;refine z2c mix ?_)|refine z2w ?_| (apply z0v;first|refine z0x z16 rfl rfl ?_| refine z0x z1w rfl rfl ?_)|(apply z0u;refine z0x z0i rfl rfl ?_)|(apply z1i;refine z0x (z3k rfl hr0 (z6h hx) rfl) rfl rfl ?_)|(apply z3p;first|refine z0x (z0z z1h) rfl rfl ?_| refine z0x (z2l z1h) rfl rfl ?_)|(apply z3v;refine z0x (z0w rfl) rfl rfl ?_)|(apply z1s;refine y0x hl (by first|exact rfl|exact⟨_,rfl,rfl,rfl⟩) rfl rfl (by decide) (by omega) (by assumption) fun _ _ _=>?_)|(apply z2r;refine z6i (by first|exact rfl|exact⟨_,rfl,rfl,rfl⟩) rfl rfl rfl rfl rfl rfl ?_)|(apply zmo;refine zrc (by first|exact rfl|exact⟨_,rfl,rfl,rfl⟩) rfl rfl (by decide) ?_))
  all_goals try omega
  refine z4q 13 2 600 3 1 rfl rfl rfl rfl ?_
  obtain⟨bb,hbb⟩:∃bb,x.b+z4v l (z2b l kt) (x.e-x.b)=bb:=⟨_,rfl⟩
  simp only[hbb]
  obtain⟨ee,hee⟩:∃ee,bb+1+z4v l (z2b l (z2b l kt)) (x.e-bb)=ee:=⟨_,rfl⟩
  simp only[hee]
  have q0:=tn0 (l:=l) (k:=z2b l kt) (n:=x.e-x.b) (by omega)
  have q1:=tn1 (l:=l) (k:=z2b l kt) (n:=x.e-x.b) (by omega)
  have q2:=tn0 (l:=l) (k:=z2b l (z2b l kt)) (n:=x.e-bb) (by omega)
  have q3:=tn1 (l:=l) (k:=z2b l (z2b l kt)) (n:=x.e-bb) (by omega)
  have hb2:0≤bb∧bb<ee∧ee≤c.tokens.length:=by omega
  refine z0r ?_
  refine z0d (z1o (fun q:Nat × List Int × Nat=>⟨92,[(0,.ptr (0,500) 0),(2,I .i64 2),(5,.ptr (0,5) 0),(9,.ref (0,9)),(10,I .i64 m),(11,.ptr (0,11) 0),(13,.ptr (0,13) 0),(14,I .i64 q.1),(100500,.al (0,500) (1,500))],[(600,.row 3 1 (q.2.1.map fun x=>[z2g x])),(500,z2u l q.2.2),(13,.box [I .i64 bb,I .i64 ee,.ref (0,600)]),(11,.box (x.cs.map .d)),(9,.row 42 3 (ms.map Mat.cs)),(5,.box (c.cs.map .d))],upd H (0,500) .gone⟩)
   (fun q=>q.1≤2∧q.2.1.length=q.1∧(∀y∈q.2.1,-1≤y∧y<c.tokens.length)∧q.2.2≤120) (fun q=>2-q.1) ?_ (0,[],_) ⟨by simp only;omega,rfl,by simp,by assumption⟩) rfl rfl
  intro⟨i,ls,ku⟩ ⟨g1,g2,g3,g4⟩ ih2
  simp only at g1 g2 g3 g4 ih2⊢
  by_cases hi2:i<2
  ·have hget:∀v:Int,(ls++[v])[((i:Nat):Int).toNat]? =some v:=fun v=>by rw[zA9,zAg (by omega),g2];simp
   have hset:∀v:Int,(ls++[v]).set ((i:Nat):Int).toNat (-1)=ls++[-1]:=fun v=>by rw[zA9,List.set_append_right _ _ (by omega),g2];simp
   have hmem:∀v:Int,(-1≤v∧v<c.tokens.length)→∀y∈ls++[v],-1≤y∧y<c.tokens.length:=fun v hv y hy=>by
    rcases zAt.1 hy with hy|hy
    ·exact g3 y hy
    ·simp only[zAq]at hy;subst hy;exact hv
   repeat' first|(apply z05;first|refine z0n ?_| (apply z0a;refine z02 z16 rfl rfl ?_)|(apply z0c;refine z02 z0i rfl rfl ?_)|(apply z0k;refine z02 (z4r rfl (by rw[zA4,zAa,zAn];omega)) rfl rfl ?_)|(apply z0t;refine z02 (z0z z1h) rfl rfl ?_)|(apply z0f;refine z22 (-1) rfl rfl rfl rfl (hget _) rfl rfl rfl (hset _) ?_))|(apply z06;first|refine z0m ?_|apply z09)|(apply z07;first|apply z08|apply z00|apply z04|apply z01|apply z2o|apply z03|refine z0h (fun _=>?_) (fun _=>?_)| refine z0o ?_)|(apply z2m;first|(apply z1e;refine z2c mix ?_)|refine z2w ?_| (apply z0v;first|refine z0x (z23 (hget _) rfl rfl rfl) rfl rfl ?_| refine z0x z16 rfl rfl ?_)|(apply z0u;refine z0x z0i rfl rfl ?_)|(apply z1i;refine z0x (z4r rfl (by rw[zA4,zAa,zAn];omega)) rfl rfl ?_)|(apply z3p;first|refine z0x (z0z z1h) rfl rfl ?_| refine z0x (z2l z1h) rfl rfl ?_)|(apply z3v;refine zao (by first|exact rfl|exact⟨_,rfl,rfl,rfl⟩) rfl rfl _ rfl rfl rfl rfl rfl rfl rfl (by decide) (by omega) ?_)|(apply z1s;refine y0x hl (by first|exact rfl|exact⟨_,rfl,rfl,rfl⟩) rfl rfl (by decide) (by omega) (by assumption) fun _ _ _=>?_)|(apply z2r;refine z5w (by first|exact rfl|exact⟨_,rfl,rfl,rfl⟩) rfl rfl rfl rfl rfl ?_)|(apply z6y;refine z7w rfl ?_))
   all_goals try omega
   ·refine z4n 73 600 rfl rfl ?_
    exact z0d (ih2 (i+1,ls++[-1],z2b l ku) ⟨by simp only;omega,by simp only[zAa,zAn,g2],hmem _ (by omega),by assumption⟩ (by simp only;omega)) rfl rfl
   ·refine z4n 73 600 rfl rfl ?_
    exact z0d (ih2 (i+1,ls++[x.b+z4v l ku (x.e-x.b+1)-1],z2b l ku) ⟨by simp only;omega,by simp only[zAa,zAn,g2],hmem _ (by have:=tn0 (l:=l) (k:=ku) (n:=x.e-x.b+1) (by omega);have:=tn1 (l:=l) (k:=ku) (n:=x.e-x.b+1) (by omega);omega),by assumption⟩ (by simp only;omega)) rfl rfl
  ·refine z1f 600 rfl ?_
   repeat' first|(apply z05;first|refine z0n ?_| (apply z0a;refine z02 z1y rfl rfl ?_)|(apply z0t;refine z02 (z2l z1h) rfl rfl ?_)|(apply z0s;refine z99 (⟨bb,ee,ls⟩:Mat) rfl ?_)|(apply z3c;refine z3b rfl ?_))|(apply z06;first|refine z0m ?_|apply z09)|(apply z07;first|apply z08|apply z00|apply z04|apply z01|apply z2o|apply z03|refine z0h (fun _=>?_) (fun _=>?_)| refine z0o ?_)|(apply z2m;first|refine z2w ?_| (apply z0v;refine z0x z16 rfl rfl ?_)|(apply z0u;refine z0x z0i rfl rfl ?_)|(apply z3p;first|refine z0x (z0z z1h) rfl rfl ?_| refine z0x (z2l z1h) rfl rfl ?_)|(apply z1s;refine y0x hl (by first|exact rfl|exact⟨_,rfl,rfl,rfl⟩) rfl rfl (by decide) (by omega) (by assumption) fun _ _ _=>?_)|(apply z6y;refine z7w rfl ?_))
   all_goals try omega
   refine z4n 90 9 rfl rfl ?_
   refine z0d (ih (m-1,ms++[⟨bb,ee,ls⟩],ku) ⟨by simp only;omega,by simp only[zAa,zAn];omega,fun y hy=>?_,g4⟩ (by simp only;omega)) rfl rfl
   rcases zAt.1 hy with hy|hy
   ·exact h3 y hy
   ·simp only[zAq]at hy
    subst hy
    obtain rfl:i=2:=by omega
    match ls,g2,g3 with
    | [i1,i2],_,g3=>exact⟨hb2.1,hb2.2.1,hb2.2.2,i1,i2,rfl,g3 i1 (by simp),g3 i2 (by simp)⟩
 ·refine z1f 9 rfl ?_
  repeat' first|(apply z05;refine z0n ?_)|(apply z06;first|refine z0m ?_|apply z09)|(apply z07;first|apply z08|apply z00|apply z04|apply z01|apply z2o|refine z0h (fun _=>?_) (fun _=>?_)| refine z0o ?_)|(apply z2m;first|refine z2w ?_| (apply z0v;refine z0x z16 rfl rfl ?_)|(apply z0u;refine z0x z0i rfl rfl ?_)|(apply z3v;refine z0x (z0w rfl) rfl rfl ?_))
  all_goals try omega
  refine z3s 500 0 500 (raw:=z2u l kt) rfl rfl rfl rfl rfl ?_
  exact z0e func13 _ z0p ⟨(ms,kt),⟨h3,by simp only;omega,h4⟩,rfl,z3g _ _ _ _⟩
def exC:z10:=⟨[⟨⟨#[119]⟩,false⟩],[[⟨#[97]⟩],[⟨#[98]⟩],[⟨#[99]⟩]],[⟨⟨#[116]⟩,0,3,[]⟩],[],[],[1,-1,1],[⟨#[100,101,116]⟩,⟨#[]⟩,⟨#[111,98,106]⟩]⟩
theorem y5y:z0q prog 36 [] exC.d:=by
 refine z0y fun H=>?_
 refine z0g func36 (by kernel_rfl) rfl (by simp) ?_
 dsimp only[f36]
 repeat' first|(apply z05;first|(apply z0f;refine z25 ?_)|(apply z0l;refine z0b z2e ?_)|(apply z1n;refine zd1 rfl rfl rfl rfl rfl rfl (by decide) ?_)|(apply z3c;first|refine zi0 (ys:=exC.texts.map Text.cs) rfl rfl rfl rfl rfl rfl rfl rfl rfl (by decide) ?_|refine z3b rfl ?_))|(apply z06;first|refine z0m ?_|apply z09)|(apply z07;first|apply z08|apply z00)
 refine z1f 8 rfl ?_
 refine z4q 0 3 600 84 4 rfl rfl rfl rfl ?_
 refine z1f 600 rfl ?_
 refine z4q 0 4 601 84 4 rfl rfl rfl rfl ?_
 refine z1f 601 rfl ?_
 exact z0e func36 _ (z1x rfl rfl rfl rfl rfl rfl) ⟨rfl,rfl⟩
theorem zdj:z0q prog 12 [] (.d (strs z2i)):=by
 refine z0y fun H=>?_
 refine z0g func12 (by kernel_rfl) rfl (by simp) ?_
 dsimp only[f12]
 repeat' first|(apply z05;first|refine z0n ?_| (apply z3c;refine z3b (ys:=z2i.map fun x=>[z6o x]) rfl ?_))|(apply z06;first|refine z0m ?_|apply z09)|(apply z07;first|apply z08|apply z00)
 all_goals exact z0e func12 _ z0p ⟨rfl,rfl⟩
theorem zke{c:z10}(hw:Wf c)(g:Lf)(h:zsw g)(b e:Int)(ls:List Int){i j:Int}(hx:z0q prog 69 [.d (strs z2i),z9m b e ls,S g.a] (I .i64 i))(hy:g.op≠10→z0q prog 69 [.d (strs z2i),z9m b e ls,S g.b] (I .i64 j))(hi:token c i=true)(hj:token c j=true)(hc:c.nodes.length≤1000000) :
 z0q prog 32 [c.d,g.d,.d (strs z2i),z9m b e ls] (B (zky c g i j)):=by
 have htok:=hw.tok
 have hul:=z9w c i
 have ti:=(z2p c i).1 hi
 have tj:=(z2p c j).1 hj
 have hop:=h.op
 refine z0y fun H=>?_
 refine z0g func32 (by kernel_rfl) rfl (by simp) ?_
 dsimp only[f32]
 by_cases h10:g.op=10
 ·repeat' (first|(apply z05;first|refine z0n ?_| (apply z0a;first|refine z02 z1r rfl rfl ?_| refine z02 z16 rfl rfl ?_)|(apply z0c;refine z02 z0i rfl rfl ?_)|(apply z0s;refine z02 (z0w rfl) rfl rfl ?_)|(apply z0j;first|refine z29 hx ?_| refine z29 (zoi hw hi) ?_)|(apply z0f;refine z25 ?_)|(apply z0l;refine z0b z2e ?_)|(apply z18;refine z0b z43 ?_)|refine z4x rfl rfl (by decide) ?_)|(apply z06;first|refine z0m ?_|apply z09|refine z1g ?_| refine z1p (fun _=>?_) fun _=>?_)|(apply z07;first|apply z08|apply z00|apply z04|apply z01|apply z2o|apply z03|refine z0h (fun _=>?_) fun _=>?_)|(apply z2m;first|refine z2w ?_| (apply z0v;first|refine z0x z1r rfl rfl ?_| refine z0x z16 rfl rfl ?_)|(apply z0u;refine z0x z0i rfl rfl ?_)))
  all_goals try omega
  all_goals
   refine z0e func32 _ z0p ⟨?_,rfl⟩
   rw[zky,zAz h10]
   exact zD77
 ·have hrel:=zj9 hw g h.hl j hi hc (by omega)
  repeat' first|(apply z05;first|refine z0n ?_| (apply z0a;first|refine z02 z1r rfl rfl ?_| refine z02 z16 rfl rfl ?_)|(apply z0c;refine z02 z0i rfl rfl ?_)|(apply z0j;first|refine z29 hx ?_| refine z29 (hy h10) ?_| refine z29 hrel ?_)|(apply z0f;refine z25 ?_)|(apply z0l;refine z0b z2e ?_)|(apply z18;refine z0b z43 ?_)|(apply z1n;refine z2y ?_)|refine z4x rfl rfl (by decide) ?_)|(apply z06;first|refine z0m ?_|apply z09|refine z1g ?_| refine z1p (fun _=>?_) fun _=>?_)|(apply z07;first|apply z08|apply z00|apply z04|apply z01|apply z2o|apply z03|refine z0h (fun _=>?_) fun _=>?_)|(apply z2m;first|refine z2w ?_| (apply z0v;first|refine z0x z1r rfl rfl ?_| refine z0x z16 rfl rfl ?_)|(apply z0u;refine z0x z0i rfl rfl ?_))
  all_goals try omega
  all_goals
   refine z0e func32 _ z0p ⟨?_,rfl⟩
   rw[zky,zAy h10]
theorem zas{c:z10}(hw:Wf c)(g:Lf)(h:zsw g)(b e:Int)(ls:List Int){i j:Int}(hx:z0q prog 69 [.d (strs z2i),z9m b e ls,S g.a] (I .i64 i))(hy:g.op≠10→z0q prog 69 [.d (strs z2i),z9m b e ls,S g.b] (I .i64 j))(hi:token c i=true)(hj:token c j=true)(hc:c.nodes.length≤1000000)(hll:ls.length=2)(hin:∀t∈ls,-1≤t∧t<c.tokens.length) :
 z0q prog 14 [c.d,g.d,.d (strs z2i),z9m b e ls] (B (zky c g i j)):=by
 have htok:=hw.tok
 have ti:=(z2p c i).1 hi
 have tj:=(z2p c j).1 hj
 have hf:=zw3 c z2i b e ls (by omega) (by omega) (by decide) hll
 have hf':z0q prog 31 [c.d,.d (strs z2i),z9m b e ls] (B true):=by
  exact zD70
 refine z0y fun H=>?_
 refine z0g func14 (by kernel_rfl) rfl (by simp) ?_
 dsimp only[f14]
 repeat' first|(apply z05;first|refine z0n ?_| (apply z0a;refine z02 z1r rfl rfl ?_)|(apply z0j;first|refine z29 (y0c g h) ?_| refine z29 (znx c g h) ?_| refine z29 hf' ?_| refine z29 (zke hw g h b e ls hx hy hi hj hc) ?_)|(apply z18;refine z0b z43 ?_))|(apply z06;first|refine z0m ?_|apply z09)|(apply z07;first|apply z08|apply z00)
 all_goals first
  | exact z0e func14 _ z0p ⟨rfl,rfl⟩
  | (exfalso;simp_all;done)
end Go.Proofs.YtonhfccmeammbaaGreatDoor
namespace Go.Proofs.YtonhfccmeammbaaGreatDoor
open Go.Ab
set_option maxHeartbeats 20000000
attribute [local irreducible] Run Ops Op1 z1z Val Tr z0q z1v NF Rel
abbrev eS:Str:=⟨#[]⟩
abbrev gcs(op:Int)(a b name arg val:Str)(fold:Bool)(mn mx:Int)(args:List Str)(kids:List (List D)):List D :=
 [z2g op,z6o a,z6o b,z6o name,z6o arg,z6o val,zji fold,z2g mn,z2g mx,strs args,.slice kids]
structure Lq where
 op:Int
 a:Str
 b:Str
 name:Str
 arg:Str
 val:Str
 fold:Bool
 mn:Int
 mx:Int
 args:List Str
inductive Cn where
 | leaf (g:Lq)
 | not (x:Cn)
 | bin (o:Int) (x y:Cn)
def Cn.top:Cn→Lq
 | .leaf g=>g
 | .not _=>⟨11,eS,eS,eS,eS,eS,false,0,0,[]⟩
 | .bin o _ _=>⟨o,eS,eS,eS,eS,eS,false,0,0,[]⟩
abbrev qcs(g:Lq)(kids:List (List D)):List D:=gcs g.op g.a g.b g.name g.arg g.val g.fold g.mn g.mx g.args kids
def Cn.kd:Cn→List (List D)
 | .leaf _=>[]
 | .not x=>[qcs x.top x.kd]
 | .bin _ x y=>[qcs x.top x.kd,qcs y.top y.kd]
abbrev Cn.cs(x:Cn):List D:=qcs x.top x.kd
abbrev Cn.d(g:Cn):PV:=.d (.agg g.cs)
def Cn.kids:Cn→List Cn
 | .leaf _=>[]
 | .not x=>[x]
 | .bin _ x y=>[x,y]
theorem Cn.kd_eq(x:Cn):x.kd=x.kids.map Cn.cs:=by cases x <;> rfl
theorem Cn.ind{P:Cn→Prop}(h:∀x,(∀k∈x.kids,P k)→P x):∀x,P x
 | .leaf g=>h _ (by simp[kids])
 | .not x=>h _ (by have:=Cn.ind h x;simpa[kids]using this)
 | .bin o x y=>h _ (by have h1:=Cn.ind h x;have h2:=Cn.ind h y;intro k hk;simp only[kids,zAc,List.not_mem_nil,or_false]at hk;rcases hk with rfl|rfl <;> assumption)
def Cn.size:Cn→Nat
 | .leaf _=>1
 | .not x=>x.size+1
 | .bin _ x y=>x.size+y.size+1
def Cn.high:Cn→Nat
 | .leaf _=>1
 | .not x=>x.high+1
 | .bin _ x y=>max x.high y.high+1
def zan:Str:=⟨#[119,111,114,100]⟩
def y48:Str:=⟨#[116,97,103]⟩
def zbm:List Str:=[⟨#[97]⟩,⟨#[98,124,99]⟩,⟨#[46]⟩]
structure zho(labs:List Str)(g:Lq):Prop where
 op:1≤g.op∧g.op≤10
 la:g.a∈labs
 hb:g.op=1∨g.op=2∨g.op=10→g.b=eS
 lb:¬(g.op=1∨g.op=2∨g.op=10)→g.b∈labs
 hname:¬(g.op=2∨g.op=3∨g.op=5∨g.op=9)→g.name=eS
 harg:g.op≠3→g.arg=eS
 hval:g.op≠2→g.val=eS∧g.fold=false
 hnum:¬(g.op=4∨g.op=10)→g.mn=0∧g.mx=0
 hargs:g.op≠8→g.args=[]
 n2:g.op=2→g.name=zan∧g.val∈zbm
 n3:g.op=3→g.name=zan∧(g.arg=zan∨g.arg=y48)
 bd:-10≤g.mn∧g.mn≤10∧-10≤g.mx∧g.mx≤10
 al:g.args.length≤10
def zau(labs:List Str):Cn→Prop
 | .leaf g=>zho labs g
 | .not x=>zau labs x
 | .bin o x y=>(o=12∨o=13)∧zau labs x∧zau labs y
theorem zau.kid{labs:List Str}{x k:Cn}(h:zau labs x)(hk:k∈x.kids):zau labs k:=by
 cases x with
 | leaf g=>simp[Cn.kids]at hk
 | not y=>simp only[Cn.kids,zAc,List.not_mem_nil,or_false]at hk;subst hk;exact h
 | bin o y z =>
  simp only[Cn.kids,zAc,List.not_mem_nil,or_false]at hk
  rcases hk with rfl|rfl
  ·exact h.2.1
  ·exact h.2.2
theorem zau.op0{labs:List Str}{x:Cn}(h:zau labs x):1≤x.top.op∧x.top.op≤13:=by
 cases x with
 | leaf g=>have:=h.op;simp only[Cn.top];omega
 | not y=>simp[Cn.top]
 | bin o y z=>have:=h.1;simp only[Cn.top];omega
def shB(bs:List (Nm × Blk)):List (Nm × Blk):=bs.map fun q=>((q.1.1+1,q.1.2),q.2)
theorem zzp{n:Nat}{tm:List (Nat × PV)}{hp:Hp}{H:Hf}:∀ {bs:List (Nm × Blk)},(∀q∈bs,H q.1.1 q.1.2=some q.2)→BkE ⟨n,tm,hp,H⟩ (shB bs)
 | [],_=>z8m
 | q::bs,h=>z2j (m:=(q.1.1+1,q.1.2)) (h q (by simp)) (zzp fun q hq=>h q (by simp[hq]))
theorem zxg{cf:FuncId}(cap:List PV)(bs:List (Nm × Blk))(p:Cn→Bool)(xs:List Cn)(hl:xs.length≤1000000)(hcl:∀x∈xs,z1v prog cf (.d (.agg x.cs)::PV.liftL 1 cap) (shB bs) [] (B (p x))) :
 z1v prog 91 [.d (.slice (xs.map Cn.cs)),.fn (.func cf) [] cap] bs [] (I .i64 (z5a p xs 0)):=by
 refine z2a fun H hH=>?_
 refine z0g func91 (by kernel_rfl) rfl (by simp) ?_
 dsimp only[f91]
 repeat' first|(apply z05;first|refine z0n ?_| (apply z0s;refine z02 (z0w rfl) rfl rfl ?_))|(apply z06;first|refine z0m ?_|apply z09)|(apply z07;first|apply z08|apply z00|apply z01)
 refine z0r ?_
 refine z0d (z1o (fun q:Nat=>⟨19,[(0,.d (.slice (xs.map Cn.cs))),(1,.fn (.func cf) [] (PV.liftL 1 cap)),(7,I .i64 xs.length),(8,I .i64 (q:Nat))],[],H⟩) (fun q=>q≤xs.length∧z5a p (xs.drop q) q=z5a p xs 0) (fun q=>xs.length-q) ?_ 0 ⟨zAf _,rfl⟩) rfl rfl
 intro k ⟨hk,hi⟩ ih
 by_cases hlt:k<xs.length
 ·obtain⟨x,hx⟩:∃x,xs[k]? =some x:=⟨_,zA0 hlt⟩
  have hm:=zA2 hx
  rw[z3d hx,z5a]at hi
  repeat' first|(apply z05;first|refine z0n ?_| (apply z0a;refine z02 z1w rfl rfl ?_)|(apply z0k;refine z02 (z1a rfl (idx hx)) rfl rfl ?_)|(apply z0t;refine z02 (z0z z1h) rfl rfl ?_)|(apply z0j;refine zkx (first:=[]) (cap:=PV.liftL 1 cap) (ps:=[.d (.agg x.cs)]) (bs:=shB bs) (hcl x hm) rfl rfl (zzp hH) (by decide) ?_))|(apply z06;first|refine z0m ?_|apply z09)|(apply z07;first|apply z08|apply z00|apply z04|apply z01|apply z03|refine z0h (fun _=>?_) (fun _=>?_)| refine z2q rfl (fun _=>?_) (fun _=>?_)|refine z0o ?_)
  all_goals try omega
  all_goals first
   | (refine z0e func91 _ z0p ⟨?_,rfl⟩;rw[←hi,zAz (by assumption)])
   | exact z0d (ih (k+1) ⟨by omega,by rw[←hi,zAy (by simp_all)]⟩ (by omega)) rfl rfl
 ·obtain rfl:k=xs.length:=by omega
  rw[zAs,z5a]at hi
  repeat' first|(apply z05;refine z0n ?_)|(apply z06;first|refine z0m ?_|apply z09)|(apply z07;first|apply z08|apply z00|apply z04|apply z01|refine z0h (fun _=>?_) (fun _=>?_)| refine z0o ?_)
  all_goals try omega
  all_goals exact z0e func91 _ z0p ⟨by rw[←hi],rfl⟩
theorem zgv{cf:FuncId}(cap:List PV)(bs:List (Nm × Blk))(p:Cn→Bool)(xs:List Cn)(hl:xs.length≤1000000)(hcl:∀x∈xs,z1v prog cf (.d (.agg x.cs)::PV.liftL 1 (PV.liftL 1 cap)) (shB (shB bs)) [] (B (p x))) :
 z1v prog 63 [.d (.slice (xs.map Cn.cs)),.fn (.func cf) [] cap] bs [] (B (xs.any p)):=by
 refine z2a fun H hH=>?_
 refine z0g func63 (by kernel_rfl) rfl (by simp) ?_
 dsimp only[f63]
 repeat' first|(apply z05;first|refine z0n ?_| (apply z0j;refine z4g (zxg (PV.liftL 1 cap) (shB bs) p xs hl hcl) rfl (zzp hH) (by decide) ?_))|(apply z06;first|refine z0m ?_|apply z09)|(apply z07;first|apply z08|apply z00)
 all_goals exact z0e func63 _ z0p ⟨by rw[←z8c p xs 0],rfl⟩
theorem zxa{labs:List Str}(x:Cn)(h:zau labs x):z0q prog 57 [x.d] (B false):=by
 have:=h.op0
 refine z0y fun H=>?_
 refine z0g func57 (by kernel_rfl) rfl (by simp) ?_
 dsimp only[f57]
 repeat' first|(apply z05;first|refine z0n ?_| (apply z0a;refine z02 z16 rfl rfl ?_)|(apply z0c;refine z02 z0i rfl rfl ?_)|(apply z0s;first|refine z02 (z0w rfl) rfl rfl ?_| refine z02 (z4a rfl) rfl rfl ?_)|(apply z18;refine z0b z1m ?_))|(apply z06;first|refine z0m ?_|apply z09|refine z1g ?_| refine z1p (fun _=>?_) (fun _=>?_)| refine zci rfl rfl (fun _=>?_) fun _=>?_)|(apply z07;first|apply z08|apply z00)
 all_goals first
  | omega
  | exact z0e func57 _ z0p ⟨rfl,rfl⟩
theorem Cn.size_pos(x:Cn):1≤x.size∧1≤x.high:=by cases x <;> simp[size,high]
theorem zvg{a b c d:Int}(h:a=b)(h':c=d):RV.v (.tup [I .i64 a,I .i64 c])=RV.v (.tup [I .i64 b,I .i64 d]):=by subst h;subst h';rfl
theorem z9b:∀(x:Cn) (n d:Int),0≤n→n+x.size≤60→0≤d→d+x.high≤1000→z0q prog 58 [x.d,I .i64 n,I .i64 d] (.tup [I .i64 (n+x.size),I .i64 (d+x.high-1)])
 | .leaf g,n,d,h1,h2,h3,h4=>by
  simp only[Cn.size,Cn.high]at h1 h2 h3 h4⊢
  refine z0y fun H=>?_
  refine z0g func58 (by kernel_rfl) rfl (by simp) ?_
  dsimp only[f58]
  repeat' first|(apply z05;first|refine z0n ?_| (apply z0a;refine z02 z16 rfl rfl ?_)|(apply z0c;refine z02 z0i rfl rfl ?_)|(apply z0t;refine z02 (z0z z1h) rfl rfl ?_)|(apply z0s;refine z02 (z4a rfl) rfl rfl ?_)|(apply z18;refine z0b z1m ?_))|(apply z06;first|refine z0m ?_|apply z09)|(apply z07;first|apply z08|apply z00|apply z01)
  refine z0r ?_
  refine z1u ?_
  repeat' first|(apply z05;refine z0n ?_)|(apply z06;first|refine z0m ?_|apply z09)|(apply z07;first|apply z08|apply z00|refine z15 ?_| refine z0o ?_)
  all_goals try omega
  all_goals exact z0e func58 _ z2s ⟨by rw[show d+((1:Nat):Int)-1=d by omega];rfl,rfl⟩
 | .not y,n,d,h1,h2,h3,h4=>by
  have ih:=z9b y (n+1) (d+1)
  have hp:=y.size_pos
  simp only[Cn.size,Cn.high]at h1 h2 h3 h4 ih⊢
  have ih:=ih (by omega) (by omega) (by omega) (by omega)
  have hlen:([y.cs]:List (List D)).length=1:=rfl
  rw[show(Cn.not y).d=.d (.agg (gcs 11 eS eS eS eS eS false 0 0 [] [y.cs]))from rfl]
  refine z0y fun H=>?_
  refine z0g func58 (by kernel_rfl) rfl (by simp) ?_
  dsimp only[f58]
  repeat' first|(apply z05;first|refine z0n ?_| (apply z0a;refine z02 z16 rfl rfl ?_)|(apply z0c;refine z02 z0i rfl rfl ?_)|(apply z0t;refine z02 (z0z z1h) rfl rfl ?_)|(apply z0s;refine z02 (z4a rfl) rfl rfl ?_)|(apply z18;refine z0b z1m ?_))|(apply z06;first|refine z0m ?_|apply z09)|(apply z07;first|apply z08|apply z00|apply z01)
  refine z0r ?_
  refine z1u ?_
  repeat' first|(apply z05;first|refine z0n ?_| (apply z0a;first|refine z02 z1w rfl rfl ?_| refine z02 z1y rfl rfl ?_)|(apply z0k;refine z02 (z5h (u:=y.cs) rfl) rfl rfl ?_)|(apply z0t;refine z02 (z0z z1h) rfl rfl ?_)|(apply z0s;refine z02 z84 rfl rfl ?_)|(apply z0j;refine z29 ih ?_)|(apply z0f;refine z25 ?_)|(apply z0l;refine z0b z2e ?_))|(apply z06;first|refine z0m ?_|apply z09)|(apply z07;first|apply z08|apply z00|refine z1j ?_| apply z04|apply z01|apply z03|refine z0h (fun _=>?_) (fun _=>?_)| refine z0o ?_)
  all_goals try omega
  exact zD52
 | .bin o y z,n,d,h1,h2,h3,h4=>by
  have ih:=z9b y (n+1) (d+1)
  have ih2:=z9b z (n+1+y.size) (d+1)
  have hp:=y.size_pos
  have hp2:=z.size_pos
  simp only[Cn.size,Cn.high]at h1 h2 h3 h4 ih ih2⊢
  have ih:=ih (by omega) (by omega) (by omega) (by omega)
  have ih2:=ih2 (by omega) (by omega) (by omega) (by omega)
  have hlen:([y.cs,z.cs]:List (List D)).length=2:=rfl
  rw[show(Cn.bin o y z).d=.d (.agg (gcs o eS eS eS eS eS false 0 0 [] [y.cs,z.cs]))from rfl]
  refine z0y fun H=>?_
  refine z0g func58 (by kernel_rfl) rfl (by simp) ?_
  dsimp only[f58]
  repeat' first|(apply z05;first|refine z0n ?_| (apply z0a;refine z02 z16 rfl rfl ?_)|(apply z0c;refine z02 z0i rfl rfl ?_)|(apply z0t;refine z02 (z0z z1h) rfl rfl ?_)|(apply z0s;refine z02 (z4a rfl) rfl rfl ?_)|(apply z18;refine z0b z1m ?_))|(apply z06;first|refine z0m ?_|apply z09)|(apply z07;first|apply z08|apply z00|apply z01)
  refine z0r ?_
  refine z1u ?_
  repeat' first|(apply z05;first|refine z0n ?_| (apply z0a;first|refine z02 z1w rfl rfl ?_| refine z02 z1y rfl rfl ?_)|(apply z0k;refine z02 (z5h (u:=y.cs) rfl) rfl rfl ?_)|(apply z0t;refine z02 (z0z z1h) rfl rfl ?_)|(apply z0s;refine z02 z84 rfl rfl ?_)|(apply z0j;refine z29 ih ?_)|(apply z0f;refine z25 ?_)|(apply z0l;refine z0b z2e ?_))|(apply z06;first|refine z0m ?_|apply z09)|(apply z07;first|apply z08|apply z00|refine z1j ?_| apply z04|apply z01|apply z03|refine z0h (fun _=>?_) (fun _=>?_)| refine z0o ?_)
  all_goals try omega
  refine z0d (tm':=[(1,I .i64 (n+1+y.size)),(2,I .i64 d),(8,I .i64 (max d (d+1+y.high-1))),(17,.d (.slice [y.cs,z.cs])),(18,I .i64 ([y.cs,z.cs]:List (List D)).length),(19,I .i64 (0+1))]) (hp':=[(3,.box ((gcs o eS eS eS eS eS false 0 0 [] [y.cs,z.cs]).map .d))]) ?_ rfl rfl
  refine z1u ?_
  repeat' first|(apply z05;first|refine z0n ?_| (apply z0a;first|refine z02 z1w rfl rfl ?_| refine z02 z1y rfl rfl ?_)|(apply z0k;refine z02 (z5h (u:=z.cs) rfl) rfl rfl ?_)|(apply z0t;refine z02 (z0z z1h) rfl rfl ?_)|(apply z0s;refine z02 z84 rfl rfl ?_)|(apply z0j;refine z29 ih2 ?_)|(apply z0f;refine z25 ?_)|(apply z0l;refine z0b z2e ?_))|(apply z06;first|refine z0m ?_|apply z09)|(apply z07;first|apply z08|apply z00|refine z1j ?_| apply z04|apply z01|apply z03|refine z0h (fun _=>?_) (fun _=>?_)| refine z0o ?_)
  all_goals try omega
  exact zD52
attribute [local irreducible] z4v z2b
def wtL:List Str:=[zan,y48]
def y4m:List Str:=[⟨#[111,98,106]⟩,⟨#[100,101,116]⟩,⟨#[]⟩]
def y6g:List Str:=[⟨#[83]⟩,⟨#[78,80]⟩,⟨#[86,80]⟩]
section
variable{labs:List Str}{a b:Str}(ma:a∈labs)(mb:b∈labs)
include ma
theorem q1:zho labs ⟨1,a,eS,eS,eS,eS,false,0,0,[]⟩:=by constructor <;> simp_all
theorem q2{v:Str}(hv:v∈zbm)(f:Bool):zho labs ⟨2,a,eS,zan,eS,v,f,0,0,[]⟩:=by constructor <;> simp_all
theorem q10{n m:Int}(h:-10≤n∧n≤10∧-10≤m∧m≤10):zho labs ⟨10,a,eS,eS,eS,eS,false,n,m,[]⟩:=by constructor <;> simp_all
include mb
theorem q3{v:Str}(hv:v∈wtL):zho labs ⟨3,a,b,zan,v,eS,false,0,0,[]⟩:=by constructor <;> simp_all [wtL]
theorem q4{n m:Int}(h:-10≤n∧n≤10∧-10≤m∧m≤10):zho labs ⟨4,a,b,eS,eS,eS,false,n,m,[]⟩:=by constructor <;> simp_all
theorem q5(t:Str):zho labs ⟨5,a,b,t,eS,eS,false,0,0,[]⟩:=by constructor <;> simp_all
theorem q6:zho labs ⟨6,a,b,eS,eS,eS,false,0,0,[]⟩:=by constructor <;> simp_all
theorem q7:zho labs ⟨7,a,b,eS,eS,eS,false,0,0,[]⟩:=by constructor <;> simp_all
theorem q8{l:List Str}(h:l.length≤10):zho labs ⟨8,a,b,eS,eS,eS,false,0,0,l⟩:=by constructor <;> simp_all
theorem q9(t:Str):zho labs ⟨9,a,b,t,eS,eS,false,0,0,[]⟩:=by constructor <;> simp_all
end
theorem zch(l:List Int)(labs:List Str)(hl:l.length≤120)(hn:0<labs.length∧labs.length≤1000):∀(dp:Nat) (k:Nat),dp≤10→k≤120 →
 Rel prog 11 [.ptr (0,501) 0,I .i64 (dp:Nat),.d (strs labs)] [((0,501),z2u l k)]
  (fun x:Cn × Nat=>zau labs x.1∧x.1.high≤dp+1∧x.2≤120) (fun x=>x.1.d) (fun x=>[((0,501),z2u l x.2)]):=by
 intro dp
 induction dp using Nat.strongRecOn with
 | ind dp ihd =>
  intro k hd hk
  refine zfd fun H hH=>?_
  have hH0:=hH ((0,501),z2u l k) (by simp)
  refine z0g func11 (by kernel_rfl) rfl (by simp) ?_
  dsimp only[f11]
  refine z57 501 0 501 hH0 rfl rfl ?_
  refine z0d (tm':=[(0,.ptr (0,501) 0),(1,I .i64 (dp:Nat)),(2,.d (strs labs)),(100501,.al (0,501) (1,501))]) (hp':=[(501,z2u l k)]) ?_ rfl rfl
  have nb1:0≤z4v l (z2b l k) labs.length∧z4v l (z2b l k) labs.length<labs.length:=⟨tn0 (by omega),tn1 (by omega)⟩
  have nb2:0≤z4v l (z2b l (z2b l k)) labs.length∧z4v l (z2b l (z2b l k)) labs.length<labs.length:=⟨tn0 (by omega),tn1 (by omega)⟩
  have hA:=z3z (l:=labs) nb1.1 nb1.2
  have hB:=z3z (l:=labs) nb2.1 nb2.2
  generalize atL labs (z4v l (z2b l k) labs.length)=a at hA
  generalize atL labs (z4v l (z2b l (z2b l k)) labs.length)=b at hB
  have ma:=zA2 hA
  have mb:=zA2 hB
  have e0:=z3z (l:=zbm) (i:=z4v l (z2b l (z2b l (z2b l k))) 3) (tn0 (by decide)) (Int.lt_of_lt_of_le (tn1 (by decide)) (by decide))
  have w0:=z3z (l:=wtL) (i:=z4v l (z2b l (z2b l (z2b l k))) 2) (tn0 (by decide)) (Int.lt_of_lt_of_le (tn1 (by decide)) (by decide))
  have n0:=z3z (l:=y6g) (i:=z4v l (z2b l (z2b l (z2b l k))) 3) (tn0 (by decide)) (Int.lt_of_lt_of_le (tn1 (by decide)) (by decide))
  have ih:1≤dp→∀k,k≤120→Rel prog 11 [.ptr (0,501) 0,I .i64 ((dp:Int)-1),.d (strs labs)] [((0,501),z2u l k)]
   (fun x:Cn × Nat=>zau labs x.1∧x.1.high≤dp∧x.2≤120) (fun x=>x.1.d) (fun x=>[((0,501),z2u l x.2)]):=fun h1 k hk=>by
   have:=ihd (dp-1) (by omega) k (by omega) hk
   rw[show((dp-1:Nat):Int)=(dp:Int)-1 by omega,show dp-1+1=dp by omega]at this
   exact this
  clear ihd
  repeat' first|(apply z05;first|refine z0n ?_| (apply z0a;refine z02 z2f rfl rfl ?_)|(apply z0k;first|refine z02 (z3k rfl (tn0 (by decide)) (z6h w0) rfl) rfl rfl ?_| refine z02 (z3k rfl (tn0 (by decide)) (z6h n0) rfl) rfl rfl ?_)|(apply z0t;first|refine z02 (zqb (by omega) (by omega)) rfl rfl ?_| refine z02 (z0z z1h) rfl rfl ?_| refine z02 (z2l z1h) rfl rfl ?_)|(apply z0j;first|(refine z6f (ih (by omega) _ (by assumption)) rfl rfl (by decide) ?_;rintro⟨x,k1⟩ ⟨hx1,hx2,hx3⟩;simp only at hx1 hx2 hx3⊢)|(refine zt3 hl rfl rfl (by decide) (by omega) (by assumption) fun _ _ _=>?_)|refine z29 (zwm _) ?_)|(apply z0f;refine z25 ?_)|(apply z0l;refine z0b z2e ?_)|(apply z1n;refine zd1 rfl rfl rfl rfl rfl rfl (by decide) ?_)|(apply z3c;first|refine z3b (ys:=y6g.map fun x=>[z6o x]) rfl ?_| refine z3b (ys:=wtL.map fun x=>[z6o x]) rfl ?_| refine z3b (ys:=[Cn.cs _,Cn.cs _]) rfl ?_| refine z3b (ys:=[Cn.cs _]) rfl ?_))|(apply z06;first|refine z0m ?_|apply z09)|(apply z07;first|apply z08|apply z00|apply z04|apply z01|apply z2o|apply z03|refine z0h (fun _=>?_) fun _=>?_)|(apply z2m;first|(apply z1e;refine z2c mix ?_)|refine z2w ?_| (apply z0v;refine z0x z2f rfl rfl ?_)|(apply z1i;first|refine z0x (z3k rfl nb1.1 (z6h hA) rfl) rfl rfl ?_| refine z0x (z3k rfl nb2.1 (z6h hB) rfl) rfl rfl ?_| refine z0x (z3k rfl (tn0 (by decide)) (z6h e0) rfl) rfl rfl ?_)|(apply z3v;refine z0x (z0w rfl) rfl rfl ?_)|(apply z1s;refine y0x hl (by first|exact rfl|exact⟨_,rfl,rfl,rfl⟩) rfl rfl (by decide) (by omega) (by assumption) fun _ _ _=>?_)|(apply z2r;refine z6i (by first|exact rfl|exact⟨_,rfl,rfl,rfl⟩) rfl rfl rfl rfl rfl rfl ?_)|(apply zap;refine zds (by first|exact rfl|exact⟨_,rfl,rfl,rfl⟩) rfl rfl rfl rfl rfl rfl rfl (by decide) ?_)|(apply z6y;refine z7w (ys:=zbm.map fun x=>[z6o x]) rfl ?_))
  all_goals try omega
  all_goals try (
   refine z3s 501 0 501 (raw:=z2u l _) rfl rfl rfl rfl rfl ?_
   first
    | exact z0e func11 _ (z1x rfl rfl rfl rfl rfl rfl) ⟨(.leaf _,_),⟨q1 ma,by simp[Cn.high],by assumption⟩,rfl,z3g _ _ _ _⟩
    | exact z0e func11 _ (z1x rfl rfl rfl rfl rfl rfl) ⟨(.leaf _,_),⟨q2 ma (zA2 e0) _,by simp[Cn.high],by assumption⟩,rfl,z3g _ _ _ _⟩
    | exact z0e func11 _ (z1x rfl rfl rfl rfl rfl rfl) ⟨(.leaf _,_),⟨q3 ma mb (zA2 w0),by simp[Cn.high],by assumption⟩,rfl,z3g _ _ _ _⟩
    | exact z0e func11 _ (z1x rfl rfl rfl rfl rfl rfl) ⟨(.leaf _,_),⟨q4 ma mb (by omega),by simp[Cn.high],by assumption⟩,rfl,z3g _ _ _ _⟩
    | exact z0e func11 _ (z1x rfl rfl rfl rfl rfl rfl) ⟨(.leaf _,_),⟨q5 ma mb _,by simp[Cn.high],by assumption⟩,rfl,z3g _ _ _ _⟩
    | exact z0e func11 _ (z1x rfl rfl rfl rfl rfl rfl) ⟨(.leaf _,_),⟨q6 ma mb,by simp[Cn.high],by assumption⟩,rfl,z3g _ _ _ _⟩
    | exact z0e func11 _ (z1x rfl rfl rfl rfl rfl rfl) ⟨(.leaf _,_),⟨q7 ma mb,by simp[Cn.high],by assumption⟩,rfl,z3g _ _ _ _⟩
    | exact z0e func11 _ (z1x rfl rfl rfl rfl rfl rfl) ⟨(.leaf _,_),⟨q9 ma mb _,by simp[Cn.high],by assumption⟩,rfl,z3g _ _ _ _⟩
    | exact z0e func11 _ (z1x rfl rfl rfl rfl rfl rfl) ⟨(.leaf _,_),⟨q10 ma (by omega),by simp[Cn.high],by assumption⟩,rfl,z3g _ _ _ _⟩
    | (refine z0e func11 _ (z1x rfl rfl rfl rfl rfl rfl) ⟨(.not _,_),⟨?_,?_,?_⟩,rfl,z3g _ _ _ _⟩ <;> first|assumption|(simp only[Cn.high];omega))
    | (refine z0e func11 _ (z1x rfl rfl rfl rfl rfl rfl) ⟨(.bin _ _ _,_),⟨⟨by omega,?_,?_⟩,?_,?_⟩,rfl,z3g _ _ _ _⟩ <;> first|assumption|(simp only[Cn.high];omega)))
  all_goals
   refine z4q 11 9 600 9 1 rfl rfl rfl rfl ?_
   refine z0r ?_
   refine z0d (z1o (fun q:Int × List Str × Nat=>⟨159,[(0,.ptr (0,501) 0),(6,.ptr (0,6) 0),(11,.ptr (0,11) 0),(12,I .i64 q.1),(100501,.al (0,501) (1,501))],[(600,.row 9 1 (q.2.1.map fun x=>[z6o x])),(501,z2u l q.2.2),(11,.box [I .i64 8,S a,S b,S eS,S eS,S eS,B false,I .i64 0,I .i64 0,.ref (0,600),.d (.lit z1t)]),(6,.box [I .i64 0,S eS,S eS,S eS,S eS,S eS,B false,I .i64 0,I .i64 0,.d (.lit z1t),.d (.lit z1t)])],upd H (0,501) .gone⟩)
    (fun q=>0≤q.1∧(q.2.1.length:Int)+q.1≤3∧q.2.2≤120) (fun q=>q.1.toNat) ?_ (_,[],_) ⟨by assumption,by simp only[List.length_nil];omega,by assumption⟩) rfl rfl
   intro⟨m,ls,kt⟩ ⟨h1,h2,h3⟩ ih2
   simp only at h1 h2 h3 ih2⊢
   have p0:=z3z (l:=y4m) (i:=z4v l kt 3) (tn0 (by decide)) (Int.lt_of_lt_of_le (tn1 (by decide)) (by decide))
   by_cases hm0:0<m
   ·repeat' (first|(apply z05;first|refine z0n ?_| (apply z0t;refine z02 (z2l z1h) rfl rfl ?_))|(apply z06;first|refine z0m ?_|apply z09)|(apply z07;first|apply z08|apply z00|apply z04|apply z01|apply z2o|apply z03|refine z0h (fun _=>?_) (fun _=>?_)| refine z0o ?_)|(apply z2m;first|(apply z1e;refine z2c mix ?_)|refine z2w ?_| (apply z0v;first|refine z0x z16 rfl rfl ?_| refine z0x z2f rfl rfl ?_)|(apply z0u;refine z0x z0i rfl rfl ?_)|(apply z1i;refine z0x (z3k rfl (tn0 (by decide)) (z6h p0) rfl) rfl rfl ?_)|(apply z3v;refine zao (by first|exact rfl|exact⟨_,rfl,rfl,rfl⟩) rfl rfl _ rfl rfl rfl rfl rfl rfl rfl (by decide) (by omega) ?_)|(apply z1s;refine y0x hl (by first|exact rfl|exact⟨_,rfl,rfl,rfl⟩) rfl rfl (by decide) (by omega) (by assumption) fun _ _ _=>?_)|(apply z2r;refine z5w (by first|exact rfl|exact⟨_,rfl,rfl,rfl⟩) rfl rfl rfl rfl rfl ?_)|(apply z6y;first|refine z7w (ys:=y4m.map fun x=>[z6o x]) rfl ?_| refine z7w rfl ?_)))
    all_goals try omega
    refine z4n 111 600 rfl rfl ?_
    exact z0d (ih2 (m-1,ls++[atL y4m (z4v l kt 3)],z2b l kt) ⟨by simp only;omega,by simp only[zAa,zAn];omega,by assumption⟩ (by simp only;omega)) rfl rfl
   ·refine z1f 600 rfl ?_
    repeat' first|(apply z05;first|refine z0n ?_| (apply z0a;refine z02 z1y rfl rfl ?_)|(apply z0f;refine z25 ?_))|(apply z06;first|refine z0m ?_|apply z09)|(apply z07;first|apply z08|apply z00|apply z04|apply z01|apply z2o|refine z0h (fun _=>?_) (fun _=>?_)| refine z0o ?_)|(apply z2m;first|refine z2w ?_| (apply z0v;refine z0x z16 rfl rfl ?_)|(apply z0u;refine z0x z0i rfl rfl ?_)|(apply z6y;refine z7w rfl ?_))
    all_goals try omega
    refine z3s 501 0 501 (raw:=z2u l _) rfl rfl rfl rfl rfl ?_
    exact z0e func11 _ (z1x rfl rfl rfl rfl rfl rfl) ⟨(.leaf _,_),⟨q8 ma mb (by omega),by simp[Cn.high],by assumption⟩,rfl,z3g _ _ _ _⟩
end Go.Proofs.YtonhfccmeammbaaGreatDoor
namespace Go.Proofs.YtonhfccmeammbaaGreatDoor
open Go.Ab Go.Rx
set_option maxHeartbeats 20000000
attribute [local irreducible] Run Ops Op1 z1z Val Tr z0q z1v NF Rel
theorem zxt{labs:List Str}:∀(x:Cn),zau labs x→z0q prog 60 [x.d] (B true)
 | .leaf g,h=>by
  refine z0y fun H=>?_
  refine z0g func60 (by kernel_rfl) rfl (by simp) ?_
  dsimp only[f60]
  obtain⟨op,a,b,name,arg,val,fold,mn,mx,args⟩:=g
  obtain⟨h1,-,h3,-,h5,h6,h7,h8,h9,-,-,-,h10⟩:=h
  simp only at h1 h3 h5 h6 h7 h8 h9 h10
  have hop:op=1∨op=2∨op=3∨op=4∨op=5∨op=6∨op=7∨op=8∨op=9∨op=10:=by omega
  rcases hop with rfl|rfl|rfl|rfl|rfl|rfl|rfl|rfl|rfl|rfl
  all_goals
   first|(have e3:=h3 (by decide);subst e3)|skip
   first|(have e3:=h5 (by decide);subst e3)|skip
   first|(have e3:=h6 (by decide);subst e3)|skip
   first|(have e3:=h7 (by decide);obtain⟨rfl,rfl⟩:=e3)|skip
   first|(have e3:=h8 (by decide);obtain⟨rfl,rfl⟩:=e3)|skip
   first|(have e3:=h9 (by decide);subst e3)|skip
   clear h1 h3 h5 h6 h7 h8 h9
   rw[show ∀o a b n g v f i j r,(Cn.leaf ⟨o,a,b,n,g,v,f,i,j,r⟩).d=.d (.agg (gcs o a b n g v f i j r []))from fun _ _ _ _ _ _ _ _ _ _=>rfl]
   repeat' first|(apply z05;first|refine z0n ?_| (apply z0a;refine z02 z16 rfl rfl ?_)|(apply z0c;refine z02 z0i rfl rfl ?_)|(apply z0t;refine z02 (z9z rfl) rfl rfl ?_)|(apply z0s;first|refine z02 (zdx rfl) rfl rfl ?_| refine z02 (z0w rfl) rfl rfl ?_| refine z02 (z4a rfl) rfl rfl ?_)|(apply z0f;refine z25 ?_)|(apply z0l;refine z0b z2e ?_)|(apply z18;refine z0b z1m ?_)|(apply z1n;refine z2y ?_))|(apply z06;first|refine z0m ?_|apply z09|refine z1g ?_| refine z1p (fun _=>?_) fun _=>?_)|(apply z07;first|apply z08|apply z00|refine z1j ?_| refine z15 ?_| apply z04|apply z01|apply z2o|apply z03)|(apply z2m;first|(apply z1e;refine z2c mix ?_)|(apply z0v;refine z0x z16 rfl rfl ?_)|(apply z0u;refine z0x z0i rfl rfl ?_)|(apply z2r;refine z6i (by first|exact rfl|exact⟨_,rfl,rfl,rfl⟩) rfl rfl rfl rfl rfl rfl ?_))
   all_goals exact zD28
 | .not y,h=>by
  refine z0y fun H=>?_
  refine z0g func60 (by kernel_rfl) rfl (by simp) ?_
  dsimp only[f60]
  have hlen:([y.cs]:List (List D)).length=1:=rfl
  rw[show(Cn.not y).d=.d (.agg (gcs 11 eS eS eS eS eS false 0 0 [] [y.cs]))from rfl]
  repeat' first|(apply z05;first|refine z0n ?_| (apply z0a;refine z02 z16 rfl rfl ?_)|(apply z0c;refine z02 z0i rfl rfl ?_)|(apply z0t;refine z02 (z9z rfl) rfl rfl ?_)|(apply z0s;first|refine z02 (zdx rfl) rfl rfl ?_| refine z02 (z0w rfl) rfl rfl ?_| refine z02 (z4a rfl) rfl rfl ?_)|(apply z0f;refine z25 ?_)|(apply z0l;refine z0b z2e ?_)|(apply z18;refine z0b z1m ?_)|(apply z1n;refine z2y ?_))|(apply z06;first|refine z0m ?_|apply z09)|(apply z07;first|apply z08|apply z00|refine z1j ?_| refine z15 ?_| apply z01|apply z03)
  all_goals exact zD28
 | .bin o y z,h=>by
  have ho:=h.1
  refine z0y fun H=>?_
  refine z0g func60 (by kernel_rfl) rfl (by simp) ?_
  dsimp only[f60]
  have hlen:([y.cs,z.cs]:List (List D)).length=2:=rfl
  rw[show(Cn.bin o y z).d=.d (.agg (gcs o eS eS eS eS eS false 0 0 [] [y.cs,z.cs]))from rfl]
  repeat' first|(apply z05;first|refine z0n ?_| (apply z0a;refine z02 z16 rfl rfl ?_)|(apply z0c;refine z02 z0i rfl rfl ?_)|(apply z0t;refine z02 (z9z rfl) rfl rfl ?_)|(apply z0s;first|refine z02 (zdx rfl) rfl rfl ?_| refine z02 (z0w rfl) rfl rfl ?_| refine z02 (z4a rfl) rfl rfl ?_)|(apply z0f;refine z25 ?_)|(apply z0l;refine z0b z2e ?_)|(apply z18;refine z0b z1m ?_)|(apply z1n;refine z2y ?_))|(apply z06;first|refine z0m ?_|apply z09)|(apply z07;first|apply z08|apply z00|apply z04|apply z01|apply z2o|apply z03|refine z0h (fun _=>?_) fun _=>?_)|(apply z2m;first|(apply z1e;refine z2c mix ?_)|(apply z0v;refine z0x z16 rfl rfl ?_)|(apply z0u;refine z0x z0i rfl rfl ?_)|(apply z2r;refine z6i (by first|exact rfl|exact⟨_,rfl,rfl,rfl⟩) rfl rfl rfl rfl rfl rfl ?_))
  all_goals exact zD28
abbrev zit:PV:=.fn (.func 60) [] []
theorem zgn(x:Cn):x.kids.length≤2:=by cases x <;> simp[Cn.kids]
theorem any_false(l:List Cn):l.any (fun _=>false)=false:=by simp
theorem ztv{labs:List Str}:∀(x:Cn),zau labs x→z0q prog 59 [x.d,zit] (B true):=by
 intro x
 induction x using Cn.ind with
 | _ x ih =>
  intro h
  have hc:∀k∈x.kids,z1v prog 87 [.d (.agg k.cs),.ptr (2,3) 0] [((2,3),.box [zit])] [] (B false):=fun k hk=>by
   have i1:=ih k hk (h.kid hk)
   refine z2a fun H hH=>?_
   have hH0:=hH ((2,3),.box [zit]) (by simp)
   refine z0g func87 (by kernel_rfl) rfl (by simp) ?_
   dsimp only[f87]
   repeat' first|(apply z05;first|refine z0n ?_| (apply z0a;first|refine z02 (z16 (b:=.box [zit])) rfl (bk1 hH0) ?_| refine z02 z1r rfl rfl ?_)|(apply z0j;refine z29 i1 ?_)|(apply z18;refine z0b z1m ?_))|(apply z06;first|refine z0m ?_|apply z09)|(apply z07;first|apply z08|apply z00)
   all_goals exact z0e func87 _ z0p ⟨rfl,rfl⟩
  have hk:=zgv (cf:=87) [.ptr (0,3) 0] [((0,3),.box [zit])] (fun _=>false) x.kids (by have:=zgn x;omega) hc
  rw[any_false,←Cn.kd_eq]at hk
  have ha:=zxt x h
  refine z0y fun H=>?_
  refine z0g func59 (by kernel_rfl) rfl (by simp) ?_
  dsimp only[f59]
  repeat' first|(apply z05;first|refine z0n ?_| (apply z0a;first|refine z02 z1r rfl rfl ?_| refine z02 z16 rfl rfl ?_)|(apply z0c;refine z02 z0i rfl rfl ?_)|(apply z0j;first|refine zs4 (first:=[]) (cap:=[]) (ps:=[x.d]) ha rfl rfl (by decide) ?_|refine z4g hk rfl rfl (by decide) ?_)|(apply z18;refine z0b z43 ?_)|refine z4x rfl rfl (by decide) ?_)|(apply z06;first|refine z0m ?_|apply z09)|(apply z07;first|apply z08|apply z00)
  all_goals first
   | exact z0e func59 _ z0p ⟨rfl,rfl⟩
   | (exfalso;simp_all;done)
theorem z94:∀x:Cn,x.size<2 ^ x.high
 | .leaf g=>by simp[Cn.size,Cn.high]
 | .not y=>by have:=z94 y;simp only[Cn.size,Cn.high,Nat.pow_succ];omega
 | .bin o y z=>by
  have h1:=z94 y
  have h2:=z94 z
  have h3:2 ^ y.high≤2 ^ max y.high z.high:=Nat.pow_le_pow_right (by decide) (Nat.le_max_left _ _)
  have h4:2 ^ z.high≤2 ^ max y.high z.high:=Nat.pow_le_pow_right (by decide) (Nat.le_max_right _ _)
  simp only[Cn.size,Cn.high,Nat.pow_succ];omega
theorem zla{labs:List Str}(x:Cn)(h:zau labs x)(hx:x.high≤5):z0q prog 29 [x.d] (B true):=by
 have hs:=z94 x
 have hp:2 ^ x.high≤2 ^ 5:=Nat.pow_le_pow_right (by decide) hx
 have hm:=z9b x 0 1 (by omega) (by omega) (by omega) (by omega)
 have hps:=x.size_pos
 refine z0y fun H=>?_
 refine z0g func29 (by kernel_rfl) rfl (by simp) ?_
 dsimp only[f29]
 repeat' first|(apply z05;first|refine z0n ?_| (apply z0a;refine z02 z1r rfl rfl ?_)|(apply z0j;first|refine z29 (zxa x h) ?_| refine z29 hm ?_| refine z29 (ztv x h) ?_)|(apply z18;refine z0b z1m ?_))|(apply z06;first|refine z0m ?_|apply z09|refine z1g ?_| refine z1p (fun _=>?_) fun _=>?_)|(apply z07;first|apply z08|apply z00|refine z15 ?_| apply z04)
 all_goals first
  | omega
  | exact z0e func29 _ z0p ⟨rfl,rfl⟩
  | (exfalso;simp_all;done)
set_option maxRecDepth 100000
attribute [local irreducible] z5c z5d
def xA:Str:=⟨#[97]⟩
def xB:Str:=⟨#[98,124,99]⟩
def xD:Str:=⟨#[46]⟩
def rA:Rx:=Rx.one 97 97
def rB:Rx:=.mk 3 0 0 [] [Rx.one 98 98,Rx.one 99 99]
def rD:Rx:=.mk 1 0 0 [(0,1114111)] []
theorem y5m:fit rA:=by simp[rA,Rx.one,y63,fit,zud]
theorem y5f:fit rB:=by simp[rB,Rx.one,y63,fit,zud]
theorem y4o:fit rD:=by simp[rD,fit,zud]
section
variable(τ:Tab)
theorem zwn:z1v prog 90 [S xA] (z98 τ 0) [] (.tup [.d (eX rA),I .i64 0,I .i64 0]):=by
 have hX0:(10:Nat)≠700:=by decide
 have hX1:(10:Nat)≠701:=by decide
 have hs:xA.size≤1000000:=by decide
 have h1:=zmi hX0 hX1 τ xA hs 0 1 _ (zk5 hX0 hX1 τ xA hs 0 97 (by decide) (by rfl) (by decide) (by rfl)) (by decide) (-1) (by rfl) (by decide)
 have h3:=zmb hX0 hX1 τ xA hs 0 1 _ (by decide) h1 (by decide) (by decide) 97 (-1) (by rfl) (by decide) (by rfl) (.inl rfl)
 have h4:=y2i hX0 hX1 τ xA hs 0 1 _ (by decide) h3 (by decide) (by rfl)
 exact zgp τ xA (by decide) rA y5m rfl h4 (by rw[show unF 0 (rst xA 0)=[(97,0,1)]from rfl];decide) (by decide)
theorem zwu:z1v prog 90 [S xD] (z98 τ 0) [] (.tup [.d (eX rD),I .i64 0,I .i64 0]):=by
 have hX0:(10:Nat)≠700:=by decide
 have hX1:(10:Nat)≠701:=by decide
 have hs:xD.size≤1000000:=by decide
 have h1:=zmi hX0 hX1 τ xD hs 0 1 _ (y0t hX0 hX1 τ xD hs 0 (by decide) (by rfl)) (by decide) (-1) (by rfl) (by decide)
 have h3:=zmb hX0 hX1 τ xD hs 0 1 _ (by decide) h1 (by decide) (by decide) 46 (-1) (by rfl) (by decide) (by rfl) (.inl rfl)
 have h4:=y2i hX0 hX1 τ xD hs 0 1 _ (by decide) h3 (by decide) (by rfl)
 exact zgp τ xD (by decide) rD y4o rfl h4 (by rw[show unF 0 (rst xD 0)=[(46,0,1)]from rfl];decide) (by decide)
theorem zw4:z1v prog 90 [S xB] (z98 τ 0) [] (.tup [.d (eX rB),I .i64 0,I .i64 0]):=by
 have hX0:(10:Nat)≠700:=by decide
 have hX1:(10:Nat)≠701:=by decide
 have hs:xB.size≤1000000:=by decide
 have h1:=zmi hX0 hX1 τ xB hs 0 1 _ (zk5 hX0 hX1 τ xB hs 0 98 (by decide) (by rfl) (by decide) (by rfl)) (by decide) 124 (by rfl) (by decide)
 have h2:=zmi hX0 hX1 τ xB hs 2 3 _ (zk5 hX0 hX1 τ xB hs 2 99 (by decide) (by rfl) (by decide) (by rfl)) (by decide) (-1) (by rfl) (by decide)
 have h3:=zmb hX0 hX1 τ xB hs 0 1 _ (by decide) h1 (by decide) (by decide) 98 124 (by rfl) (by decide) (by rfl) (.inr rfl)
 have h3':=zmb hX0 hX1 τ xB hs 2 3 _ (by decide) h2 (by decide) (by decide) 99 (-1) (by rfl) (by decide) (by rfl) (.inl rfl)
 have h4:=y67 hX0 hX1 τ xB hs 0 1 3 _ _ (by decide) (by decide) h3 h3' (by decide) (by decide) (by rfl) (by rfl)
 exact zgp τ xB (by decide) rB y5f rfl h4 (by rw[show unF 0 (rst xB 0)=[(98,0,1),(124,1,1),(99,2,1)]from rfl];decide) (by decide)
end
theorem zlk{τ:Tab}{e:Nat}{H:Hf}(h:HT τ e H):upd (upd (upd (upd H (e,700) .gone) (e,701) .gone) (e,701) (.glob 1 τ.o1)) (e,700) (.glob 0 τ.o0)=H:=by
 rw[z3g,zvs _ (by simp:((e,701):Nm)≠(e,700)),z3g,z8o (m:=(e,700)) h.a,z8o (m:=(e,701)) h.b]
theorem y5d(τ:Tab)(v:Str)(hv:v∈zbm)(e:Nat):z1v prog 62 [S v] (z98 τ e) [] (I .i64 0):=by
 have key:∃x,z1v prog 90 [S v] (z98 τ 0) [] (.tup [.d (eX x),I .i64 0,I .i64 0]):=by
  simp only[zbm,zAc,List.not_mem_nil,or_false]at hv
  rcases hv with rfl|rfl|rfl
  ·exact⟨_,zwn τ⟩
  ·exact⟨_,zw4 τ⟩
  ·exact⟨_,zwu τ⟩
 obtain⟨x,hx⟩:=key
 refine z2a fun H hH=>?_
 have hT:HT τ e H:=HT.of (bs:=[]) hH
 refine z0g func62 (by kernel_rfl) rfl (by simp) ?_
 dsimp only[f62]
 refine z57 700 e 700 hT.a rfl rfl ?_
 refine z57 701 e 701 (raw:=.glob 1 τ.o1) ((z92 H (e,700) (e,701) .gone (by simp)).trans hT.b) rfl rfl ?_
 refine z0d (tm':=[(0,S v),(100701,.al (0,701) (e+1,701)),(100700,.al (0,700) (e+1,700))]) (hp':=[(701,.glob 1 τ.o1),(700,.glob 0 τ.o0)]) ?_ rfl rfl
 obtain⟨op,mn,mx,rs,ks⟩:=x
 rw[z7u]at hx
 repeat' first|(apply z05;first|refine z0n ?_| (apply z0j;refine z4g hx rfl (z2j (m:=(0,700)) rfl (z2j (m:=(0,701)) rfl z8m)) (by decide) ?_)|(apply z0f;refine z25 ?_)|(apply z0l;refine z0b z2e ?_))|(apply z06;first|refine z0m ?_|apply z09)|(apply z07;first|apply z08|apply z00)
 refine z3s 701 e 701 (raw:=.glob 1 τ.o1) rfl rfl (by simp[upd]) rfl rfl ?_
 refine z3s 700 e 700 (raw:=.glob 0 τ.o0) rfl rfl (by simp[upd]) rfl rfl ?_
 exact z0e func62 _ z0p ⟨rfl,zlk hT⟩
theorem zau.n2{labs:List Str}{x:Cn}(h:zau labs x):x.top.op=2→x.top.name=zan∧x.top.val∈zbm:=by
 cases x with
 | leaf g=>exact zho.n2 h
 | not y=>intro e;simp[Cn.top]at e
 | bin o y z=>intro e;have:=h.1;simp only[Cn.top]at e;omega
theorem zau.n3{labs:List Str}{x:Cn}(h:zau labs x):x.top.op=3→x.top.name=zan∧(x.top.arg=zan∨x.top.arg=y48):=by
 cases x with
 | leaf g=>exact zho.n3 h
 | not y=>intro e;simp[Cn.top]at e
 | bin o y z=>intro e;have:=h.1;simp only[Cn.top]at e;omega
theorem zsi{c:z10}(h:c.attrs=z7n):z4w c zan=0:=by rw[z4w,h];decide
theorem y58{c:z10}(h:c.attrs=z7n):z4w c y48=1:=by rw[z4w,h];decide
theorem zmp(τ:Tab){labs:List Str}(c:z10)(hat:c.attrs=z7n):∀(x:Cn),zau labs x→∀e,z1v prog 30 [c.d,x.d] (z98 τ e) [] (B true):=by
 intro x
 have hal:c.attrs.length≤1000000:=by rw[hat];decide
 induction x using Cn.ind with
 | _ x ih =>
  intro h e
  have hc:∀k∈x.kids,z1v prog 64 [.d (.agg k.cs),.ptr (2,2) 0] (((2,2),.box (c.cs.map .d))::z98 τ (e+3)) [] (B false):=fun k hk=>by
   have i1:=ih k hk (h.kid hk) (e+4)
   refine z2a fun H hH=>?_
   have hH0:=hH ((2,2),.box (c.cs.map .d)) (by simp)
   have hT:HT τ (e+3) H:=HT.of (bs:=[((2,2),.box (c.cs.map .d))]) hH
   refine z0g func64 (by kernel_rfl) rfl (by simp) ?_
   dsimp only[f64]
   repeat' first|(apply z05;first|refine z0n ?_| (apply z0a;first|refine z02 (z1r (b:=.box (c.cs.map .d)) (cs:=c.cs)) rfl (bk1 hH0) ?_| refine z02 z1r rfl rfl ?_)|(apply z0j;refine z4g i1 rfl (bkT hT) (by decide) ?_)|(apply z18;refine z0b z1m ?_))|(apply z06;first|refine z0m ?_|apply z09)|(apply z07;first|apply z08|apply z00)
   all_goals first
    | exact z0e func64 _ z0p ⟨rfl,rfl⟩
  have hk:=zgv (cf:=64) [.ptr (0,2) 0] (((0,2),.box (c.cs.map .d))::z98 τ (e+1)) (fun _=>false) x.kids (by have:=zgn x;omega) hc
  rw[any_false,←Cn.kd_eq]at hk
  clear hc ih
  have h2:=h.n2
  have h3:=h.n3
  refine z2a fun H hH=>?_
  have hT:HT τ e H:=HT.of (bs:=[]) hH
  refine z0g func30 (by kernel_rfl) rfl (by simp) ?_
  dsimp only[f30]
  by_cases o2:x.top.op=2
  ·obtain⟨e1,e2⟩:=h2 o2
   have a1:=zgx c x.top.name hal
   rw[show z4w c x.top.name=0 by rw[e1];exact zsi hat]at a1
   repeat' first|(apply z05;first|refine z0n ?_| (apply z0a;refine z02 z16 rfl rfl ?_)|(apply z0c;refine z02 z0i rfl rfl ?_)|(apply z0j;first|refine z29 a1 ?_| refine z4g (y5d τ _ e2 (e+1)) rfl (bkT hT) (by decide) ?_|refine z4g hk rfl (z2j (m:=(0,2)) rfl (bkT hT)) (by decide) ?_)|(apply z18;refine z0b z1m ?_)|refine z4x rfl rfl (by decide) ?_)|(apply z06;first|refine z0m ?_|apply z09)|(apply z07;first|apply z08|apply z00|refine z15 ?_| apply z04|apply z01|apply z03|refine z0h (fun _=>?_) fun _=>?_)
   all_goals exact zD74
  ·by_cases o3:x.top.op=3
   ·obtain⟨e1,e2⟩:=h3 o3
    have a1:=zgx c x.top.name hal
    rw[show z4w c x.top.name=0 by rw[e1];exact zsi hat]at a1
    have a2:=zgx c x.top.arg hal
    obtain⟨v,hv,hv0⟩:∃v,z4w c x.top.arg=v∧0≤v:=by
     refine⟨_,rfl,?_⟩
     rcases e2 with e2|e2
     ·rw[e2,zsi hat];decide
     ·rw[e2,y58 hat];decide
    rw[hv]at a2
    repeat' first|(apply z05;first|refine z0n ?_| (apply z0a;refine z02 z16 rfl rfl ?_)|(apply z0c;refine z02 z0i rfl rfl ?_)|(apply z0j;first|refine z29 a1 ?_| refine z29 a2 ?_| refine z4g hk rfl (z2j (m:=(0,2)) rfl (bkT hT)) (by decide) ?_)|(apply z18;refine z0b z1m ?_)|refine z4x rfl rfl (by decide) ?_)|(apply z06;first|refine z0m ?_|apply z09)|(apply z07;first|apply z08|apply z00|apply z04|apply z01|apply z03|refine z0h (fun _=>?_) fun _=>?_)
    all_goals exact zD74
   ·repeat' (first|(apply z05;first|refine z0n ?_| (apply z0a;refine z02 z16 rfl rfl ?_)|(apply z0c;refine z02 z0i rfl rfl ?_)|(apply z0j;refine z4g hk rfl (z2j (m:=(0,2)) rfl (bkT hT)) (by decide) ?_)|(apply z18;refine z0b z1m ?_)|refine z4x rfl rfl (by decide) ?_)|(apply z06;first|refine z0m ?_|apply z09)|(apply z07;first|apply z08|apply z00|apply z04|apply z01|apply z03|refine z0h (fun _=>?_) fun _=>?_))
    all_goals exact zD74
attribute [local irreducible] z4v z2b
theorem y27(c:z10)(b e:Int)(ls:List Int)(hc:c.tokens.length≤1000000)(hl:ls.length=2)(hin:∀t∈ls,-1≤t∧t<c.tokens.length):z0q prog 31 [c.d,.d (strs z2i),z9m b e ls] (B true):=by
 have hf:=zw3 c z2i b e ls hc (by omega) (by decide) hl
 exact zD70
theorem zsp(τ:Tab){labs:List Str}(c:z10)(hat:c.attrs=z7n)(x:Cn)(h:zau labs x)(hx:x.high≤5)(b e:Int)(ls:List Int)(hc:c.tokens.length≤1000000)(hl:ls.length=2)(hin:∀t∈ls,-1≤t∧t<c.tokens.length)(r:Bool)
 (hh:∀e0,z1v prog 32 [c.d,x.d,.d (strs z2i),z9m b e ls] (z98 τ e0) [] (B r)) (e0:Nat):z1v prog 14 [c.d,x.d,.d (strs z2i),z9m b e ls] (z98 τ e0) [] (B r):=by
 have hs:=zla x h hx
 have hf:=y27 c b e ls hc hl hin
 have hk:=zmp τ c hat x h (e0+1)
 have hh:=hh (e0+1)
 refine z2a fun H hH=>?_
 have hT:HT τ e0 H:=HT.of (bs:=[]) hH
 refine z0g func14 (by kernel_rfl) rfl (by simp) ?_
 dsimp only[f14]
 cases r
 ·all_goals exact zD32
 ·all_goals exact zD32
end Go.Proofs.YtonhfccmeammbaaGreatDoor
