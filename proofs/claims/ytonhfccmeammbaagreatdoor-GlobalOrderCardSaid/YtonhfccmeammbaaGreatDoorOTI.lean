/- A part of the proof: T61 to T64. -/
import Derived.Test.YtonhfccmeammbaaGreatDoorOTH
set_option linter.all false
namespace Go.Proofs.YtonhfccmeammbaaGreatDoor
open Go.Ab
set_option maxHeartbeats 20000000
attribute [local irreducible] Run Ops Op1 z1r Val Tr z0j z2f NF Rel z3d z1q
structure Mat where
 b:Int
 e:Int
 ls:List Int
def Mat.cs (m:Mat):List D:=[z3b m.b,z3b m.e,ints m.ls]
def zjj (c:z0i) (m:Mat):Prop:=0≤m.b∧m.b<m.e∧m.e≤c.tokens.length∧∃ i j,m.ls=[i,j]∧(-1≤i∧i<c.tokens.length)∧(-1≤j∧j<c.tokens.length)
theorem zdr (l:List Int) (k:Nat) (c:z0i) (most:Int) (hl:l.length≤120) (hk:k≤120) (hm:0≤most∧most≤20) (ht0:0<c.texts.length∧c.texts.length≤1000) (hn:c.tokens.length≤1000000) (hsp:∀ t∈c.texts,0≤t.b∧t.b<t.e∧t.e≤c.tokens.length) :
 Rel Tryz.prog 13 [.ptr (0,500) 0,c.d,I .i64 2,I .i64 most] [((0,500),z1w l k)]
  (fun x:List Mat × Nat=>(∀ m∈x.1,zjj c m)∧(x.1.length:Int)≤most∧x.2≤120) (fun x=>.d (.slice (x.1.map Mat.cs))) (fun x=>[((0,500),z1w l x.2)]):=by
 refine z9f fun H hH=>?_
 have hH0:=hH ((0,500),z1w l k) (by simp)
 refine z0e Tryz.func13 (by kernel_rfl) rfl (by simp) ?_
 dsimp only[Tryz.f13]
 refine z7c 500 0 500 hH0 rfl rfl ?_
 refine z03 (tm':=[(0,.ptr (0,500) 0),(1,c.d),(2,I .i64 2),(3,I .i64 most),(100500,.al (0,500) (1,500))]) (hp':=[(500,z1w l k)]) ?_ rfl rfl
 repeat' (first|(apply z05;(first|refine z46 (d:=9) rfl rfl rfl (by decide) ?_|refine z0r ?_| (apply z15;(refine z02 (z1a z1y) rfl rfl ?_))|(apply z0w;((refine zgj hl rfl rfl (by decide) (by omega) (by assumption) (fun _ _ _=>?_))))|(apply z1j;(refine z0g z31 ?_))))|(apply z06;(first|refine z0q ?_|apply z0b))|(apply z07;(first|apply z08|apply z00|apply z01)))
 refine z0k ?_
 refine z03 (z1x (fun q:Int × List Mat × Nat=>⟨92,[(0,.ptr (0,500) 0),(2,I .i64 2),(5,.ptr (0,5) 0),(9,.ref (0,9)),(10,I .i64 q.1),(100500,.al (0,500) (1,500))],[(9,.row 42 3 (q.2.1.map Mat.cs)),(500,z1w l q.2.2),(5,.box (c.cs.map .d))],upd H (0,500) .gone⟩)
  (fun q=>0≤q.1∧(q.2.1.length:Int)+q.1≤most∧(∀ m∈q.2.1,zjj c m)∧q.2.2≤120) (fun q=>q.1.toNat) ?_ (_,[],_) ⟨by assumption,by simp only[List.length_nil];omega,by simp,by assumption⟩) rfl rfl
 intro ⟨m,ms,kt⟩ ⟨h1,h2,h3,h4⟩ ih
 simp only at h1 h2 h3 h4 ih ⊢
 by_cases hm0:0<m
 · have hr0:=tn0 (l:=l) (k:=kt) (n:=(c.texts.length:Int)) (by omega)
   have hr1:=tn1 (l:=l) (k:=kt) (n:=(c.texts.length:Int)) (by omega)
   obtain⟨x,hx⟩:∃ x,c.texts[(z3d l kt c.texts.length).toNat]? =some x:=⟨_,zA0 (by omega)⟩
   have hx3:=hsp x (zA2 hx)
   repeat' (first|(apply z05;(first|refine z0r ?_| (apply z0c;(refine z02 z1k rfl rfl ?_))|(apply z0d;(refine z02 z1h rfl rfl ?_))|(apply z15;(first|refine z02 (z1a z1y) rfl rfl ?_| refine z02 (z2l z1y) rfl rfl ?_))|(apply z0w;((refine zgj hl rfl rfl (by decide) (by omega) (by assumption) (fun _ _ _=>?_))))|(apply z0n;(refine z26 ?_))|(apply z18;(refine z0g z2g ?_))|(apply z21;(refine z43 ?_))))|(apply z06;(first|refine z0q ?_|apply z0b))|(apply z07;(first|apply z08|apply z00|apply z09|apply z01|apply z2w|refine z0m (fun _=>?_) (fun _=>?_)| refine z0p ?_))|(apply z2t;(first|(apply z1e;refine z2k mix ?_)|refine z34 ?_| (apply z0z;(first|refine z0y z1k rfl rfl ?_| refine z0y (z1t rfl rfl) rfl rfl ?_))|(apply z0v;(refine z0y z1h rfl rfl ?_))|(apply z1l;(refine z0y (z2p rfl hr0 (z5i hx) rfl) rfl rfl ?_))|(apply z40;(first|refine z0y (z1a z1y) rfl rfl ?_| refine z0y (z2l z1y) rfl rfl ?_))|(apply z2r;(refine z0y (z0u rfl) rfl rfl ?_))|(apply z25;((refine zk6 hl (by first|exact rfl|exact⟨_,rfl,rfl,rfl⟩) rfl rfl (by decide) (by omega) (by assumption) (fun _ _ _=>?_))))|(apply z2h;(refine z73 (by first|exact rfl|exact⟨_,rfl,rfl,rfl⟩) rfl rfl rfl rfl rfl rfl ?_))|(apply zgb;(refine zgy (by first|exact rfl|exact⟨_,rfl,rfl,rfl⟩) rfl rfl (by decide) ?_)))))
   all_goals try (exfalso;omega)
   refine z3m 13 2 600 3 1 rfl rfl rfl rfl ?_
   obtain⟨bb,hbb⟩:∃ bb,x.b+z3d l (z1q l kt) (x.e-x.b)=bb:=⟨_,rfl⟩
   simp only[hbb]
   obtain⟨ee,hee⟩:∃ ee,bb+1+z3d l (z1q l (z1q l kt)) (x.e-bb)=ee:=⟨_,rfl⟩
   simp only[hee]
   have q0:=tn0 (l:=l) (k:=z1q l kt) (n:=x.e-x.b) (by omega)
   have q1:=tn1 (l:=l) (k:=z1q l kt) (n:=x.e-x.b) (by omega)
   have q2:=tn0 (l:=l) (k:=z1q l (z1q l kt)) (n:=x.e-bb) (by omega)
   have q3:=tn1 (l:=l) (k:=z1q l (z1q l kt)) (n:=x.e-bb) (by omega)
   have hb2:0≤bb∧bb<ee∧ee≤c.tokens.length:=by omega
   refine z0k ?_
   refine z03 (z1x (fun q:Nat × List Int × Nat=>⟨92,[(0,.ptr (0,500) 0),(2,I .i64 2),(5,.ptr (0,5) 0),(9,.ref (0,9)),(10,I .i64 m),(11,.ptr (0,11) 0),(13,.ptr (0,13) 0),(14,I .i64 q.1),(100500,.al (0,500) (1,500))],[(600,.row 3 1 (q.2.1.map fun x=>[z3b x])),(500,z1w l q.2.2),(13,.box [I .i64 bb,I .i64 ee,.ref (0,600)]),(11,.box (x.cs.map .d)),(9,.row 42 3 (ms.map Mat.cs)),(5,.box (c.cs.map .d))],upd H (0,500) .gone⟩)
    (fun q=>q.1≤2∧q.2.1.length=q.1∧(∀ y∈q.2.1,-1≤y∧y<c.tokens.length)∧q.2.2≤120) (fun q=>2-q.1) ?_ (0,[],_) ⟨by simp only;omega,rfl,by simp,by assumption⟩) rfl rfl
   intro ⟨i,ls,ku⟩ ⟨g1,g2,g3,g4⟩ ih2
   simp only at g1 g2 g3 g4 ih2 ⊢
   by_cases hi2:i<2
   · have hget:∀ v:Int,(ls++[v])[((i:Nat):Int).toNat]? =some v:=fun v=>by rw[Int.toNat_natCast,zAd (by omega),g2];simp
     have hset:∀ v:Int,(ls++[v]).set ((i:Nat):Int).toNat (-1)=ls++[-1]:=fun v=>by rw[Int.toNat_natCast,List.set_append_right _ _ (by omega),g2];simp
     have hmem:∀ v:Int,(-1≤v∧v<c.tokens.length)→∀ y∈ls++[v],-1≤y∧y<c.tokens.length:=fun v hv y hy=>by
      rcases zAn.1 hy with hy|hy
      · exact g3 y hy
      · simp only[List.mem_singleton] at hy;subst hy;exact hv
     repeat' (first|(apply z05;(first|refine z0r ?_| (apply z0c;(refine z02 z1k rfl rfl ?_))|(apply z0d;(refine z02 z1h rfl rfl ?_))|(apply z0o;(refine z02 (z1d rfl (by omega) (by rw[zA4,zA8,List.length_singleton];omega) rfl) rfl rfl ?_))|(apply z15;(refine z02 (z1a z1y) rfl rfl ?_))|(apply z0n;(refine z1b (-1) rfl rfl rfl rfl (hget _) rfl rfl rfl (hset _) ?_))))|(apply z06;(first|refine z0q ?_|apply z0b))|(apply z07;(first|apply z08|apply z00|apply z09|apply z01|apply z2w|apply z04|refine z0m (fun _=>?_) (fun _=>?_)| refine z0p ?_))|(apply z2t;(first|(apply z1e;refine z2k mix ?_)|refine z34 ?_| (apply z0z;(first|refine z0y (z1i (hget _) rfl rfl rfl) rfl rfl ?_| refine z0y z1k rfl rfl ?_))|(apply z0v;(refine z0y z1h rfl rfl ?_))|(apply z1l;(refine z0y (z1d rfl (by omega) (by rw[zA4,zA8,List.length_singleton];omega) rfl) rfl rfl ?_))|(apply z40;(first|refine z0y (z1a z1y) rfl rfl ?_| refine z0y (z2l z1y) rfl rfl ?_))|(apply z2r;(refine za6 (by first|exact rfl|exact⟨_,rfl,rfl,rfl⟩) rfl rfl _ rfl rfl rfl rfl rfl rfl rfl (by decide) (by omega) ?_))|(apply z25;((refine zk6 hl (by first|exact rfl|exact⟨_,rfl,rfl,rfl⟩) rfl rfl (by decide) (by omega) (by assumption) (fun _ _ _=>?_))))|(apply z2h;(refine z3k (by first|exact rfl|exact⟨_,rfl,rfl,rfl⟩) rfl rfl rfl rfl rfl ?_))|(apply z5d;(refine z5t rfl ?_)))))
     all_goals try (exfalso;omega)
     · refine z4p 73 600 rfl rfl ?_
       exact z03 (ih2 (i+1,ls++[-1],z1q l ku) ⟨by simp only;omega,by simp only[zA8,List.length_singleton,g2],hmem _ (by omega),by assumption⟩ (by simp only;omega)) rfl rfl
     · refine z4p 73 600 rfl rfl ?_
       exact z03 (ih2 (i+1,ls++[x.b+z3d l ku (x.e-x.b+1)-1],z1q l ku) ⟨by simp only;omega,by simp only[zA8,List.length_singleton,g2],hmem _ (by have:=tn0 (l:=l) (k:=ku) (n:=x.e-x.b+1) (by omega);have:=tn1 (l:=l) (k:=ku) (n:=x.e-x.b+1) (by omega);omega),by assumption⟩ (by simp only;omega)) rfl rfl
   · refine z11 600 rfl ?_
     repeat' (first|(apply z05;(first|refine z0r ?_| (apply z0c;(refine z02 z3v rfl rfl ?_))|(apply z15;(refine z02 (z2l z1y) rfl rfl ?_))|(apply z12;(refine z7t (⟨bb,ee,ls⟩:Mat) rfl ?_))|(apply z3f;(refine z3h rfl ?_))))|(apply z06;(first|refine z0q ?_|apply z0b))|(apply z07;(first|apply z08|apply z00|apply z09|apply z01|apply z2w|apply z04|refine z0m (fun _=>?_) (fun _=>?_)| refine z0p ?_))|(apply z2t;(first|refine z34 ?_| (apply z0z;(refine z0y z1k rfl rfl ?_))|(apply z0v;(refine z0y z1h rfl rfl ?_))|(apply z40;(first|refine z0y (z1a z1y) rfl rfl ?_| refine z0y (z2l z1y) rfl rfl ?_))|(apply z25;((refine zk6 hl (by first|exact rfl|exact⟨_,rfl,rfl,rfl⟩) rfl rfl (by decide) (by omega) (by assumption) (fun _ _ _=>?_))))|(apply z5d;(refine z5t rfl ?_)))))
     all_goals try (exfalso;omega)
     refine z4p 90 9 rfl rfl ?_
     refine z03 (ih (m-1,ms++[⟨bb,ee,ls⟩],ku) ⟨by simp only;omega,by simp only[zA8,List.length_singleton];omega,fun y hy=>?_,g4⟩ (by simp only;omega)) rfl rfl
     rcases zAn.1 hy with hy|hy
     · exact h3 y hy
     · simp only[List.mem_singleton] at hy
       subst hy
       obtain rfl:i=2:=by omega
       match ls,g2,g3 with
       | [i1,i2],_,g3=>exact⟨hb2.1,hb2.2.1,hb2.2.2,i1,i2,rfl,g3 i1 (by simp),g3 i2 (by simp)⟩
 · refine z11 9 rfl ?_
   repeat' (first|(apply z05;(refine z0r ?_))|(apply z06;(first|refine z0q ?_|apply z0b))|(apply z07;(first|apply z08|apply z00|apply z09|apply z01|apply z2w|refine z0m (fun _=>?_) (fun _=>?_)| refine z0p ?_))|(apply z2t;(first|refine z34 ?_| (apply z0z;(refine z0y z1k rfl rfl ?_))|(apply z0v;(refine z0y z1h rfl rfl ?_))|(apply z2r;(refine z0y (z0u rfl) rfl rfl ?_)))))
   all_goals try (exfalso;omega)
   refine z4l 500 0 500 (raw:=z1w l kt) rfl rfl rfl rfl rfl ?_
   exact z0a Tryz.func13 _ z1m ⟨(ms,kt),⟨h3,by simp only;omega,h4⟩,rfl,z7a _ _ _ _⟩
def exC:z0i:=⟨[⟨⟨#[119]⟩,false⟩],[[⟨#[97]⟩],[⟨#[98]⟩],[⟨#[99]⟩]],[⟨⟨#[116]⟩,0,3,[]⟩],[],[],[1,-1,1],[⟨#[100,101,116]⟩,⟨#[]⟩,⟨#[111,98,106]⟩]⟩
theorem zkb:z0j Tryz.prog 36 [] exC.d:=by
 refine z10 fun H=>?_
 refine z0e Tryz.func36 (by kernel_rfl) rfl (by simp) ?_
 dsimp only[Tryz.f36]
 repeat' (first|(apply z05;(first|(apply z0n;(refine z26 ?_))|(apply z18;(refine z0g z2g ?_))|(apply z21;(refine z97 rfl rfl rfl rfl rfl rfl (by decide) ?_))|(apply z3f;(first|refine zgo (ys:=exC.texts.map Text.cs) rfl rfl rfl rfl rfl rfl rfl rfl rfl (by decide) ?_|refine z3h rfl ?_))))|(apply z06;(first|refine z0q ?_|apply z0b))|(apply z07;(first|apply z08|apply z00)))
 refine z11 8 rfl ?_
 refine z3m 0 3 600 84 4 rfl rfl rfl rfl ?_
 refine z11 600 rfl ?_
 refine z3m 0 4 601 84 4 rfl rfl rfl rfl ?_
 refine z11 601 rfl ?_
 exact z0a Tryz.func36 _ (z5u rfl rfl rfl rfl rfl rfl) ⟨rfl,rfl⟩
theorem zdg:z0j Tryz.prog 12 [] (.d (strs z30)):=by
 refine z10 fun H=>?_
 refine z0e Tryz.func12 (by kernel_rfl) rfl (by simp) ?_
 dsimp only[Tryz.f12]
 repeat' (first|(apply z05;(first|refine z0r ?_| (apply z3f;(refine z3h (ys:=z30.map fun x=>[z4o x]) rfl ?_))))|(apply z06;(first|refine z0q ?_|apply z0b))|(apply z07;(first|apply z08|apply z00)))
 all_goals exact z0a Tryz.func12 _ z1m ⟨rfl,rfl⟩
theorem zao {c:z0i} (hw:Wf c) (g:Lf) (h:zfj g) (b e:Int) (ls:List Int) {i j:Int} (hx:z0j Tryz.prog 69 [.d (strs z30),z7v b e ls,S g.a] (I .i64 i)) (hy:g.op≠10→z0j Tryz.prog 69 [.d (strs z30),z7v b e ls,S g.b] (I .i64 j)) (hi:token c i=true) (hj:token c j=true) (hc:c.nodes.length≤1000000) :
 z0j Tryz.prog 32 [c.d,g.d,.d (strs z30),z7v b e ls] (B (zb4 c g i j)):=by
 have htok:=hw.tok
 have hul:=z9l c i
 have ti:=(z2c c i).1 hi
 have tj:=(z2c c j).1 hj
 have hop:=h.op
 refine z10 fun H=>?_
 refine z0e Tryz.func32 (by kernel_rfl) rfl (by simp) ?_
 dsimp only[Tryz.f32]
 by_cases h10:g.op=10
 · repeat' (first|(apply z05;(first|refine z0r ?_| (apply z0c;(first|refine z02 z2u rfl rfl ?_| refine z02 z1k rfl rfl ?_))|(apply z0d;(refine z02 z1h rfl rfl ?_))|(apply z12;(refine z02 (z0u rfl) rfl rfl ?_))|(apply z0w;(first|refine z3e hx ?_| refine z3e (zcx hw hi) ?_))|(apply z0n;(refine z26 ?_))|(apply z18;(refine z0g z2g ?_))|(apply z1j;(refine z0g (z7w rfl rfl rfl rfl rfl (by decide)) ?_))|refine z5b rfl rfl (by decide) ?_))|(apply z06;(first|refine z0q ?_|apply z0b|refine z1z ?_| refine z14 rfl rfl (fun _=>?_) (fun _=>?_)))|(apply z07;(first|apply z08|apply z00|apply z09|apply z01|apply z2w|apply z04|refine z0m (fun _=>?_) (fun _=>?_)))|(apply z2t;(first|refine z34 ?_| (apply z0z;(first|refine z0y z2u rfl rfl ?_| refine z0y z1k rfl rfl ?_))|(apply z0v;(refine z0y z1h rfl rfl ?_)))))
   all_goals try (exfalso;omega)
   all_goals
    refine z0a Tryz.func32 _ z1m ⟨?_,rfl⟩
    rw[zb4,zAs h10]
    first
     | (rw[zAf (p:=g.mn≤((up c i).length:Int)) (by assumption)];rfl)
     | (rw[zAk (p:=g.mn≤((up c i).length:Int)) (by assumption)];rfl)
 · have hrel:=zdw hw g h.hl j hi hc (by omega)
   repeat' (first|(apply z05;(first|refine z0r ?_| (apply z0c;(first|refine z02 z2u rfl rfl ?_| refine z02 z1k rfl rfl ?_))|(apply z0d;(refine z02 z1h rfl rfl ?_))|(apply z0w;(first|refine z3e hx ?_| refine z3e (hy h10) ?_| refine z3e hrel ?_))|(apply z0n;(refine z26 ?_))|(apply z18;(refine z0g z2g ?_))|(apply z1j;(refine z0g (z7w rfl rfl rfl rfl rfl (by decide)) ?_))|(apply z21;(refine z43 ?_))|refine z5b rfl rfl (by decide) ?_))|(apply z06;(first|refine z0q ?_|apply z0b|refine z1z ?_| refine z14 rfl rfl (fun _=>?_) (fun _=>?_)))|(apply z07;(first|apply z08|apply z00|apply z09|apply z01|apply z2w|apply z04|refine z0m (fun _=>?_) (fun _=>?_)))|(apply z2t;(first|refine z34 ?_| (apply z0z;(first|refine z0y z2u rfl rfl ?_| refine z0y z1k rfl rfl ?_))|(apply z0v;(refine z0y z1h rfl rfl ?_)))))
   all_goals try (exfalso;omega)
   all_goals
    refine z0a Tryz.func32 _ z1m ⟨?_,rfl⟩
    rw[zb4,zAr h10]
theorem z5y {c:z0i} (hw:Wf c) (g:Lf) (h:zfj g) (b e:Int) (ls:List Int) {i j:Int} (hx:z0j Tryz.prog 69 [.d (strs z30),z7v b e ls,S g.a] (I .i64 i)) (hy:g.op≠10→z0j Tryz.prog 69 [.d (strs z30),z7v b e ls,S g.b] (I .i64 j)) (hi:token c i=true) (hj:token c j=true) (hc:c.nodes.length≤1000000) (hll:ls.length=2) (hin:∀ t∈ls,-1≤t∧t<c.tokens.length) :
 z0j Tryz.prog 14 [c.d,g.d,.d (strs z30),z7v b e ls] (B (zb4 c g i j)):=by
 have htok:=hw.tok
 have ti:=(z2c c i).1 hi
 have tj:=(z2c c j).1 hj
 have hf:=zgx c z30 b e ls (by omega) (by omega) (by decide) hll
 have hf':z0j Tryz.prog 31 [c.d,.d (strs z30),z7v b e ls] (B true):=by
  exact zD17
 refine z10 fun H=>?_
 refine z0e Tryz.func14 (by kernel_rfl) rfl (by simp) ?_
 dsimp only[Tryz.f14]
 repeat' (first|(apply z05;(first|refine z0r ?_| (apply z0c;(refine z02 z2u rfl rfl ?_))|(apply z0w;(first|refine z3e (zh3 g h) ?_| refine z3e (zcb c g h) ?_| refine z3e hf' ?_| refine z3e (zao hw g h b e ls hx hy hi hj hc) ?_))|(apply z1j;(refine z0g (z7w rfl rfl rfl rfl rfl (by decide)) ?_))))|(apply z06;(first|refine z0q ?_|apply z0b))|(apply z07;(first|apply z08|apply z00)))
 all_goals exact zD21
theorem zk7:Wf exC:=by
 refine⟨by decide,by decide,by decide,.inr (by decide),fun i=>[1,0,1].getD i 0,fun i h hi=>?_⟩
 match i with
 | 0=>simp[exC] at hi;subst hi;decide
 | 1=>simp[exC] at hi;subst hi;decide
 | 2=>simp[exC] at hi;subst hi;decide
 | i+3=>simp[exC] at hi
abbrev zhj:Lf:=⟨6,⟨#[120]⟩,⟨#[121]⟩,⟨#[]⟩,0,0,[]⟩
abbrev zg9:Lf:=⟨8,⟨#[120]⟩,⟨#[121]⟩,⟨#[]⟩,0,0,[⟨#[100,101,116]⟩]⟩
abbrev zk9:Lf:=⟨7,⟨#[121]⟩,⟨#[120]⟩,⟨#[]⟩,0,0,[]⟩
abbrev zk8:Lf:=⟨10,⟨#[120]⟩,⟨#[]⟩,⟨#[]⟩,1,1,[]⟩
theorem zki:zfj zhj:=⟨by decide,by decide,by decide,by decide,by decide,by decide⟩
theorem zkq:zfj zg9:=⟨by decide,by decide,by decide,by decide,by decide,by decide⟩
theorem zly:zfj zk9:=⟨by decide,by decide,by decide,by decide,by decide,by decide⟩
theorem zlx:zfj zk8:=⟨by decide,by decide,by decide,by decide,by decide,by decide⟩
theorem inE:∀ t∈([0,1]:List Int),-1≤t∧t<exC.tokens.length:=by decide
theorem zl8:z0j Tryz.prog 14 [exC.d,zhj.d,.d (strs z30),z7v 0 2 [0,1]] (B true) :=
 z5y zk7 zhj zki 0 2 [0,1] (z6k 0 2 0 1) (fun _=>z7k 0 2 0 1) (by decide) (by decide) (by decide) rfl inE
theorem zkj:z0j Tryz.prog 14 [exC.d,zg9.d,.d (strs z30),z7v 0 2 [0,1]] (B true) :=
 (by decide:zb4 exC zg9 0 1=true)▸z5y zk7 zg9 zkq 0 2 [0,1] (z6k 0 2 0 1) (fun _=>z7k 0 2 0 1) (by decide) (by decide) (by decide) rfl inE
theorem zlr:z0j Tryz.prog 14 [exC.d,zk9.d,.d (strs z30),z7v 0 2 [0,1]] (B false) :=
 (by decide:zb4 exC zk9 1 0=false)▸z5y zk7 zk9 zly 0 2 [0,1] (z7k 0 2 0 1) (fun _=>z6k 0 2 0 1) (by decide) (by decide) (by decide) rfl inE
theorem zls:z0j Tryz.prog 14 [exC.d,zk8.d,.d (strs z30),z7v 0 2 [0,1]] (B true) :=
 (by decide:zb4 exC zk8 0 1=true)▸z5y zk7 zk8 zlx 0 2 [0,1] (z6k 0 2 0 1) (fun h=>absurd rfl h) (by decide) (by decide) (by decide) rfl inE
theorem za5:z0j Tryz.prog 16 [] (B true):=by
 refine z10 fun H=>?_
 refine z0e Tryz.func16 (by kernel_rfl) rfl (by simp) ?_
 dsimp only[Tryz.f16]
 repeat' (first|(apply z05;(first|refine z0r ?_| (apply z0n;(refine z26 ?_))|(apply z18;(refine z0g z2g ?_))|(apply z21;(refine z43 (p:=z7v 0 2 [0,1]) ?_))|(apply z3f;(refine z3h rfl ?_))))|(apply z06;(first|refine z0q ?_|apply z0b))|(apply z07;(first|apply z08|apply z00|apply z2w))|(apply z2t;(first|(apply z1e;refine z2k mix ?_)|refine z34 ?_| (apply z0z;(refine z0y z3v rfl rfl ?_))|(apply z25;(first|refine z3w zkb ?_| refine z3w zdg ?_| refine z3w zl8 ?_| refine z3w zkj ?_| refine z3w zlr ?_| refine z3w zls ?_))|(apply z6t;(refine z93 (by first|exact rfl|exact⟨_,rfl,rfl,rfl⟩) rfl rfl rfl rfl rfl rfl rfl (by decide) ?_))|(apply z5d;(refine z5t rfl ?_)))))
 all_goals first
  | exact z0a Tryz.func16 _ z1m ⟨rfl,rfl⟩
theorem zjk (l:List Int) (n v:Int) (hl:l.length≤9223372036854775807):z0j Tryz.prog 5 [.d (ints l),I .i64 n,I .i64 v] (B true):=by
 refine z10 fun H=>?_
 refine z0e Tryz.func5 (by kernel_rfl) rfl (by simp) ?_
 dsimp only[Tryz.f5]
 have hl2:(l.take 120).length≤120:=by simp;omega
 have hm1:=z56 (x:=n) (n:=9) (by omega)
 have hm2:=z56 (x:=v) (n:=5) (by omega)
 repeat' (first|(apply z05;(first|refine z0r ?_| (apply z0c;(refine z02 z3v rfl rfl ?_))|(apply z15;(refine z02 (z2l z1y) rfl rfl ?_))|(apply z12;(refine z02 (z0u rfl) rfl rfl ?_))|(apply z0w;(first|(refine z4w (zf3 _ 0 6 hl2 (by decide) (by decide)) rfl rfl (by decide) ?_;rintro⟨c,k1⟩ ⟨⟨s,hs,hc⟩,hk1⟩;simp only at hc hk1 ⊢;have hw:=hc.wf (by omega);have ht:=hw.tok;have ht0:=hw.tok0;have htx:=hc.ntexts;have htx0:=hc.text0)|refine zl1 (zic _ _ (by omega)) rfl (by decide) ?_|(refine z4w (zdr _ k1 c 6 hl2 (by omega) (by decide) (by omega) (by omega) hc.span) rfl rfl (by decide) ?_;rintro⟨ms,k2⟩ ⟨m1,m2,m3⟩;simp only at m1 m2 m3 ⊢)))|(apply z0n;(refine z26 ?_))|(apply z18;(refine z0g z2g ?_))|(refine zl7 (d:=16) rfl hl (by decide) rfl ?_;refine zld 16 500 rfl rfl ?_)))|(apply z06;(first|refine z0q ?_|apply z0b))|(apply z07;(first|apply z08|apply z00|apply z01)))
 obtain⟨N,hN⟩:∃ N,zdj n 9-4=N:=⟨_,rfl⟩
 obtain⟨V,hV⟩:∃ V,zdj v 5=V:=⟨_,rfl⟩
 simp only[hN,hV]
 refine z0k ?_
 refine z03 (z1x (fun q:Nat=>⟨72,[(1,I .i64 N),(2,I .i64 V),(8,.ptr (0,8) 0),(26,.d (.slice (ms.map Mat.cs))),(27,I .i64 ms.length),(28,I .i64 (q:Nat))],[(8,.box (c.cs.map .d))],H⟩) (fun q=>q≤ms.length) (fun q=>ms.length-q) ?_ 0 (zAc _)) rfl rfl
 intro q hq ih
 by_cases hlt:q<ms.length
 · obtain⟨m,hm⟩:∃ m,ms[q]? =some m:=⟨_,zA0 hlt⟩
   obtain⟨q1,q2,q3,i,j,rfl',hi,hj⟩:=m1 m (zA2 hm)
   obtain⟨mb,me,ls⟩:=m
   simp only at q1 q2 q3 rfl'
   subst rfl'
   have hin:∀ t∈[i,j],-1≤t∧t<c.tokens.length:=by
    intro t ht3;simp only[zAa,List.not_mem_nil,or_false] at ht3;rcases ht3 with rfl|rfl <;> assumption
   have hca:c.attrs.length≤1000000:=by rw[hc.attrs];decide
   have d1:=z6w c ⟨4,sX,sY,⟨#[]⟩,⟨#[]⟩,N,N+V⟩ ⟨by simp,by simp,by simp⟩ mb me [i,j] i j (z6k mb me i j) (z7k mb me i j) hca (by omega) rfl hin (by omega) (by omega)
   have d2:=z6w c ⟨4,sY,sX,⟨#[]⟩,⟨#[]⟩,0-N-V,0-N⟩ ⟨by simp,by simp,by simp⟩ mb me [i,j] j i (z7k mb me i j) (z6k mb me i j) hca (by omega) rfl hin (by omega) (by omega)
   have s1:=z6w c ⟨3,sX,sY,⟨#[119,111,114,100]⟩,⟨#[116,97,103]⟩,0,0⟩ ⟨by simp,by simp,by simp⟩ mb me [i,j] i j (z6k mb me i j) (z7k mb me i j) hca (by omega) rfl hin (by omega) (by omega)
   have s2:=z6w c ⟨3,sY,sX,⟨#[116,97,103]⟩,⟨#[119,111,114,100]⟩,0,0⟩ ⟨by simp,by simp,by simp⟩ mb me [i,j] j i (z7k mb me i j) (z6k mb me i j) hca (by omega) rfl hin (by omega) (by omega)
   have eD:(z4j c ⟨4,sY,sX,⟨#[]⟩,⟨#[]⟩,0-N-V,0-N⟩&&z7f c ⟨4,sY,sX,⟨#[]⟩,⟨#[]⟩,0-N-V,0-N⟩ j i)=(z4j c ⟨4,sX,sY,⟨#[]⟩,⟨#[]⟩,N,N+V⟩&&z7f c ⟨4,sX,sY,⟨#[]⟩,⟨#[]⟩,N,N+V⟩ i j):=by
    rw[Bool.eq_iff_iff]
    simp[z4j,z7f,zgu]
    omega
   have eS:(z4j c ⟨3,sY,sX,⟨#[116,97,103]⟩,⟨#[119,111,114,100]⟩,0,0⟩&&z7f c ⟨3,sY,sX,⟨#[116,97,103]⟩,⟨#[119,111,114,100]⟩,0,0⟩ j i)=(z4j c ⟨3,sX,sY,⟨#[119,111,114,100]⟩,⟨#[116,97,103]⟩,0,0⟩&&z7f c ⟨3,sX,sY,⟨#[119,111,114,100]⟩,⟨#[116,97,103]⟩,0,0⟩ i j):=by
    rw[Bool.eq_iff_iff]
    simp only[z4j,z7f,zgu,zAs,zA7,zA3]
    constructor
    · rintro⟨⟨a1,a2⟩,⟨a3,a4⟩,a5⟩;exact⟨⟨a2,a1⟩,⟨a4,a3⟩,a5.symm⟩
    · rintro⟨⟨a1,a2⟩,⟨a3,a4⟩,a5⟩;exact⟨⟨a2,a1⟩,⟨a4,a3⟩,a5.symm⟩
   rw[eD] at d2
   rw[eS] at s2
   generalize (z4j c ⟨4,sX,sY,⟨#[]⟩,⟨#[]⟩,N,N+V⟩&&z7f c ⟨4,sX,sY,⟨#[]⟩,⟨#[]⟩,N,N+V⟩ i j)=x1 at d1 d2
   generalize (z4j c ⟨3,sX,sY,⟨#[119,111,114,100]⟩,⟨#[116,97,103]⟩,0,0⟩&&z7f c ⟨3,sX,sY,⟨#[119,111,114,100]⟩,⟨#[116,97,103]⟩,0,0⟩ i j)=x2 at s1 s2
   cases x1 <;> cases x2
   all_goals repeat' (first|(apply z05;(first|refine z0r ?_| (apply z0c;(refine z02 (z1t rfl rfl) rfl rfl ?_))|(apply z0o;(refine z02 (z1p rfl (idx hm)) rfl rfl ?_))|(apply z15;(first|refine z02 (z1a z1y) rfl rfl ?_| refine z02 (zgf rfl) rfl rfl ?_))|(apply z0w;(refine z3e za5 ?_))|(apply z0n;(refine z26 ?_))|(apply z18;(refine z0g z2g ?_))))|(apply z06;(first|refine z0q ?_|apply z0b))|(apply z07;(first|apply z08|apply z00|refine z1c rfl ?_|apply z09|apply z01|apply z2w|apply z04|refine z0m (fun _=>?_) (fun _=>?_)| refine z0p ?_))|(apply z2t;(first|(apply z1e;refine z2k mix ?_)|refine z34 ?_| (apply z0z;(first|refine z0y z2u rfl rfl ?_| refine z0y z3v rfl rfl ?_))|(apply z40;(first|refine z0y (z1a z1y) rfl rfl ?_| refine z0y (z2l z1y) rfl rfl ?_))|(apply z25;(first|refine z3w d1 ?_| refine z3w d2 ?_| refine z3w s1 ?_| refine z3w s2 ?_| refine z3w zdg ?_))|(apply z6t;(refine z93 (by first|exact rfl|exact⟨_,rfl,rfl,rfl⟩) rfl rfl rfl rfl rfl rfl rfl (by decide) ?_))|refine z0y (zli z1y) rfl rfl ?_)))
   all_goals try (exfalso;first|omega|contradiction)
   all_goals first
    | exact z03 (ih (q+1) (by omega) (by omega)) rfl rfl
 · repeat' (first|(apply z05;(first|refine z0r ?_| (apply z0w;(refine z3e za5 ?_))))|(apply z06;(first|refine z0q ?_|apply z0b))|(apply z07;(first|apply z08|apply z00|apply z09|apply z01|refine z0m (fun _=>?_) (fun _=>?_)| refine z0p ?_)))
   all_goals try (exfalso;omega)
   all_goals exact z0a Tryz.func5 _ z1m ⟨rfl,rfl⟩
end Go.Proofs.YtonhfccmeammbaaGreatDoor
