/- A part of the proof: T61 to T70. -/
import Derived.Test.YtonhfccmeammbaaGreatDoorUTH
import Derived.Test.YtonhfccmeammbaaGreatDoorUc
import Derived.Test.YtonhfccmeammbaaGreatDoorU8
import Derived.Test.YtonhfccmeammbaaGreatDoorUP
set_option linter.all false
set_option maxRecDepth 100000
namespace Go.Proofs.YtonhfccmeammbaaGreatDoor
open Go.Ab
set_option maxHeartbeats 20000000
attribute [local irreducible] Run Ops Op1 z1x Val Tr z0m z1r NF Rel z47 z1u
structure Mat where
 b:Int
 e:Int
 ls:List Int
def Mat.cs (m:Mat):List D:=[z3c m.b,z3c m.e,ints m.ls]
def zlp (c:z0v) (m:Mat):Prop:=0≤m.b∧m.b<m.e∧m.e≤c.tokens.length∧∃ i j,m.ls=[i,j]∧(-1≤i∧i<c.tokens.length)∧(-1≤j∧j<c.tokens.length)
theorem zf7 (l:List Int) (k:Nat) (c:z0v) (most:Int) (hl:l.length≤120) (hk:k≤120) (hm:0≤most∧most≤20) (ht0:0<c.texts.length∧c.texts.length≤1000) (hn:c.tokens.length≤1000000) (hsp:∀ t∈c.texts,0≤t.b∧t.b<t.e∧t.e≤c.tokens.length) :
 Rel Tryz.prog 13 [.ptr (0,500) 0,c.d,I .i64 2,I .i64 most] [((0,500),z2g l k)]
  (fun x:List Mat × Nat=>(∀ m∈x.1,zlp c m)∧(x.1.length:Int)≤most∧x.2≤120) (fun x=>.d (.slice (x.1.map Mat.cs))) (fun x=>[((0,500),z2g l x.2)]):=by
 refine zd5 fun H hH=>?_
 have hH0:=hH ((0,500),z2g l k) (by simp)
 refine z0g Tryz.func13 (by kernel_rfl) rfl (by simp) ?_
 dsimp only[Tryz.f13]
 refine z4g 500 0 500 hH0 rfl rfl ?_
 refine z0e (tm':=[(0,.ptr (0,500) 0),(1,c.d),(2,I .i64 2),(3,I .i64 most),(100500,.al (0,500) (1,500))]) (hp':=[(500,z2g l k)]) ?_ rfl rfl
 repeat' (first|(apply z04;(first|refine z5z (d:=9) rfl rfl rfl (by decide) ?_|refine z0l ?_| (apply z0z;(refine z02 (z14 z1p) rfl rfl ?_))|(apply z0j;((refine zo0 hl rfl rfl (by decide) (by omega) (by assumption) (fun _ _ _=>?_))))|(apply z1c;(refine z0b z1q ?_))))|(apply z05;(first|refine z0k ?_|apply z09))|(apply z06;(first|apply z07|apply z00|apply z01)))
 refine z0t ?_
 refine z0e (z1v (fun q:Int × List Mat × Nat=>⟨92,[(0,.ptr (0,500) 0),(2,I .i64 2),(5,.ptr (0,5) 0),(9,.ref (0,9)),(10,I .i64 q.1),(100500,.al (0,500) (1,500))],[(9,.row 42 3 (q.2.1.map Mat.cs)),(500,z2g l q.2.2),(5,.box (c.cs.map .d))],upd H (0,500) .gone⟩)
  (fun q=>0≤q.1∧(q.2.1.length:Int)+q.1≤most∧(∀ m∈q.2.1,zlp c m)∧q.2.2≤120) (fun q=>q.1.toNat) ?_ (_,[],_) ⟨by assumption,by simp only[List.length_nil];omega,by simp,by assumption⟩) rfl rfl
 intro ⟨m,ms,kt⟩ ⟨h1,h2,h3,h4⟩ ih
 simp only at h1 h2 h3 h4 ih ⊢
 by_cases hm0:0<m
 · have hr0:=tn0 (l:=l) (k:=kt) (n:=(c.texts.length:Int)) (by omega)
   have hr1:=tn1 (l:=l) (k:=kt) (n:=(c.texts.length:Int)) (by omega)
   obtain⟨x,hx⟩:∃ x,c.texts[(z47 l kt c.texts.length).toNat]? =some x:=⟨_,zA0 (by omega)⟩
   have hx3:=hsp x (zA2 hx)
   repeat' (first|(apply z04;(first|refine z0l ?_| (apply z0a;(refine z02 z18 rfl rfl ?_))|(apply z0d;(refine z02 z1a rfl rfl ?_))|(apply z0z;(first|refine z02 (z14 z1p) rfl rfl ?_| refine z02 (z2q z1p) rfl rfl ?_))|(apply z0j;((refine zo0 hl rfl rfl (by decide) (by omega) (by assumption) (fun _ _ _=>?_))))|(apply z0f;(refine z2d ?_))|(apply z0i;(refine z0b z1e ?_))|(apply z1i;(refine z2x ?_))))|(apply z05;(first|refine z0k ?_|apply z09))|(apply z06;(first|apply z07|apply z00|apply z08|apply z01|apply z2z|refine z0h (fun _=>?_) (fun _=>?_)| refine z0o ?_))|(apply z2v;(first|(apply z1l;refine z2n mix ?_)|refine z3h ?_| (apply z0u;(first|refine z0w z18 rfl rfl ?_| refine z0w z2j rfl rfl ?_))|(apply z0q;(refine z0w z1a rfl rfl ?_))|(apply z1n;(refine z0w (z23 rfl hr0 (z6u hx) rfl) rfl rfl ?_))|(apply z3y;(first|refine z0w (z14 z1p) rfl rfl ?_| refine z0w (z2q z1p) rfl rfl ?_))|(apply z3n;(refine z0w (z0y rfl) rfl rfl ?_))|(apply z22;((refine zu2 hl (by first|exact rfl|exact⟨_,rfl,rfl,rfl⟩) rfl rfl (by decide) (by omega) (by assumption) (fun _ _ _=>?_))))|(apply z2k;(refine z5o (by first|exact rfl|exact⟨_,rfl,rfl,rfl⟩) rfl rfl rfl rfl rfl rfl ?_))|(apply zie;(refine zkz (by first|exact rfl|exact⟨_,rfl,rfl,rfl⟩) rfl rfl (by decide) ?_)))))
   all_goals try (exfalso;omega)
   refine z4i 13 2 600 3 1 rfl rfl rfl rfl ?_
   obtain⟨bb,hbb⟩:∃ bb,x.b+z47 l (z1u l kt) (x.e-x.b)=bb:=⟨_,rfl⟩
   simp only[hbb]
   obtain⟨ee,hee⟩:∃ ee,bb+1+z47 l (z1u l (z1u l kt)) (x.e-bb)=ee:=⟨_,rfl⟩
   simp only[hee]
   have q0:=tn0 (l:=l) (k:=z1u l kt) (n:=x.e-x.b) (by omega)
   have q1:=tn1 (l:=l) (k:=z1u l kt) (n:=x.e-x.b) (by omega)
   have q2:=tn0 (l:=l) (k:=z1u l (z1u l kt)) (n:=x.e-bb) (by omega)
   have q3:=tn1 (l:=l) (k:=z1u l (z1u l kt)) (n:=x.e-bb) (by omega)
   have hb2:0≤bb∧bb<ee∧ee≤c.tokens.length:=by omega
   refine z0t ?_
   refine z0e (z1v (fun q:Nat × List Int × Nat=>⟨92,[(0,.ptr (0,500) 0),(2,I .i64 2),(5,.ptr (0,5) 0),(9,.ref (0,9)),(10,I .i64 m),(11,.ptr (0,11) 0),(13,.ptr (0,13) 0),(14,I .i64 q.1),(100500,.al (0,500) (1,500))],[(600,.row 3 1 (q.2.1.map fun x=>[z3c x])),(500,z2g l q.2.2),(13,.box [I .i64 bb,I .i64 ee,.ref (0,600)]),(11,.box (x.cs.map .d)),(9,.row 42 3 (ms.map Mat.cs)),(5,.box (c.cs.map .d))],upd H (0,500) .gone⟩)
    (fun q=>q.1≤2∧q.2.1.length=q.1∧(∀ y∈q.2.1,-1≤y∧y<c.tokens.length)∧q.2.2≤120) (fun q=>2-q.1) ?_ (0,[],_) ⟨by simp only;omega,rfl,by simp,by assumption⟩) rfl rfl
   intro ⟨i,ls,ku⟩ ⟨g1,g2,g3,g4⟩ ih2
   simp only at g1 g2 g3 g4 ih2 ⊢
   by_cases hi2:i<2
   · have hget:∀ v:Int,(ls++[v])[((i:Nat):Int).toNat]? =some v:=fun v=>by rw[zA9,zAg (by omega),g2];simp
     have hset:∀ v:Int,(ls++[v]).set ((i:Nat):Int).toNat (-1)=ls++[-1]:=fun v=>by rw[zA9,List.set_append_right _ _ (by omega),g2];simp
     have hmem:∀ v:Int,(-1≤v∧v<c.tokens.length)→∀ y∈ls++[v],-1≤y∧y<c.tokens.length:=fun v hv y hy=>by
      rcases zAs.1 hy with hy|hy
      · exact g3 y hy
      · simp only[zAp] at hy;subst hy;exact hv
     repeat' (first|(apply z04;(first|refine z0l ?_| (apply z0a;(refine z02 z18 rfl rfl ?_))|(apply z0d;(refine z02 z1a rfl rfl ?_))|(apply z0n;(refine z02 (z25 rfl (by omega) (by rw[zA4,zAa,List.length_singleton];omega) rfl) rfl rfl ?_))|(apply z0z;(refine z02 (z14 z1p) rfl rfl ?_))|(apply z0f;(refine z27 (-1) rfl rfl rfl rfl (hget _) rfl rfl rfl (hset _) ?_))))|(apply z05;(first|refine z0k ?_|apply z09))|(apply z06;(first|apply z07|apply z00|apply z08|apply z01|apply z2z|apply z03|refine z0h (fun _=>?_) (fun _=>?_)| refine z0o ?_))|(apply z2v;(first|(apply z1l;refine z2n mix ?_)|refine z3h ?_| (apply z0u;(first|refine z0w (z2e (hget _) rfl rfl rfl) rfl rfl ?_| refine z0w z18 rfl rfl ?_))|(apply z0q;(refine z0w z1a rfl rfl ?_))|(apply z1n;(refine z0w (z25 rfl (by omega) (by rw[zA4,zAa,List.length_singleton];omega) rfl) rfl rfl ?_))|(apply z3y;(first|refine z0w (z14 z1p) rfl rfl ?_| refine z0w (z2q z1p) rfl rfl ?_))|(apply z3n;(refine z9k (by first|exact rfl|exact⟨_,rfl,rfl,rfl⟩) rfl rfl _ rfl rfl rfl rfl rfl rfl rfl (by decide) (by omega) ?_))|(apply z22;((refine zu2 hl (by first|exact rfl|exact⟨_,rfl,rfl,rfl⟩) rfl rfl (by decide) (by omega) (by assumption) (fun _ _ _=>?_))))|(apply z2k;(refine z55 (by first|exact rfl|exact⟨_,rfl,rfl,rfl⟩) rfl rfl rfl rfl rfl ?_))|(apply z5l;(refine z61 rfl ?_)))))
     all_goals try (exfalso;omega)
     · refine z4x 73 600 rfl rfl ?_
       exact z0e (ih2 (i+1,ls++[-1],z1u l ku) ⟨by simp only;omega,by simp only[zAa,List.length_singleton,g2],hmem _ (by omega),by assumption⟩ (by simp only;omega)) rfl rfl
     · refine z4x 73 600 rfl rfl ?_
       exact z0e (ih2 (i+1,ls++[x.b+z47 l ku (x.e-x.b+1)-1],z1u l ku) ⟨by simp only;omega,by simp only[zAa,List.length_singleton,g2],hmem _ (by have:=tn0 (l:=l) (k:=ku) (n:=x.e-x.b+1) (by omega);have:=tn1 (l:=l) (k:=ku) (n:=x.e-x.b+1) (by omega);omega),by assumption⟩ (by simp only;omega)) rfl rfl
   · refine z19 600 rfl ?_
     repeat' (first|(apply z04;(first|refine z0l ?_| (apply z0a;(refine z02 z2a rfl rfl ?_))|(apply z0z;(refine z02 (z2q z1p) rfl rfl ?_))|(apply z0x;(refine z97 (⟨bb,ee,ls⟩:Mat) rfl ?_))|(apply z3t;(refine z3s rfl ?_))))|(apply z05;(first|refine z0k ?_|apply z09))|(apply z06;(first|apply z07|apply z00|apply z08|apply z01|apply z2z|apply z03|refine z0h (fun _=>?_) (fun _=>?_)| refine z0o ?_))|(apply z2v;(first|refine z3h ?_| (apply z0u;(refine z0w z18 rfl rfl ?_))|(apply z0q;(refine z0w z1a rfl rfl ?_))|(apply z3y;(first|refine z0w (z14 z1p) rfl rfl ?_| refine z0w (z2q z1p) rfl rfl ?_))|(apply z22;((refine zu2 hl (by first|exact rfl|exact⟨_,rfl,rfl,rfl⟩) rfl rfl (by decide) (by omega) (by assumption) (fun _ _ _=>?_))))|(apply z5l;(refine z61 rfl ?_)))))
     all_goals try (exfalso;omega)
     refine z4x 90 9 rfl rfl ?_
     refine z0e (ih (m-1,ms++[⟨bb,ee,ls⟩],ku) ⟨by simp only;omega,by simp only[zAa,List.length_singleton];omega,fun y hy=>?_,g4⟩ (by simp only;omega)) rfl rfl
     rcases zAs.1 hy with hy|hy
     · exact h3 y hy
     · simp only[zAp] at hy
       subst hy
       obtain rfl:i=2:=by omega
       match ls,g2,g3 with
       | [i1,i2],_,g3=>exact⟨hb2.1,hb2.2.1,hb2.2.2,i1,i2,rfl,g3 i1 (by simp),g3 i2 (by simp)⟩
 · refine z19 9 rfl ?_
   repeat' (first|(apply z04;(refine z0l ?_))|(apply z05;(first|refine z0k ?_|apply z09))|(apply z06;(first|apply z07|apply z00|apply z08|apply z01|apply z2z|refine z0h (fun _=>?_) (fun _=>?_)| refine z0o ?_))|(apply z2v;(first|refine z3h ?_| (apply z0u;(refine z0w z18 rfl rfl ?_))|(apply z0q;(refine z0w z1a rfl rfl ?_))|(apply z3n;(refine z0w (z0y rfl) rfl rfl ?_)))))
   all_goals try (exfalso;omega)
   refine z39 500 0 500 (raw:=z2g l kt) rfl rfl rfl rfl rfl ?_
   exact z0c Tryz.func13 _ z1j ⟨(ms,kt),⟨h3,by simp only;omega,h4⟩,rfl,z2t _ _ _ _⟩
def exC:z0v:=⟨[⟨⟨#[119]⟩,false⟩],[[⟨#[97]⟩],[⟨#[98]⟩],[⟨#[99]⟩]],[⟨⟨#[116]⟩,0,3,[]⟩],[],[],[1,-1,1],[⟨#[100,101,116]⟩,⟨#[]⟩,⟨#[111,98,106]⟩]⟩
theorem zx8:z0m Tryz.prog 36 [] exC.d:=by
 refine z10 fun H=>?_
 refine z0g Tryz.func36 (by kernel_rfl) rfl (by simp) ?_
 dsimp only[Tryz.f36]
 repeat' (first|(apply z04;(first|(apply z0f;(refine z2d ?_))|(apply z0i;(refine z0b z1e ?_))|(apply z1i;(refine zb3 rfl rfl rfl rfl rfl rfl (by decide) ?_))|(apply z3t;(first|refine ziu (ys:=exC.texts.map Text.cs) rfl rfl rfl rfl rfl rfl rfl rfl rfl (by decide) ?_|refine z3s rfl ?_))))|(apply z05;(first|refine z0k ?_|apply z09))|(apply z06;(first|apply z07|apply z00)))
 refine z19 8 rfl ?_
 refine z4i 0 3 600 84 4 rfl rfl rfl rfl ?_
 refine z19 600 rfl ?_
 refine z4i 0 4 601 84 4 rfl rfl rfl rfl ?_
 refine z19 601 rfl ?_
 exact z0c Tryz.func36 _ (z1s rfl rfl rfl rfl rfl rfl) ⟨rfl,rfl⟩
theorem ze0:z0m Tryz.prog 12 [] (.d (strs z2r)):=by
 refine z10 fun H=>?_
 refine z0g Tryz.func12 (by kernel_rfl) rfl (by simp) ?_
 dsimp only[Tryz.f12]
 repeat' (first|(apply z04;(first|refine z0l ?_| (apply z3t;(refine z3s (ys:=z2r.map fun x=>[z5p x]) rfl ?_))))|(apply z05;(first|refine z0k ?_|apply z09))|(apply z06;(first|apply z07|apply z00)))
 all_goals exact z0c Tryz.func12 _ z1j ⟨rfl,rfl⟩
theorem zgw {c:z0v} (hw:Wf c) (g:Lf) (h:zps g) (b e:Int) (ls:List Int) {i j:Int} (hx:z0m Tryz.prog 69 [.d (strs z2r),za2 b e ls,S g.a] (I .i64 i)) (hy:g.op≠10→z0m Tryz.prog 69 [.d (strs z2r),za2 b e ls,S g.b] (I .i64 j)) (hi:token c i=true) (hj:token c j=true) (hc:c.nodes.length≤1000000) :
 z0m Tryz.prog 32 [c.d,g.d,.d (strs z2r),za2 b e ls] (B (zhi c g i j)):=by
 have htok:=hw.tok
 have hul:=zdo c i
 have ti:=(z3d c i).1 hi
 have tj:=(z3d c j).1 hj
 have hop:=h.op
 refine z10 fun H=>?_
 refine z0g Tryz.func32 (by kernel_rfl) rfl (by simp) ?_
 dsimp only[Tryz.f32]
 by_cases h10:g.op=10
 · repeat' (first|(apply z04;(first|refine z0l ?_| (apply z0a;(first|refine z02 z2c rfl rfl ?_| refine z02 z18 rfl rfl ?_))|(apply z0d;(refine z02 z1a rfl rfl ?_))|(apply z0x;(refine z02 (z0y rfl) rfl rfl ?_))|(apply z0j;(first|refine z2s hx ?_| refine z2s (zjw hw hi) ?_))|(apply z0f;(refine z2d ?_))|(apply z0i;(refine z0b z1e ?_))|(apply z1c;(refine z0b z45 ?_))|refine z43 rfl rfl (by decide) ?_))|(apply z05;(first|refine z0k ?_|apply z09|refine z1m ?_| refine z1t (fun _=>?_) (fun _=>?_)))|(apply z06;(first|apply z07|apply z00|apply z08|apply z01|apply z2z|apply z03|refine z0h (fun _=>?_) (fun _=>?_)))|(apply z2v;(first|refine z3h ?_| (apply z0u;(first|refine z0w z2c rfl rfl ?_| refine z0w z18 rfl rfl ?_))|(apply z0q;(refine z0w z1a rfl rfl ?_)))))
   all_goals try (exfalso;omega)
   all_goals
    refine z0c Tryz.func32 _ z1j ⟨?_,rfl⟩
    rw[zhi,zAy h10]
    exact zD51
 · have hrel:=zg3 hw g h.hl j hi hc (by omega)
   repeat' (first|(apply z04;(first|refine z0l ?_| (apply z0a;(first|refine z02 z2c rfl rfl ?_| refine z02 z18 rfl rfl ?_))|(apply z0d;(refine z02 z1a rfl rfl ?_))|(apply z0j;(first|refine z2s hx ?_| refine z2s (hy h10) ?_| refine z2s hrel ?_))|(apply z0f;(refine z2d ?_))|(apply z0i;(refine z0b z1e ?_))|(apply z1c;(refine z0b z45 ?_))|(apply z1i;(refine z2x ?_))|refine z43 rfl rfl (by decide) ?_))|(apply z05;(first|refine z0k ?_|apply z09|refine z1m ?_| refine z1t (fun _=>?_) (fun _=>?_)))|(apply z06;(first|apply z07|apply z00|apply z08|apply z01|apply z2z|apply z03|refine z0h (fun _=>?_) (fun _=>?_)))|(apply z2v;(first|refine z3h ?_| (apply z0u;(first|refine z0w z2c rfl rfl ?_| refine z0w z18 rfl rfl ?_))|(apply z0q;(refine z0w z1a rfl rfl ?_)))))
   all_goals try (exfalso;omega)
   all_goals
    refine z0c Tryz.func32 _ z1j ⟨?_,rfl⟩
    rw[zhi,zAx h10]
theorem z9g {c:z0v} (hw:Wf c) (g:Lf) (h:zps g) (b e:Int) (ls:List Int) {i j:Int} (hx:z0m Tryz.prog 69 [.d (strs z2r),za2 b e ls,S g.a] (I .i64 i)) (hy:g.op≠10→z0m Tryz.prog 69 [.d (strs z2r),za2 b e ls,S g.b] (I .i64 j)) (hi:token c i=true) (hj:token c j=true) (hc:c.nodes.length≤1000000) (hll:ls.length=2) (hin:∀ t∈ls,-1≤t∧t<c.tokens.length) :
 z0m Tryz.prog 14 [c.d,g.d,.d (strs z2r),za2 b e ls] (B (zhi c g i j)):=by
 have htok:=hw.tok
 have ti:=(z3d c i).1 hi
 have tj:=(z3d c j).1 hj
 have hf:=zqm c z2r b e ls (by omega) (by omega) (by decide) hll
 have hf':z0m Tryz.prog 31 [c.d,.d (strs z2r),za2 b e ls] (B true):=by
  exact zD46
 refine z10 fun H=>?_
 refine z0g Tryz.func14 (by kernel_rfl) rfl (by simp) ?_
 dsimp only[Tryz.f14]
 repeat' (first|(apply z04;(first|refine z0l ?_| (apply z0a;(refine z02 z2c rfl rfl ?_))|(apply z0j;(first|refine z2s (zsn g h) ?_| refine z2s (zjq c g h) ?_| refine z2s hf' ?_| refine z2s (zgw hw g h b e ls hx hy hi hj hc) ?_))|(apply z1c;(refine z0b z45 ?_))))|(apply z05;(first|refine z0k ?_|apply z09))|(apply z06;(first|apply z07|apply z00)))
 all_goals first
  | exact z0c Tryz.func14 _ z1j ⟨rfl,rfl⟩
  | (exfalso;simp_all;done)
end Go.Proofs.YtonhfccmeammbaaGreatDoor
namespace Go.Proofs.YtonhfccmeammbaaGreatDoor
open Go.Ab
set_option maxHeartbeats 20000000
attribute [local irreducible] Run Ops Op1 z1x Val Tr z0m z1r NF Rel
abbrev eS:Str:=⟨#[]⟩
abbrev gcs (op:Int) (a b name arg val:Str) (fold:Bool) (mn mx:Int) (args:List Str) (kids:List (List D)):List D :=
 [z3c op,z5p a,z5p b,z5p name,z5p arg,z5p val,zhk fold,z3c mn,z3c mx,strs args,.slice kids]
structure Lq where
 op:Int
 a:Str
 b:Str
 name:Str
 arg:Str
 val:Str
 fold:Bool
 mn:Int
 mx:Int
 args:List Str
inductive Cn where
 | leaf (g:Lq)
 | not (x:Cn)
 | bin (o:Int) (x y:Cn)
def Cn.top:Cn→Lq
 | .leaf g=>g
 | .not _=>⟨11,eS,eS,eS,eS,eS,false,0,0,[]⟩
 | .bin o _ _=>⟨o,eS,eS,eS,eS,eS,false,0,0,[]⟩
abbrev qcs (g:Lq) (kids:List (List D)):List D:=gcs g.op g.a g.b g.name g.arg g.val g.fold g.mn g.mx g.args kids
def Cn.kd:Cn→List (List D)
 | .leaf _=>[]
 | .not x=>[qcs x.top x.kd]
 | .bin _ x y=>[qcs x.top x.kd,qcs y.top y.kd]
abbrev Cn.cs (x:Cn):List D:=qcs x.top x.kd
abbrev Cn.d (g:Cn):PV:=.d (.agg g.cs)
def Cn.kids:Cn→List Cn
 | .leaf _=>[]
 | .not x=>[x]
 | .bin _ x y=>[x,y]
theorem Cn.kd_eq (x:Cn):x.kd=x.kids.map Cn.cs:=by cases x <;> rfl
theorem Cn.ind {P:Cn→Prop} (h:∀ x,(∀ k∈x.kids,P k)→P x):∀ x,P x
 | .leaf g=>h _ (by simp[kids])
 | .not x=>h _ (by have:=Cn.ind h x;simpa[kids] using this)
 | .bin o x y=>h _ (by have h1:=Cn.ind h x;have h2:=Cn.ind h y;intro k hk;simp only[kids,zAc,List.not_mem_nil,or_false] at hk;rcases hk with rfl|rfl <;> assumption)
def Cn.size:Cn→Nat
 | .leaf _=>1
 | .not x=>x.size+1
 | .bin _ x y=>x.size+y.size+1
def Cn.high:Cn→Nat
 | .leaf _=>1
 | .not x=>x.high+1
 | .bin _ x y=>max x.high y.high+1
def zcs:Str:=⟨#[119,111,114,100]⟩
def zx0:Str:=⟨#[116,97,103]⟩
def zcj:List Str:=[⟨#[97]⟩,⟨#[98,124,99]⟩,⟨#[46]⟩]
structure zgx (labs:List Str) (g:Lq):Prop where
 op:1≤g.op∧g.op≤10
 la:g.a∈labs
 hb:g.op=1∨g.op=2∨g.op=10→g.b=eS
 lb:¬(g.op=1∨g.op=2∨g.op=10)→g.b∈labs
 hname:¬(g.op=2∨g.op=3∨g.op=5∨g.op=9)→g.name=eS
 harg:g.op≠3→g.arg=eS
 hval:g.op≠2→g.val=eS∧g.fold=false
 hnum:¬(g.op=4∨g.op=10)→g.mn=0∧g.mx=0
 hargs:g.op≠8→g.args=[]
 n2:g.op=2→g.name=zcs∧g.val∈zcj
 n3:g.op=3→g.name=zcs∧(g.arg=zcs∨g.arg=zx0)
 bd:-10≤g.mn∧g.mn≤10∧-10≤g.mx∧g.mx≤10
 al:g.args.length≤10
def zas (labs:List Str):Cn→Prop
 | .leaf g=>zgx labs g
 | .not x=>zas labs x
 | .bin o x y=>(o=12∨o=13)∧zas labs x∧zas labs y
theorem zas.kid {labs:List Str} {x k:Cn} (h:zas labs x) (hk:k∈x.kids):zas labs k:=by
 cases x with
 | leaf g=>simp[Cn.kids] at hk
 | not y=>simp only[Cn.kids,zAc,List.not_mem_nil,or_false] at hk;subst hk;exact h
 | bin o y z =>
  simp only[Cn.kids,zAc,List.not_mem_nil,or_false] at hk
  rcases hk with rfl|rfl
  · exact h.2.1
  · exact h.2.2
theorem zas.op0 {labs:List Str} {x:Cn} (h:zas labs x):1≤x.top.op∧x.top.op≤13:=by
 cases x with
 | leaf g=>have:=h.op;simp only[Cn.top];omega
 | not y=>simp[Cn.top]
 | bin o y z=>have:=h.1;simp only[Cn.top];omega
def shB (bs:List (Nm × Blk)):List (Nm × Blk):=bs.map fun q=>((q.1.1+1,q.1.2),q.2)
theorem zrd {n:Nat} {tm:List (Nat × PV)} {hp:Hp} {H:Hf}:∀ {bs:List (Nm × Blk)},(∀ q∈bs,H q.1.1 q.1.2=some q.2)→BkE ⟨n,tm,hp,H⟩ (shB bs)
 | [],_=>zfy
 | q::bs,h=>z29 (m:=(q.1.1+1,q.1.2)) (h q (by simp)) (zrd fun q hq=>h q (by simp[hq]))
theorem zs6 {cf:FuncId} (cap:List PV) (bs:List (Nm × Blk)) (p:Cn→Bool) (xs:List Cn) (hl:xs.length≤1000000) (hcl:∀ x∈xs,z1r Tryz.prog cf (.d (.agg x.cs)::PV.liftL 1 cap) (shB bs) [] (B (p x))) :
 z1r Tryz.prog 91 [.d (.slice (xs.map Cn.cs)),.fn (.func cf) [] cap] bs [] (I .i64 (z5a p xs 0)):=by
 refine z2h fun H hH=>?_
 refine z0g Tryz.func91 (by kernel_rfl) rfl (by simp) ?_
 dsimp only[Tryz.f91]
 repeat' (first|(apply z04;(first|refine z0l ?_| (apply z0x;(refine z02 (z0y rfl) rfl rfl ?_))))|(apply z05;(first|refine z0k ?_|apply z09))|(apply z06;(first|apply z07|apply z00|apply z01)))
 refine z0t ?_
 refine z0e (z1v (fun q:Nat=>⟨19,[(0,.d (.slice (xs.map Cn.cs))),(1,.fn (.func cf) [] (PV.liftL 1 cap)),(7,I .i64 xs.length),(8,I .i64 (q:Nat))],[],H⟩) (fun q=>q≤xs.length∧z5a p (xs.drop q) q=z5a p xs 0) (fun q=>xs.length-q) ?_ 0 ⟨zAf _,rfl⟩) rfl rfl
 intro k ⟨hk,hi⟩ ih
 by_cases hlt:k<xs.length
 · obtain⟨x,hx⟩:∃ x,xs[k]? =some x:=⟨_,zA0 hlt⟩
   have hm:=zA2 hx
   rw[z4h hx,z5a] at hi
   repeat' (first|(apply z04;(first|refine z0l ?_| (apply z0a;(refine z02 z2j rfl rfl ?_))|(apply z0n;(refine z02 (z1o rfl (idx hx)) rfl rfl ?_))|(apply z0z;(refine z02 (z14 z1p) rfl rfl ?_))|(apply z0j;(refine zhm (first:=[]) (cap:=PV.liftL 1 cap) (ps:=[.d (.agg x.cs)]) (bs:=shB bs) (hcl x hm) rfl rfl (zrd hH) (by decide) ?_))))|(apply z05;(first|refine z0k ?_|apply z09))|(apply z06;(first|apply z07|apply z00|apply z08|apply z01|apply z03|refine z0h (fun _=>?_) (fun _=>?_)| refine z2i rfl (fun _=>?_) (fun _=>?_)|refine z0o ?_)))
   all_goals try (exfalso;omega)
   all_goals first
    | (refine z0c Tryz.func91 _ z1j ⟨?_,rfl⟩;rw[← hi,zAy (by assumption)])
    | exact z0e (ih (k+1) ⟨by omega,by rw[← hi,zAx (by simp_all)]⟩ (by omega)) rfl rfl
 · obtain rfl:k=xs.length:=by omega
   rw[zAr,z5a] at hi
   repeat' (first|(apply z04;(refine z0l ?_))|(apply z05;(first|refine z0k ?_|apply z09))|(apply z06;(first|apply z07|apply z00|apply z08|apply z01|refine z0h (fun _=>?_) (fun _=>?_)| refine z0o ?_)))
   all_goals try (exfalso;omega)
   all_goals exact z0c Tryz.func91 _ z1j ⟨by rw[← hi],rfl⟩
theorem zey {cf:FuncId} (cap:List PV) (bs:List (Nm × Blk)) (p:Cn→Bool) (xs:List Cn) (hl:xs.length≤1000000) (hcl:∀ x∈xs,z1r Tryz.prog cf (.d (.agg x.cs)::PV.liftL 1 (PV.liftL 1 cap)) (shB (shB bs)) [] (B (p x))) :
 z1r Tryz.prog 63 [.d (.slice (xs.map Cn.cs)),.fn (.func cf) [] cap] bs [] (B (xs.any p)):=by
 refine z2h fun H hH=>?_
 refine z0g Tryz.func63 (by kernel_rfl) rfl (by simp) ?_
 dsimp only[Tryz.f63]
 repeat' (first|(apply z04;(first|refine z0l ?_| (apply z0j;(refine z3u (zs6 (PV.liftL 1 cap) (shB bs) p xs hl hcl) rfl (zrd hH) (by decide) ?_))))|(apply z05;(first|refine z0k ?_|apply z09))|(apply z06;(first|apply z07|apply z00)))
 all_goals exact z0c Tryz.func63 _ z1j ⟨by rw[← z81 p xs 0],rfl⟩
theorem ztf {labs:List Str} (x:Cn) (h:zas labs x):z0m Tryz.prog 57 [x.d] (B false):=by
 have:=h.op0
 refine z10 fun H=>?_
 refine z0g Tryz.func57 (by kernel_rfl) rfl (by simp) ?_
 dsimp only[Tryz.f57]
 repeat' (first|(apply z04;(first|refine z0l ?_| (apply z0a;(refine z02 z18 rfl rfl ?_))|(apply z0d;(refine z02 z1a rfl rfl ?_))|(apply z0x;(first|refine z02 (z0y rfl) rfl rfl ?_| refine z02 (z7c rfl) rfl rfl ?_))|(apply z1c;(refine z0b z1q ?_))))|(apply z05;(first|refine z0k ?_|apply z09|refine z1m ?_| refine z1t (fun _=>?_) (fun _=>?_)| refine zao rfl rfl (fun _=>?_) (fun _=>?_)))|(apply z06;(first|apply z07|apply z00)))
 all_goals first
  | (exfalso;omega)
  | exact z0c Tryz.func57 _ z1j ⟨rfl,rfl⟩
theorem Cn.size_pos (x:Cn):1≤x.size∧1≤x.high:=by cases x <;> simp[size,high]
theorem zvg {a b c d:Int} (h:a=b) (h':c=d):RV.v (.tup [I .i64 a,I .i64 c])=RV.v (.tup [I .i64 b,I .i64 d]):=by subst h;subst h';rfl
theorem z88:∀ (x:Cn) (n d:Int),0≤n→n+x.size≤60→0≤d→d+x.high≤1000→z0m Tryz.prog 58 [x.d,I .i64 n,I .i64 d] (.tup [I .i64 (n+x.size),I .i64 (d+x.high-1)])
 | .leaf g,n,d,h1,h2,h3,h4=>by
  simp only[Cn.size,Cn.high] at h1 h2 h3 h4 ⊢
  refine z10 fun H=>?_
  refine z0g Tryz.func58 (by kernel_rfl) rfl (by simp) ?_
  dsimp only[Tryz.f58]
  repeat' (first|(apply z04;(first|refine z0l ?_| (apply z0a;(refine z02 z18 rfl rfl ?_))|(apply z0d;(refine z02 z1a rfl rfl ?_))|(apply z0z;(refine z02 (z14 z1p) rfl rfl ?_))|(apply z0x;(refine z02 (z7c rfl) rfl rfl ?_))|(apply z1c;(refine z0b z1q ?_))))|(apply z05;(first|refine z0k ?_|apply z09))|(apply z06;(first|apply z07|apply z00|apply z01)))
  refine z0t ?_
  refine z3i ?_
  repeat' (first|(apply z04;(refine z0l ?_))|(apply z05;(first|refine z0k ?_|apply z09))|(apply z06;(first|apply z07|apply z00|refine z1f ?_| refine z0o ?_)))
  all_goals try (exfalso;omega)
  all_goals exact z0c Tryz.func58 _ z2m ⟨by rw[show d+((1:Nat):Int)-1=d by omega];rfl,rfl⟩
 | .not y,n,d,h1,h2,h3,h4=>by
  have ih:=z88 y (n+1) (d+1)
  have hp:=y.size_pos
  simp only[Cn.size,Cn.high] at h1 h2 h3 h4 ih ⊢
  have ih:=ih (by omega) (by omega) (by omega) (by omega)
  have hlen:([y.cs]:List (List D)).length=1:=rfl
  rw[show (Cn.not y).d=.d (.agg (gcs 11 eS eS eS eS eS false 0 0 [] [y.cs])) from rfl]
  refine z10 fun H=>?_
  refine z0g Tryz.func58 (by kernel_rfl) rfl (by simp) ?_
  dsimp only[Tryz.f58]
  repeat' (first|(apply z04;(first|refine z0l ?_| (apply z0a;(refine z02 z18 rfl rfl ?_))|(apply z0d;(refine z02 z1a rfl rfl ?_))|(apply z0z;(refine z02 (z14 z1p) rfl rfl ?_))|(apply z0x;(refine z02 (z7c rfl) rfl rfl ?_))|(apply z1c;(refine z0b z1q ?_))))|(apply z05;(first|refine z0k ?_|apply z09))|(apply z06;(first|apply z07|apply z00|apply z01)))
  refine z0t ?_
  refine z3i ?_
  repeat' (first|(apply z04;(first|refine z0l ?_| (apply z0a;(first|refine z02 z2j rfl rfl ?_| refine z02 z2a rfl rfl ?_))|(apply z0n;(refine z02 (z23 (u:=y.cs) rfl (by omega) rfl rfl) rfl rfl ?_))|(apply z0z;(refine z02 (z14 z1p) rfl rfl ?_))|(apply z0x;(refine z02 ze4 rfl rfl ?_))|(apply z0j;(refine z2s ih ?_))|(apply z0f;(refine z2d ?_))|(apply z0i;(refine z0b z1e ?_))))|(apply z05;(first|refine z0k ?_|apply z09))|(apply z06;(first|apply z07|apply z00|refine z1b rfl ?_|apply z08|apply z01|apply z03|refine z0h (fun _=>?_) (fun _=>?_)| refine z0o ?_)))
  all_goals try (exfalso;omega)
  exact zD34
 | .bin o y z,n,d,h1,h2,h3,h4=>by
  have ih:=z88 y (n+1) (d+1)
  have ih2:=z88 z (n+1+y.size) (d+1)
  have hp:=y.size_pos
  have hp2:=z.size_pos
  simp only[Cn.size,Cn.high] at h1 h2 h3 h4 ih ih2 ⊢
  have ih:=ih (by omega) (by omega) (by omega) (by omega)
  have ih2:=ih2 (by omega) (by omega) (by omega) (by omega)
  have hlen:([y.cs,z.cs]:List (List D)).length=2:=rfl
  rw[show (Cn.bin o y z).d=.d (.agg (gcs o eS eS eS eS eS false 0 0 [] [y.cs,z.cs])) from rfl]
  refine z10 fun H=>?_
  refine z0g Tryz.func58 (by kernel_rfl) rfl (by simp) ?_
  dsimp only[Tryz.f58]
  repeat' (first|(apply z04;(first|refine z0l ?_| (apply z0a;(refine z02 z18 rfl rfl ?_))|(apply z0d;(refine z02 z1a rfl rfl ?_))|(apply z0z;(refine z02 (z14 z1p) rfl rfl ?_))|(apply z0x;(refine z02 (z7c rfl) rfl rfl ?_))|(apply z1c;(refine z0b z1q ?_))))|(apply z05;(first|refine z0k ?_|apply z09))|(apply z06;(first|apply z07|apply z00|apply z01)))
  refine z0t ?_
  refine z3i ?_
  repeat' (first|(apply z04;(first|refine z0l ?_| (apply z0a;(first|refine z02 z2j rfl rfl ?_| refine z02 z2a rfl rfl ?_))|(apply z0n;(refine z02 (z23 (u:=y.cs) rfl (by omega) rfl rfl) rfl rfl ?_))|(apply z0z;(refine z02 (z14 z1p) rfl rfl ?_))|(apply z0x;(refine z02 ze4 rfl rfl ?_))|(apply z0j;(refine z2s ih ?_))|(apply z0f;(refine z2d ?_))|(apply z0i;(refine z0b z1e ?_))))|(apply z05;(first|refine z0k ?_|apply z09))|(apply z06;(first|apply z07|apply z00|refine z1b rfl ?_|apply z08|apply z01|apply z03|refine z0h (fun _=>?_) (fun _=>?_)| refine z0o ?_)))
  all_goals try (exfalso;omega)
  refine z0e (tm':=[(1,I .i64 (n+1+y.size)),(2,I .i64 d),(8,I .i64 (max d (d+1+y.high-1))),(17,.d (.slice [y.cs,z.cs])),(18,I .i64 ([y.cs,z.cs]:List (List D)).length),(19,I .i64 (0+1))]) (hp':=[(3,.box ((gcs o eS eS eS eS eS false 0 0 [] [y.cs,z.cs]).map .d))]) ?_ rfl rfl
  refine z3i ?_
  repeat' (first|(apply z04;(first|refine z0l ?_| (apply z0a;(first|refine z02 z2j rfl rfl ?_| refine z02 z2a rfl rfl ?_))|(apply z0n;(refine z02 (z23 (u:=z.cs) rfl (by omega) rfl rfl) rfl rfl ?_))|(apply z0z;(refine z02 (z14 z1p) rfl rfl ?_))|(apply z0x;(refine z02 ze4 rfl rfl ?_))|(apply z0j;(refine z2s ih2 ?_))|(apply z0f;(refine z2d ?_))|(apply z0i;(refine z0b z1e ?_))))|(apply z05;(first|refine z0k ?_|apply z09))|(apply z06;(first|apply z07|apply z00|refine z1b rfl ?_|apply z08|apply z01|apply z03|refine z0h (fun _=>?_) (fun _=>?_)| refine z0o ?_)))
  all_goals try (exfalso;omega)
  exact zD34
attribute [local irreducible] z47 z1u
def wtL:List Str:=[zcs,zx0]
def zy6:List Str:=[⟨#[111,98,106]⟩,⟨#[100,101,116]⟩,⟨#[]⟩]
def zyt:List Str:=[⟨#[83]⟩,⟨#[78,80]⟩,⟨#[86,80]⟩]
section
variable {labs:List Str} {a b:Str} (ma:a∈labs) (mb:b∈labs)
include ma
theorem q1:zgx labs ⟨1,a,eS,eS,eS,eS,false,0,0,[]⟩:=by constructor <;> simp_all
theorem q2 {v:Str} (hv:v∈zcj) (f:Bool):zgx labs ⟨2,a,eS,zcs,eS,v,f,0,0,[]⟩:=by constructor <;> simp_all
theorem q10 {n m:Int} (h:-10≤n∧n≤10∧-10≤m∧m≤10):zgx labs ⟨10,a,eS,eS,eS,eS,false,n,m,[]⟩:=by constructor <;> simp_all
include mb
theorem q3 {v:Str} (hv:v∈wtL):zgx labs ⟨3,a,b,zcs,v,eS,false,0,0,[]⟩:=by constructor <;> simp_all [wtL]
theorem q4 {n m:Int} (h:-10≤n∧n≤10∧-10≤m∧m≤10):zgx labs ⟨4,a,b,eS,eS,eS,false,n,m,[]⟩:=by constructor <;> simp_all
theorem q5 (t:Str):zgx labs ⟨5,a,b,t,eS,eS,false,0,0,[]⟩:=by constructor <;> simp_all
theorem q6:zgx labs ⟨6,a,b,eS,eS,eS,false,0,0,[]⟩:=by constructor <;> simp_all
theorem q7:zgx labs ⟨7,a,b,eS,eS,eS,false,0,0,[]⟩:=by constructor <;> simp_all
theorem q8 {l:List Str} (h:l.length≤10):zgx labs ⟨8,a,b,eS,eS,eS,false,0,0,l⟩:=by constructor <;> simp_all
theorem q9 (t:Str):zgx labs ⟨9,a,b,t,eS,eS,false,0,0,[]⟩:=by constructor <;> simp_all
end
theorem z7h (l:List Int) (labs:List Str) (hl:l.length≤120) (hn:0<labs.length∧labs.length≤1000):∀ (dp:Nat) (k:Nat),dp≤10→k≤120 →
 Rel Tryz.prog 11 [.ptr (0,501) 0,I .i64 (dp:Nat),.d (strs labs)] [((0,501),z2g l k)]
  (fun x:Cn × Nat=>zas labs x.1∧x.1.high≤dp+1∧x.2≤120) (fun x=>x.1.d) (fun x=>[((0,501),z2g l x.2)]):=by
 intro dp
 induction dp using Nat.strongRecOn with
 | ind dp ihd =>
  intro k hd hk
  refine zd5 fun H hH=>?_
  have hH0:=hH ((0,501),z2g l k) (by simp)
  refine z0g Tryz.func11 (by kernel_rfl) rfl (by simp) ?_
  dsimp only[Tryz.f11]
  refine z4g 501 0 501 hH0 rfl rfl ?_
  refine z0e (tm':=[(0,.ptr (0,501) 0),(1,I .i64 (dp:Nat)),(2,.d (strs labs)),(100501,.al (0,501) (1,501))]) (hp':=[(501,z2g l k)]) ?_ rfl rfl
  have nb1:0≤z47 l (z1u l k) labs.length∧z47 l (z1u l k) labs.length<labs.length:=⟨tn0 (by omega),tn1 (by omega)⟩
  have nb2:0≤z47 l (z1u l (z1u l k)) labs.length∧z47 l (z1u l (z1u l k)) labs.length<labs.length:=⟨tn0 (by omega),tn1 (by omega)⟩
  have hA:=z3j (l:=labs) nb1.1 nb1.2
  have hB:=z3j (l:=labs) nb2.1 nb2.2
  generalize atL labs (z47 l (z1u l k) labs.length)=a at hA
  generalize atL labs (z47 l (z1u l (z1u l k)) labs.length)=b at hB
  have ma:=zA2 hA
  have mb:=zA2 hB
  have e0:=z3j (l:=zcj) (i:=z47 l (z1u l (z1u l (z1u l k))) 3) (tn0 (by decide)) (Int.lt_of_lt_of_le (tn1 (by decide)) (by decide))
  have w0:=z3j (l:=wtL) (i:=z47 l (z1u l (z1u l (z1u l k))) 2) (tn0 (by decide)) (Int.lt_of_lt_of_le (tn1 (by decide)) (by decide))
  have n0:=z3j (l:=zyt) (i:=z47 l (z1u l (z1u l (z1u l k))) 3) (tn0 (by decide)) (Int.lt_of_lt_of_le (tn1 (by decide)) (by decide))
  have ih:1≤dp→∀ k,k≤120→Rel Tryz.prog 11 [.ptr (0,501) 0,I .i64 ((dp:Int)-1),.d (strs labs)] [((0,501),z2g l k)]
   (fun x:Cn × Nat=>zas labs x.1∧x.1.high≤dp∧x.2≤120) (fun x=>x.1.d) (fun x=>[((0,501),z2g l x.2)]):=fun h1 k hk=>by
   have:=ihd (dp-1) (by omega) k (by omega) hk
   rw[show ((dp-1:Nat):Int)=(dp:Int)-1 by omega,show dp-1+1=dp by omega] at this
   exact this
  clear ihd
  repeat' (first|(apply z04;(first|refine z0l ?_| (apply z0a;(refine z02 z2p rfl rfl ?_))|(apply z0n;(first|refine z02 (z23 rfl (tn0 (by decide)) (z6u w0) rfl) rfl rfl ?_| refine z02 (z23 rfl (tn0 (by decide)) (z6u n0) rfl) rfl rfl ?_))|(apply z0z;(first|refine z02 (zvy (by omega) (by omega)) rfl rfl ?_| refine z02 (z14 z1p) rfl rfl ?_| refine z02 (z2q z1p) rfl rfl ?_))|(apply z0j;(first|(refine z5c (ih (by omega) _ (by assumption)) rfl rfl (by decide) ?_;rintro⟨x,k1⟩ ⟨hx1,hx2,hx3⟩;simp only at hx1 hx2 hx3 ⊢)|(refine zo0 hl rfl rfl (by decide) (by omega) (by assumption) (fun _ _ _=>?_))|refine z2s (zqc _) ?_))|(apply z0f;(refine z2d ?_))|(apply z0i;(refine z0b z1e ?_))|(apply z1i;(refine zb3 rfl rfl rfl rfl rfl rfl (by decide) ?_))|(apply z3t;(first|refine z3s (ys:=zyt.map fun x=>[z5p x]) rfl ?_| refine z3s (ys:=wtL.map fun x=>[z5p x]) rfl ?_| refine z3s (ys:=[Cn.cs _,Cn.cs _]) rfl ?_| refine z3s (ys:=[Cn.cs _]) rfl ?_))))|(apply z05;(first|refine z0k ?_|apply z09))|(apply z06;(first|apply z07|apply z00|apply z08|apply z01|apply z2z|apply z03|refine z0h (fun _=>?_) (fun _=>?_)))|(apply z2v;(first|(apply z1l;refine z2n mix ?_)|refine z3h ?_| (apply z0u;(refine z0w z2p rfl rfl ?_))|(apply z1n;(first|refine z0w (z23 rfl nb1.1 (z6u hA) rfl) rfl rfl ?_| refine z0w (z23 rfl nb2.1 (z6u hB) rfl) rfl rfl ?_| refine z0w (z23 rfl (tn0 (by decide)) (z6u e0) rfl) rfl rfl ?_))|(apply z3n;(refine z0w (z0y rfl) rfl rfl ?_))|(apply z22;((refine zu2 hl (by first|exact rfl|exact⟨_,rfl,rfl,rfl⟩) rfl rfl (by decide) (by omega) (by assumption) (fun _ _ _=>?_))))|(apply z2k;(refine z5o (by first|exact rfl|exact⟨_,rfl,rfl,rfl⟩) rfl rfl rfl rfl rfl rfl ?_))|(apply z89;(refine zal (by first|exact rfl|exact⟨_,rfl,rfl,rfl⟩) rfl rfl rfl rfl rfl rfl rfl (by decide) ?_))|(apply z5l;(refine z61 (ys:=zcj.map fun x=>[z5p x]) rfl ?_)))))
  all_goals try (exfalso;omega)
  all_goals try (
   refine z39 501 0 501 (raw:=z2g l _) rfl rfl rfl rfl rfl ?_
   first
    | exact z0c Tryz.func11 _ (z1s rfl rfl rfl rfl rfl rfl) ⟨(.leaf _,_),⟨q1 ma,by simp[Cn.high],by assumption⟩,rfl,z2t _ _ _ _⟩
    | exact z0c Tryz.func11 _ (z1s rfl rfl rfl rfl rfl rfl) ⟨(.leaf _,_),⟨q2 ma (zA2 e0) _,by simp[Cn.high],by assumption⟩,rfl,z2t _ _ _ _⟩
    | exact z0c Tryz.func11 _ (z1s rfl rfl rfl rfl rfl rfl) ⟨(.leaf _,_),⟨q3 ma mb (zA2 w0),by simp[Cn.high],by assumption⟩,rfl,z2t _ _ _ _⟩
    | exact z0c Tryz.func11 _ (z1s rfl rfl rfl rfl rfl rfl) ⟨(.leaf _,_),⟨q4 ma mb (by omega),by simp[Cn.high],by assumption⟩,rfl,z2t _ _ _ _⟩
    | exact z0c Tryz.func11 _ (z1s rfl rfl rfl rfl rfl rfl) ⟨(.leaf _,_),⟨q5 ma mb _,by simp[Cn.high],by assumption⟩,rfl,z2t _ _ _ _⟩
    | exact z0c Tryz.func11 _ (z1s rfl rfl rfl rfl rfl rfl) ⟨(.leaf _,_),⟨q6 ma mb,by simp[Cn.high],by assumption⟩,rfl,z2t _ _ _ _⟩
    | exact z0c Tryz.func11 _ (z1s rfl rfl rfl rfl rfl rfl) ⟨(.leaf _,_),⟨q7 ma mb,by simp[Cn.high],by assumption⟩,rfl,z2t _ _ _ _⟩
    | exact z0c Tryz.func11 _ (z1s rfl rfl rfl rfl rfl rfl) ⟨(.leaf _,_),⟨q9 ma mb _,by simp[Cn.high],by assumption⟩,rfl,z2t _ _ _ _⟩
    | exact z0c Tryz.func11 _ (z1s rfl rfl rfl rfl rfl rfl) ⟨(.leaf _,_),⟨q10 ma (by omega),by simp[Cn.high],by assumption⟩,rfl,z2t _ _ _ _⟩
    | (refine z0c Tryz.func11 _ (z1s rfl rfl rfl rfl rfl rfl) ⟨(.not _,_),⟨?_,?_,?_⟩,rfl,z2t _ _ _ _⟩ <;> first|assumption|(simp only[Cn.high];omega))
    | (refine z0c Tryz.func11 _ (z1s rfl rfl rfl rfl rfl rfl) ⟨(.bin _ _ _,_),⟨⟨by omega,?_,?_⟩,?_,?_⟩,rfl,z2t _ _ _ _⟩ <;> first|assumption|(simp only[Cn.high];omega)))
  all_goals
   refine z4i 11 9 600 9 1 rfl rfl rfl rfl ?_
   refine z0t ?_
   refine z0e (z1v (fun q:Int × List Str × Nat=>⟨159,[(0,.ptr (0,501) 0),(6,.ptr (0,6) 0),(11,.ptr (0,11) 0),(12,I .i64 q.1),(100501,.al (0,501) (1,501))],[(600,.row 9 1 (q.2.1.map fun x=>[z5p x])),(501,z2g l q.2.2),(11,.box [I .i64 8,S a,S b,S eS,S eS,S eS,B false,I .i64 0,I .i64 0,.ref (0,600),.d (.lit z1k)]),(6,.box [I .i64 0,S eS,S eS,S eS,S eS,S eS,B false,I .i64 0,I .i64 0,.d (.lit z1k),.d (.lit z1k)])],upd H (0,501) .gone⟩)
    (fun q=>0≤q.1∧(q.2.1.length:Int)+q.1≤3∧q.2.2≤120) (fun q=>q.1.toNat) ?_ (_,[],_) ⟨by assumption,by simp only[List.length_nil];omega,by assumption⟩) rfl rfl
   intro ⟨m,ls,kt⟩ ⟨h1,h2,h3⟩ ih2
   simp only at h1 h2 h3 ih2 ⊢
   have p0:=z3j (l:=zy6) (i:=z47 l kt 3) (tn0 (by decide)) (Int.lt_of_lt_of_le (tn1 (by decide)) (by decide))
   by_cases hm0:0<m
   · repeat' (first|(apply z04;(first|refine z0l ?_| (apply z0z;(refine z02 (z2q z1p) rfl rfl ?_))))|(apply z05;(first|refine z0k ?_|apply z09))|(apply z06;(first|apply z07|apply z00|apply z08|apply z01|apply z2z|apply z03|refine z0h (fun _=>?_) (fun _=>?_)| refine z0o ?_))|(apply z2v;(first|(apply z1l;refine z2n mix ?_)|refine z3h ?_| (apply z0u;(first|refine z0w z18 rfl rfl ?_| refine z0w z2p rfl rfl ?_))|(apply z0q;(refine z0w z1a rfl rfl ?_))|(apply z1n;(refine z0w (z23 rfl (tn0 (by decide)) (z6u p0) rfl) rfl rfl ?_))|(apply z3n;(refine z9k (by first|exact rfl|exact⟨_,rfl,rfl,rfl⟩) rfl rfl _ rfl rfl rfl rfl rfl rfl rfl (by decide) (by omega) ?_))|(apply z22;((refine zu2 hl (by first|exact rfl|exact⟨_,rfl,rfl,rfl⟩) rfl rfl (by decide) (by omega) (by assumption) (fun _ _ _=>?_))))|(apply z2k;(refine z55 (by first|exact rfl|exact⟨_,rfl,rfl,rfl⟩) rfl rfl rfl rfl rfl ?_))|(apply z5l;(first|refine z61 (ys:=zy6.map fun x=>[z5p x]) rfl ?_| refine z61 rfl ?_)))))
     all_goals try (exfalso;omega)
     refine z4x 111 600 rfl rfl ?_
     exact z0e (ih2 (m-1,ls++[atL zy6 (z47 l kt 3)],z1u l kt) ⟨by simp only;omega,by simp only[zAa,List.length_singleton];omega,by assumption⟩ (by simp only;omega)) rfl rfl
   · refine z19 600 rfl ?_
     repeat' (first|(apply z04;(first|refine z0l ?_| (apply z0a;(refine z02 z2a rfl rfl ?_))|(apply z0f;(refine z2d ?_))))|(apply z05;(first|refine z0k ?_|apply z09))|(apply z06;(first|apply z07|apply z00|apply z08|apply z01|apply z2z|refine z0h (fun _=>?_) (fun _=>?_)| refine z0o ?_))|(apply z2v;(first|refine z3h ?_| (apply z0u;(refine z0w z18 rfl rfl ?_))|(apply z0q;(refine z0w z1a rfl rfl ?_))|(apply z5l;(refine z61 rfl ?_)))))
     all_goals try (exfalso;omega)
     refine z39 501 0 501 (raw:=z2g l _) rfl rfl rfl rfl rfl ?_
     exact z0c Tryz.func11 _ (z1s rfl rfl rfl rfl rfl rfl) ⟨(.leaf _,_),⟨q8 ma mb (by omega),by simp[Cn.high],by assumption⟩,rfl,z2t _ _ _ _⟩
end Go.Proofs.YtonhfccmeammbaaGreatDoor
namespace Go.Proofs.YtonhfccmeammbaaGreatDoor
open Go.Ab Go.Rx
set_option maxHeartbeats 20000000
attribute [local irreducible] Run Ops Op1 z1x Val Tr z0m z1r NF Rel
theorem zre {labs:List Str}:∀ (x:Cn),zas labs x→z0m Tryz.prog 60 [x.d] (B true)
 | .leaf g,h=>by
  refine z10 fun H=>?_
  refine z0g Tryz.func60 (by kernel_rfl) rfl (by simp) ?_
  dsimp only[Tryz.f60]
  obtain⟨op,a,b,name,arg,val,fold,mn,mx,args⟩:=g
  obtain⟨h1,-,h3,-,h5,h6,h7,h8,h9,-,-,-,h10⟩:=h
  simp only at h1 h3 h5 h6 h7 h8 h9 h10
  have hop:op=1∨op=2∨op=3∨op=4∨op=5∨op=6∨op=7∨op=8∨op=9∨op=10:=by omega
  rcases hop with rfl|rfl|rfl|rfl|rfl|rfl|rfl|rfl|rfl|rfl
  all_goals
   first|(have e3:=h3 (by decide);subst e3)|skip
   first|(have e3:=h5 (by decide);subst e3)|skip
   first|(have e3:=h6 (by decide);subst e3)|skip
   first|(have e3:=h7 (by decide);obtain⟨rfl,rfl⟩:=e3)|skip
   first|(have e3:=h8 (by decide);obtain⟨rfl,rfl⟩:=e3)|skip
   first|(have e3:=h9 (by decide);subst e3)|skip
   clear h1 h3 h5 h6 h7 h8 h9
   rw[show ∀ o a b n g v f i j r,(Cn.leaf ⟨o,a,b,n,g,v,f,i,j,r⟩).d=.d (.agg (gcs o a b n g v f i j r [])) from fun _ _ _ _ _ _ _ _ _ _=>rfl]
   repeat' (first|(apply z04;(first|refine z0l ?_| (apply z0a;(refine z02 z18 rfl rfl ?_))|(apply z0d;(refine z02 z1a rfl rfl ?_))|(apply z0z;(refine z02 (zaw rfl) rfl rfl ?_))|(apply z0x;(first|refine z02 (zbr rfl) rfl rfl ?_| refine z02 (z0y rfl) rfl rfl ?_| refine z02 (z7c rfl) rfl rfl ?_))|(apply z0f;(refine z2d ?_))|(apply z0i;(refine z0b z1e ?_))|(apply z1c;(refine z0b z1q ?_))|(apply z1i;(refine z2x ?_))))|(apply z05;(first|refine z0k ?_|apply z09|refine z1m ?_| refine z1t (fun _=>?_) (fun _=>?_)))|(apply z06;(first|apply z07|apply z00|refine z1b rfl ?_|refine z1f ?_| apply z08|apply z01|apply z2z|apply z03))|(apply z2v;(first|(apply z1l;refine z2n mix ?_)|(apply z0u;(refine z0w z18 rfl rfl ?_))|(apply z0q;(refine z0w z1a rfl rfl ?_))|(apply z2k;(refine z5o (by first|exact rfl|exact⟨_,rfl,rfl,rfl⟩) rfl rfl rfl rfl rfl rfl ?_)))))
   all_goals exact zD16
 | .not y,h=>by
  refine z10 fun H=>?_
  refine z0g Tryz.func60 (by kernel_rfl) rfl (by simp) ?_
  dsimp only[Tryz.f60]
  have hlen:([y.cs]:List (List D)).length=1:=rfl
  rw[show (Cn.not y).d=.d (.agg (gcs 11 eS eS eS eS eS false 0 0 [] [y.cs])) from rfl]
  repeat' (first|(apply z04;(first|refine z0l ?_| (apply z0a;(refine z02 z18 rfl rfl ?_))|(apply z0d;(refine z02 z1a rfl rfl ?_))|(apply z0z;(refine z02 (zaw rfl) rfl rfl ?_))|(apply z0x;(first|refine z02 (zbr rfl) rfl rfl ?_| refine z02 (z0y rfl) rfl rfl ?_| refine z02 (z7c rfl) rfl rfl ?_))|(apply z0f;(refine z2d ?_))|(apply z0i;(refine z0b z1e ?_))|(apply z1c;(refine z0b z1q ?_))|(apply z1i;(refine z2x ?_))))|(apply z05;(first|refine z0k ?_|apply z09))|(apply z06;(first|apply z07|apply z00|refine z1b rfl ?_|refine z1f ?_| apply z01|apply z03)))
  all_goals exact zD16
 | .bin o y z,h=>by
  have ho:=h.1
  refine z10 fun H=>?_
  refine z0g Tryz.func60 (by kernel_rfl) rfl (by simp) ?_
  dsimp only[Tryz.f60]
  have hlen:([y.cs,z.cs]:List (List D)).length=2:=rfl
  rw[show (Cn.bin o y z).d=.d (.agg (gcs o eS eS eS eS eS false 0 0 [] [y.cs,z.cs])) from rfl]
  repeat' (first|(apply z04;(first|refine z0l ?_| (apply z0a;(refine z02 z18 rfl rfl ?_))|(apply z0d;(refine z02 z1a rfl rfl ?_))|(apply z0z;(refine z02 (zaw rfl) rfl rfl ?_))|(apply z0x;(first|refine z02 (zbr rfl) rfl rfl ?_| refine z02 (z0y rfl) rfl rfl ?_| refine z02 (z7c rfl) rfl rfl ?_))|(apply z0f;(refine z2d ?_))|(apply z0i;(refine z0b z1e ?_))|(apply z1c;(refine z0b z1q ?_))|(apply z1i;(refine z2x ?_))))|(apply z05;(first|refine z0k ?_|apply z09))|(apply z06;(first|apply z07|apply z00|apply z08|apply z01|apply z2z|apply z03|refine z0h (fun _=>?_) (fun _=>?_)))|(apply z2v;(first|(apply z1l;refine z2n mix ?_)|(apply z0u;(refine z0w z18 rfl rfl ?_))|(apply z0q;(refine z0w z1a rfl rfl ?_))|(apply z2k;(refine z5o (by first|exact rfl|exact⟨_,rfl,rfl,rfl⟩) rfl rfl rfl rfl rfl rfl ?_)))))
  all_goals exact zD16
abbrev zfq:PV:=.fn (.func 60) [] []
theorem zil (x:Cn):x.kids.length≤2:=by cases x <;> simp[Cn.kids]
theorem any_false (l:List Cn):l.any (fun _=>false)=false:=by simp
theorem zo9 {labs:List Str}:∀ (x:Cn),zas labs x→z0m Tryz.prog 59 [x.d,zfq] (B true):=by
 intro x
 induction x using Cn.ind with
 | _ x ih =>
  intro h
  have hc:∀ k∈x.kids,z1r Tryz.prog 87 [.d (.agg k.cs),.ptr (2,3) 0] [((2,3),.box [zfq])] [] (B false):=fun k hk=>by
   have i1:=ih k hk (h.kid hk)
   refine z2h fun H hH=>?_
   have hH0:=hH ((2,3),.box [zfq]) (by simp)
   refine z0g Tryz.func87 (by kernel_rfl) rfl (by simp) ?_
   dsimp only[Tryz.f87]
   repeat' (first|(apply z04;(first|refine z0l ?_| (apply z0a;(first|refine z02 (z18 (b:=.box [zfq])) rfl (bk1 hH0) ?_| refine z02 z2c rfl rfl ?_))|(apply z0j;(refine z2s i1 ?_))|(apply z1c;(refine z0b z1q ?_))))|(apply z05;(first|refine z0k ?_|apply z09))|(apply z06;(first|apply z07|apply z00)))
   all_goals exact z0c Tryz.func87 _ z1j ⟨rfl,rfl⟩
  have hk:=zey (cf:=87) [.ptr (0,3) 0] [((0,3),.box [zfq])] (fun _=>false) x.kids (by have:=zil x;omega) hc
  rw[any_false,← Cn.kd_eq] at hk
  have ha:=zre x h
  refine z10 fun H=>?_
  refine z0g Tryz.func59 (by kernel_rfl) rfl (by simp) ?_
  dsimp only[Tryz.f59]
  repeat' (first|(apply z04;(first|refine z0l ?_| (apply z0a;(first|refine z02 z2c rfl rfl ?_| refine z02 z18 rfl rfl ?_))|(apply z0d;(refine z02 z1a rfl rfl ?_))|(apply z0j;(first|refine zl2 (first:=[]) (cap:=[]) (ps:=[x.d]) ha rfl rfl (by decide) ?_|refine z3u hk rfl rfl (by decide) ?_))|(apply z1c;(refine z0b z45 ?_))|refine z43 rfl rfl (by decide) ?_))|(apply z05;(first|refine z0k ?_|apply z09))|(apply z06;(first|apply z07|apply z00)))
  all_goals first
   | exact z0c Tryz.func59 _ z1j ⟨rfl,rfl⟩
   | (exfalso;simp_all;done)
theorem z9e:∀ x:Cn,x.size<2 ^ x.high
 | .leaf g=>by simp[Cn.size,Cn.high]
 | .not y=>by have:=z9e y;simp only[Cn.size,Cn.high,Nat.pow_succ];omega
 | .bin o y z=>by
  have h1:=z9e y
  have h2:=z9e z
  have h3:2 ^ y.high≤2 ^ max y.high z.high:=Nat.pow_le_pow_right (by decide) (Nat.le_max_left _ _)
  have h4:2 ^ z.high≤2 ^ max y.high z.high:=Nat.pow_le_pow_right (by decide) (Nat.le_max_right _ _)
  simp only[Cn.size,Cn.high,Nat.pow_succ];omega
theorem zja {labs:List Str} (x:Cn) (h:zas labs x) (hx:x.high≤5):z0m Tryz.prog 29 [x.d] (B true):=by
 have hs:=z9e x
 have hp:2 ^ x.high≤2 ^ 5:=Nat.pow_le_pow_right (by decide) hx
 have hm:=z88 x 0 1 (by omega) (by omega) (by omega) (by omega)
 have hps:=x.size_pos
 refine z10 fun H=>?_
 refine z0g Tryz.func29 (by kernel_rfl) rfl (by simp) ?_
 dsimp only[Tryz.f29]
 repeat' (first|(apply z04;(first|refine z0l ?_| (apply z0a;(refine z02 z2c rfl rfl ?_))|(apply z0j;(first|refine z2s (ztf x h) ?_| refine z2s hm ?_| refine z2s (zo9 x h) ?_))|(apply z1c;(refine z0b z1q ?_))))|(apply z05;(first|refine z0k ?_|apply z09|refine z1m ?_| refine z1t (fun _=>?_) (fun _=>?_)))|(apply z06;(first|apply z07|apply z00|refine z1f ?_| apply z08)))
 all_goals first
  | (exfalso;omega)
  | exact z0c Tryz.func29 _ z1j ⟨rfl,rfl⟩
  | (exfalso;simp_all;done)
set_option maxRecDepth 100000
attribute [local irreducible] z83 z7w
def xA:Str:=⟨#[97]⟩
def xB:Str:=⟨#[98,124,99]⟩
def xD:Str:=⟨#[46]⟩
def rA:Rx:=Rx.one 97 97
def rB:Rx:=.mk 3 0 0 [] [Rx.one 98 98,Rx.one 99 99]
def rD:Rx:=.mk 1 0 0 [(0,1114111)] []
theorem zyy:fit rA:=by simp[rA,Rx.one,zxq,fit,znx]
theorem zys:fit rB:=by simp[rB,Rx.one,zxq,fit,znx]
theorem zyv:fit rD:=by simp[rD,fit,znx]
section
variable (τ:Tab)
theorem zqd:z1r Tryz.prog 90 [S xA] (z6t τ 0) [] (.tup [.d (eX rA),I .i64 0,I .i64 0]):=by
 have hX0:(10:Nat)≠700:=by decide
 have hX1:(10:Nat)≠701:=by decide
 have hs:xA.size≤1000000:=by decide
 have h1:=zid hX0 hX1 τ xA hs 0 1 _ (zhf hX0 hX1 τ xA hs 0 97 (by decide) (by rfl) (by decide) (by rfl)) (by decide) (-1) (by rfl) (by decide)
 have h3:=zjh hX0 hX1 τ xA hs 0 1 _ (by decide) h1 (by decide) (by decide) 97 (-1) (by rfl) (by decide) (by rfl) (.inl rfl)
 have h4:=zup hX0 hX1 τ xA hs 0 1 _ (by decide) h3 (by decide) (by rfl)
 exact zf2 τ xA (by decide) rA zyy rfl h4 (by rw[show unF 0 (rst xA 0)=[(97,0,1)] from rfl];decide) (by decide)
theorem zq2:z1r Tryz.prog 90 [S xD] (z6t τ 0) [] (.tup [.d (eX rD),I .i64 0,I .i64 0]):=by
 have hX0:(10:Nat)≠700:=by decide
 have hX1:(10:Nat)≠701:=by decide
 have hs:xD.size≤1000000:=by decide
 have h1:=zid hX0 hX1 τ xD hs 0 1 _ (zsz hX0 hX1 τ xD hs 0 (by decide) (by rfl)) (by decide) (-1) (by rfl) (by decide)
 have h3:=zjh hX0 hX1 τ xD hs 0 1 _ (by decide) h1 (by decide) (by decide) 46 (-1) (by rfl) (by decide) (by rfl) (.inl rfl)
 have h4:=zup hX0 hX1 τ xD hs 0 1 _ (by decide) h3 (by decide) (by rfl)
 exact zf2 τ xD (by decide) rD zyv rfl h4 (by rw[show unF 0 (rst xD 0)=[(46,0,1)] from rfl];decide) (by decide)
theorem zqh:z1r Tryz.prog 90 [S xB] (z6t τ 0) [] (.tup [.d (eX rB),I .i64 0,I .i64 0]):=by
 have hX0:(10:Nat)≠700:=by decide
 have hX1:(10:Nat)≠701:=by decide
 have hs:xB.size≤1000000:=by decide
 have h1:=zid hX0 hX1 τ xB hs 0 1 _ (zhf hX0 hX1 τ xB hs 0 98 (by decide) (by rfl) (by decide) (by rfl)) (by decide) 124 (by rfl) (by decide)
 have h2:=zid hX0 hX1 τ xB hs 2 3 _ (zhf hX0 hX1 τ xB hs 2 99 (by decide) (by rfl) (by decide) (by rfl)) (by decide) (-1) (by rfl) (by decide)
 have h3:=zjh hX0 hX1 τ xB hs 0 1 _ (by decide) h1 (by decide) (by decide) 98 124 (by rfl) (by decide) (by rfl) (.inr rfl)
 have h3':=zjh hX0 hX1 τ xB hs 2 3 _ (by decide) h2 (by decide) (by decide) 99 (-1) (by rfl) (by decide) (by rfl) (.inl rfl)
 have h4:=zyp hX0 hX1 τ xB hs 0 1 3 _ _ (by decide) (by decide) h3 h3' (by decide) (by decide) (by rfl) (by rfl)
 exact zf2 τ xB (by decide) rB zys rfl h4 (by rw[show unF 0 (rst xB 0)=[(98,0,1),(124,1,1),(99,2,1)] from rfl];decide) (by decide)
end
theorem zi7 {τ:Tab} {e:Nat} {H:Hf} (h:HT τ e H):upd (upd (upd (upd H (e,700) .gone) (e,701) .gone) (e,701) (.glob 1 τ.o1)) (e,700) (.glob 0 τ.o0)=H:=by
 rw[z2t,zp6 _ (by simp:((e,701):Nm)≠(e,700)),z2t,zcb (m:=(e,700)) h.a,zcb (m:=(e,701)) h.b]
theorem zy8 (τ:Tab) (v:Str) (hv:v∈zcj) (e:Nat):z1r Tryz.prog 62 [S v] (z6t τ e) [] (I .i64 0):=by
 have key:∃ x,z1r Tryz.prog 90 [S v] (z6t τ 0) [] (.tup [.d (eX x),I .i64 0,I .i64 0]):=by
  simp only[zcj,zAc,List.not_mem_nil,or_false] at hv
  rcases hv with rfl|rfl|rfl
  · exact⟨_,zqd τ⟩
  · exact⟨_,zqh τ⟩
  · exact⟨_,zq2 τ⟩
 obtain⟨x,hx⟩:=key
 refine z2h fun H hH=>?_
 have hT:HT τ e H:=HT.of (bs:=[]) hH
 refine z0g Tryz.func62 (by kernel_rfl) rfl (by simp) ?_
 dsimp only[Tryz.f62]
 refine z4g 700 e 700 hT.a rfl rfl ?_
 refine z4g 701 e 701 (raw:=.glob 1 τ.o1) ((z9l H (e,700) (e,701) .gone (by simp)).trans hT.b) rfl rfl ?_
 refine z0e (tm':=[(0,S v),(100701,.al (0,701) (e+1,701)),(100700,.al (0,700) (e+1,700))]) (hp':=[(701,.glob 1 τ.o1),(700,.glob 0 τ.o0)]) ?_ rfl rfl
 obtain⟨op,mn,mx,rs,ks⟩:=x
 rw[zcr] at hx
 repeat' (first|(apply z04;(first|refine z0l ?_| (apply z0j;(refine z3u hx rfl (z29 (m:=(0,700)) rfl (z29 (m:=(0,701)) rfl zfy)) (by decide) ?_))|(apply z0f;(refine z2d ?_))|(apply z0i;(refine z0b z1e ?_))))|(apply z05;(first|refine z0k ?_|apply z09))|(apply z06;(first|apply z07|apply z00)))
 refine z39 701 e 701 (raw:=.glob 1 τ.o1) rfl rfl (by simp[upd]) rfl rfl ?_
 refine z39 700 e 700 (raw:=.glob 0 τ.o0) rfl rfl (by simp[upd]) rfl rfl ?_
 exact z0c Tryz.func62 _ z1j ⟨rfl,zi7 hT⟩
theorem zas.n2 {labs:List Str} {x:Cn} (h:zas labs x):x.top.op=2→x.top.name=zcs∧x.top.val∈zcj:=by
 cases x with
 | leaf g=>exact zgx.n2 h
 | not y=>intro e;simp[Cn.top] at e
 | bin o y z=>intro e;have:=h.1;simp only[Cn.top] at e;omega
theorem zas.n3 {labs:List Str} {x:Cn} (h:zas labs x):x.top.op=3→x.top.name=zcs∧(x.top.arg=zcs∨x.top.arg=zx0):=by
 cases x with
 | leaf g=>exact zgx.n3 h
 | not y=>intro e;simp[Cn.top] at e
 | bin o y z=>intro e;have:=h.1;simp only[Cn.top] at e;omega
theorem zy2 {c:z0v} (h:c.attrs=z6q):z5j c zcs=0:=by rw[z5j,h];decide
theorem zzi {c:z0v} (h:c.attrs=z6q):z5j c zx0=1:=by rw[z5j,h];decide
theorem zio (τ:Tab) {labs:List Str} (c:z0v) (hat:c.attrs=z6q):∀ (x:Cn),zas labs x→∀ e,z1r Tryz.prog 30 [c.d,x.d] (z6t τ e) [] (B true):=by
 intro x
 have hal:c.attrs.length≤1000000:=by rw[hat];decide
 induction x using Cn.ind with
 | _ x ih =>
  intro h e
  have hc:∀ k∈x.kids,z1r Tryz.prog 64 [.d (.agg k.cs),.ptr (2,2) 0] (((2,2),.box (c.cs.map .d))::z6t τ (e+3)) [] (B false):=fun k hk=>by
   have i1:=ih k hk (h.kid hk) (e+4)
   refine z2h fun H hH=>?_
   have hH0:=hH ((2,2),.box (c.cs.map .d)) (by simp)
   have hT:HT τ (e+3) H:=HT.of (bs:=[((2,2),.box (c.cs.map .d))]) hH
   refine z0g Tryz.func64 (by kernel_rfl) rfl (by simp) ?_
   dsimp only[Tryz.f64]
   repeat' (first|(apply z04;(first|refine z0l ?_| (apply z0a;(first|refine z02 (z2c (b:=.box (c.cs.map .d)) (cs:=c.cs)) rfl (bk1 hH0) ?_| refine z02 z2c rfl rfl ?_))|(apply z0j;(refine z3u i1 rfl (bkT hT) (by decide) ?_))|(apply z1c;(refine z0b z1q ?_))))|(apply z05;(first|refine z0k ?_|apply z09))|(apply z06;(first|apply z07|apply z00)))
   all_goals first
    | exact z0c Tryz.func64 _ z1j ⟨rfl,rfl⟩
  have hk:=zey (cf:=64) [.ptr (0,2) 0] (((0,2),.box (c.cs.map .d))::z6t τ (e+1)) (fun _=>false) x.kids (by have:=zil x;omega) hc
  rw[any_false,← Cn.kd_eq] at hk
  clear hc ih
  have h2:=h.n2
  have h3:=h.n3
  refine z2h fun H hH=>?_
  have hT:HT τ e H:=HT.of (bs:=[]) hH
  refine z0g Tryz.func30 (by kernel_rfl) rfl (by simp) ?_
  dsimp only[Tryz.f30]
  by_cases o2:x.top.op=2
  · obtain⟨e1,e2⟩:=h2 o2
    have a1:=ze6 c x.top.name hal
    rw[show z5j c x.top.name=0 by rw[e1];exact zy2 hat] at a1
    repeat' (first|(apply z04;(first|refine z0l ?_| (apply z0a;(refine z02 z18 rfl rfl ?_))|(apply z0d;(refine z02 z1a rfl rfl ?_))|(apply z0j;(first|refine z2s a1 ?_| refine z3u (zy8 τ _ e2 (e+1)) rfl (bkT hT) (by decide) ?_|refine z3u hk rfl (z29 (m:=(0,2)) rfl (bkT hT)) (by decide) ?_))|(apply z1c;(refine z0b z1q ?_))|refine z43 rfl rfl (by decide) ?_))|(apply z05;(first|refine z0k ?_|apply z09))|(apply z06;(first|apply z07|apply z00|refine z1f ?_| apply z08|apply z01|apply z03|refine z0h (fun _=>?_) (fun _=>?_))))
    all_goals exact zD49
  · by_cases o3:x.top.op=3
    · obtain⟨e1,e2⟩:=h3 o3
      have a1:=ze6 c x.top.name hal
      rw[show z5j c x.top.name=0 by rw[e1];exact zy2 hat] at a1
      have a2:=ze6 c x.top.arg hal
      obtain⟨v,hv,hv0⟩:∃ v,z5j c x.top.arg=v∧0≤v:=by
       refine⟨_,rfl,?_⟩
       rcases e2 with e2|e2
       · rw[e2,zy2 hat];decide
       · rw[e2,zzi hat];decide
      rw[hv] at a2
      repeat' (first|(apply z04;(first|refine z0l ?_| (apply z0a;(refine z02 z18 rfl rfl ?_))|(apply z0d;(refine z02 z1a rfl rfl ?_))|(apply z0j;(first|refine z2s a1 ?_| refine z2s a2 ?_| refine z3u hk rfl (z29 (m:=(0,2)) rfl (bkT hT)) (by decide) ?_))|(apply z1c;(refine z0b z1q ?_))|refine z43 rfl rfl (by decide) ?_))|(apply z05;(first|refine z0k ?_|apply z09))|(apply z06;(first|apply z07|apply z00|apply z08|apply z01|apply z03|refine z0h (fun _=>?_) (fun _=>?_))))
      all_goals exact zD49
    · repeat' (first|(apply z04;(first|refine z0l ?_| (apply z0a;(refine z02 z18 rfl rfl ?_))|(apply z0d;(refine z02 z1a rfl rfl ?_))|(apply z0j;(refine z3u hk rfl (z29 (m:=(0,2)) rfl (bkT hT)) (by decide) ?_))|(apply z1c;(refine z0b z1q ?_))|refine z43 rfl rfl (by decide) ?_))|(apply z05;(first|refine z0k ?_|apply z09))|(apply z06;(first|apply z07|apply z00|apply z08|apply z01|apply z03|refine z0h (fun _=>?_) (fun _=>?_))))
      all_goals exact zD49
attribute [local irreducible] z47 z1u
theorem zas.flat {labs:List Str} {x:Cn} (h:zas labs x) (hx:x.high≤1):1≤x.top.op∧x.top.op≤10∧x.top.a∈labs:=by
 cases x with
 | leaf g=>exact⟨h.op.1,h.op.2,h.la⟩
 | not y=>have:=y.size_pos;simp only[Cn.high] at hx;omega
 | bin o y z=>have:=y.size_pos;simp only[Cn.high] at hx;omega
theorem zom (c:z0v) (x:Cn) (h:1≤x.top.op∧x.top.op≤10∧x.top.a∈[sX]) (b e t:Int):z0m Tryz.prog 32 [c.d,x.d,.d (strs z2r),za2 b e [-1,t]] (B false):=by
 obtain⟨h1,h2,h3⟩:=h
 have hx:=zdb b e (-1) t
 simp only[zAc,List.not_mem_nil,or_false] at h3
 rw[show (⟨#[120]⟩:Str)=x.top.a by rw[h3];rfl] at hx
 refine z10 fun H=>?_
 refine z0g Tryz.func32 (by kernel_rfl) rfl (by simp) ?_
 dsimp only[Tryz.f32]
 repeat' (first|(apply z04;(first|refine z0l ?_| (apply z0a;(first|refine z02 z2c rfl rfl ?_| refine z02 z18 rfl rfl ?_))|(apply z0d;(refine z02 z1a rfl rfl ?_))|(apply z0j;(refine z2s hx ?_))|(apply z0f;(refine z2d ?_))|(apply z0i;(refine z0b z1e ?_))|(apply z1c;(refine z0b z45 ?_))|refine z43 rfl rfl (by decide) ?_))|(apply z05;(first|refine z0k ?_|apply z09))|(apply z06;(first|apply z07|apply z00|refine z1b rfl ?_|apply z08|apply z01|apply z2z|apply z03|refine z0h (fun _=>?_) (fun _=>?_)))|(apply z2v;(first|(apply z0u;(refine z0w z18 rfl rfl ?_))|(apply z0q;(refine z0w z1a rfl rfl ?_)))))
 all_goals exact zD42
theorem zwl (c:z0v) (b e:Int) (ls:List Int) (hc:c.tokens.length≤1000000) (hl:ls.length=2) (hin:∀ t∈ls,-1≤t∧t<c.tokens.length):z0m Tryz.prog 31 [c.d,.d (strs z2r),za2 b e ls] (B true):=by
 have hf:=zqm c z2r b e ls hc (by omega) (by decide) hl
 exact zD46
theorem zpa (τ:Tab) {labs:List Str} (c:z0v) (hat:c.attrs=z6q) (x:Cn) (h:zas labs x) (hx:x.high≤5) (b e:Int) (ls:List Int) (hc:c.tokens.length≤1000000) (hl:ls.length=2) (hin:∀ t∈ls,-1≤t∧t<c.tokens.length) (r:Bool)
 (hh:∀ e0,z1r Tryz.prog 32 [c.d,x.d,.d (strs z2r),za2 b e ls] (z6t τ e0) [] (B r)) (e0:Nat):z1r Tryz.prog 14 [c.d,x.d,.d (strs z2r),za2 b e ls] (z6t τ e0) [] (B r):=by
 have hs:=zja x h hx
 have hf:=zwl c b e ls hc hl hin
 have hk:=zio τ c hat x h (e0+1)
 have hh:=hh (e0+1)
 refine z2h fun H hH=>?_
 have hT:HT τ e0 H:=HT.of (bs:=[]) hH
 refine z0g Tryz.func14 (by kernel_rfl) rfl (by simp) ?_
 dsimp only[Tryz.f14]
 cases r
 · all_goals exact zD21
 · all_goals exact zD21
end Go.Proofs.YtonhfccmeammbaaGreatDoor
