/- A part of the proof: A2 to A4. -/
import Derived.Test.YthdfkabdoidjfaaGreatDoorUc
import Derived.Test.YthdfkabdoidjfaaGreatDoorUt
import Derived.Test.YthdfkabdoidjfaaGreatDoorUy
import Derived.Test.YthdfkabdoidjfaaGreatDoorUr
import Derived.Test.YthdfkabdoidjfaaGreatDoorUz
import Derived.Test.YthdfkabdoidjfaaGreatDoorUx
import Derived.Test.YthdfkabdoidjfaaGreatDoorUv
import Derived.Test.YthdfkabdoidjfaaGreatDoorUd
import Derived.Test.YthdfkabdoidjfaaGreatDoorUe
set_option linter.all false
namespace Go.Proofs.YthdfkabdoidjfaaGreatDoor
open Go.Ab Go.Ax
set_option maxHeartbeats 20000000
set_option maxRecDepth 100000
attribute [local irreducible] Run Ops Op1 z1d Val Tr z08 z13 NF Rel z2h z2g
def y6a (a b:Int):Int:=if a<b then -1 else if b<a then 1 else 0
theorem zf4 (a:Int):z08 Tryz.prog 112 [I .i32 a] (B false):=by
 refine z0g fun H=>?_
 refine z03 Tryz.func112 (by kernel_rfl) rfl (by simp) ?_
 dsimp only[Tryz.f112]
 repeat' (first|refine stq ?_|fail)
 all_goals try (exfalso;omega)
 all_goals exact z05 Tryz.func112 _ (zr4 rfl (by simp only[ne_eq,not_true_eq_false,decide_false];rfl)) ⟨rfl,rfl⟩
theorem zrb (a b:Int):z08 Tryz.prog 76 [I .i32 a,I .i32 b] (I .i64 (y6a a b)):=by
 refine z0g fun H=>?_
 have h1:=zf4 a
 have h2:=zf4 b
 refine z03 Tryz.func76 (by kernel_rfl) rfl (by simp) ?_
 dsimp only[Tryz.f76]
 rw[y6a]
 by_cases c1:a<b
 · rw[zAz c1]
   all_goals exact zD46
 · rw[zAy c1]
   by_cases c2:b<a
   · rw[zAz c2]
     all_goals exact zD46
   · rw[zAy c2]
     all_goals exact zD46
theorem zps (x:Arc) (c:Int):z08 Tryz.prog 75 [.d (.agg (z1k x)),I .i32 c] (I .i64 (y6a x.2.1 c)):=by
 refine z0g fun H=>?_
 have h1:=zrb x.2.1 c
 refine z03 Tryz.func75 (by kernel_rfl) rfl (by simp) ?_
 dsimp only[Tryz.f75]
 repeat' (first|(apply z06;(refine z1i h1 ?_))|(apply z0w;(refine z07 z2b ?_))|refine stq ?_|fail)
 all_goals try (exfalso;omega)
 all_goals exact z05 Tryz.func75 _ z0e ⟨rfl,rfl⟩
theorem zp4 (l:List Arc) (hl:l.length≤4611686018427387904) (ho:okA none l) (c:Int):z08 Tryz.prog 74 [.d (z7t l),I .i32 c,.fn (.func 75) [] []] (.tup [I .i64 (zfx c l:Nat),B (match l[zfx c l]? with|some x=>decide (x.2.1=c)|none=>false)]):=by
 refine z0g fun H=>?_
 have hmono:=zmn ho
 refine z03 Tryz.func74 (by kernel_rfl) rfl (by simp) ?_
 dsimp only[Tryz.f74]
 repeat' (first|refine stq ?_|fail)
 all_goals try (exfalso;omega)
 refine z0a ?_
 refine z00 (z0p (fun q:Nat × Nat=>⟨49,[(0,.d (z7t l)),(1,I .i32 c),(2,.fn (.func 75) [] []),(8,I .i64 l.length),(9,I .i64 (q.1:Nat)),(10,I .i64 (q.2:Nat))],[],H⟩) (fun q=>q.1≤q.2∧q.2≤l.length∧(∀ p x,p<q.1→l[p]? =some x→x.2.1<c)∧∀ p x,q.2≤p→l[p]? =some x→¬ x.2.1<c) (fun q=>q.2-q.1) ?_ (0,l.length) ⟨zAf _,zAj _,fun p x h=>absurd h (Nat.not_lt_zero _),fun p x h1 h2=>by have:=(zA1.1 h2).1;omega⟩) rfl rfl
 rintro⟨i,j⟩ ⟨i1,i2,i3,i4⟩ ih
 simp only at i1 i2 i3 i4 ih ⊢
 by_cases hlt:i<j
 · have hh:((((i:Nat):Int)+((j:Nat):Int)) / 2)=(((i+j) / 2:Nat):Int):=by omega
   obtain⟨x,hx⟩:∃ x,l[(i+j) / 2]? =some x:=⟨_,zA0 (by omega)⟩
   have hxi:l[((((i:Nat):Int)+((j:Nat):Int)) / 2).toNat]? =some x:=by rw[hh,zA9];exact hx
   have hc:=zps x c
   rw[y6a] at hc
   by_cases hlo:x.2.1<c
   · rw[zAz hlo] at hc
     have ih':=ih ((i+j) / 2+1,j) ⟨by simp only;omega,i2,fun p y hp hy=>by have:=hmono p _ y x (by simp only at hp;omega) hy hx;omega,i4⟩ (by simp only;omega)
     rw[show (((i+j) / 2+1:Nat):Int)=(((i:Nat):Int)+((j:Nat):Int)) / 2+1 by omega] at ih'
     all_goals exact zD62
   · have ih':=ih (i,(i+j) / 2) ⟨by simp only;omega,by simp only;omega,i3,fun p y hp hy=>by have:=hmono _ p x y hp hx hy;omega⟩ (by simp only;omega)
     rw[hh.symm] at ih'
     rw[zAy hlo] at hc
     have hc0:0≤(if c<x.2.1 then (1:Int) else 0):=by split <;> omega
     generalize (if c<x.2.1 then (1:Int) else 0)=cc at *
     all_goals exact zD62
 · obtain rfl:i=j:=by omega
   have hcut:=y4z (c:=c) i2 i3 (fun x hx=>i4 i x (zAj _) hx)
   rw[← hcut]
   clear ih
   by_cases hin:i<l.length
   · obtain⟨x,hx⟩:∃ x,l[i]? =some x:=⟨_,zA0 hin⟩
     have hnl:=i4 i x (zAj _) hx
     have hc:=zps x c
     rw[y6a,zAy hnl] at hc
     rw[hx]
     simp only
     by_cases he:c<x.2.1
     · rw[zAz he] at hc
       rw[show decide (x.2.1=c)=false by simp;omega]
       all_goals exact zD57
     · rw[zAy he] at hc
       rw[show decide (x.2.1=c)=true by simp;omega]
       all_goals exact zD57
   · rw[zAv (by omega)]
     repeat' (first|refine stq ?_|refine fk (fun _=>?_) (fun _=>?_))
     all_goals try (exfalso;omega)
     all_goals exact z05 Tryz.func74 _ z2w ⟨rfl,rfl⟩
theorem zqi (l:List Arc) (hl:l.length≤4611686018427387904) (ho:okA none l) (c:Int):z08 Tryz.prog 41 [.d (z7t l),I .i32 c] (I .i64 (nxt l c)):=by
 refine z0g fun H=>?_
 have hb:=zp4 l hl ho c
 have hcl:=zq8 c l
 rw[zp6 ho]
 refine z03 Tryz.func41 (by kernel_rfl) rfl (by simp) ?_
 dsimp only[Tryz.f41]
 by_cases hin:zfx c l<l.length
 · obtain⟨x,hx⟩:∃ x,l[zfx c l]? =some x:=⟨_,zA0 hin⟩
   rw[hx] at hb ⊢
   simp only at hb ⊢
   generalize zfx c l=i at *
   by_cases hc:c<x.1
   · rw[zAz hc]
     all_goals exact zD56
   · rw[zAy hc]
     all_goals exact zD56
 · rw[zAv (by omega)] at hb ⊢
   simp only at hb ⊢
   have:zfx c l=l.length:=by omega
   rw[this] at hb
   repeat' (first|(apply z06;(refine zay (first:=[]) (cap:=[]) (ps:=[.d (z7t l),I .i32 c,.fn (.func 75) [] []]) hb rfl rfl (by decide) ?_))|refine stq ?_|refine fk (fun _=>?_) (fun _=>?_))
   all_goals try (exfalso;omega)
   all_goals exact z05 Tryz.func41 _ z0e ⟨rfl,rfl⟩
theorem y1u (a:Au) (q:Nat) (hq:q<a.A.length) (hl:∀ l∈a.A,l.length≤4611686018427387904) (c:Int):z08 Tryz.prog 43 [.d (auD a),I .i64 (q:Nat),I .i32 c] (I .i64 (a.nx q c)):=by
 obtain⟨F,A⟩:=a
 simp only at hq hl
 obtain⟨l,hA⟩:∃ l,A[q]? =some l:=⟨_,zA0 hq⟩
 have hll:=hl l (zA2 hA)
 have hnx:(⟨F,A⟩:Au).nx (q:Nat) c=nxt l c:=by rw[Au.nx,Au.arcs,zAy (by omega),zA9,List.getD,hA];rfl
 rw[hnx]
 refine z0g fun H=>?_
 refine z03 Tryz.func43 (by kernel_rfl) rfl (by simp) ?_
 dsimp only[Tryz.f43]
 repeat' (first|(apply z01;(refine z04 (z0k (ys:=A.map z25) rfl (idx hA)) rfl rfl ?_))|(apply z0w;(refine z07 z2b ?_))|refine stq ?_|fail)
 all_goals try (exfalso;omega)
 refine z0a ?_
 refine z00 (z0p (fun k:Nat=>⟨34,[(2,I .i32 c),(15,.d (z7t l)),(16,I .i64 l.length),(17,I .i64 (k:Nat))],[],H⟩) (fun k=>k≤l.length∧nxt (l.drop k) c=nxt l c) (fun k=>l.length-k) ?_ 0 ⟨zAf _,rfl⟩) rfl rfl
 rintro k ⟨k1,k2⟩ ih
 by_cases hlt:k<l.length
 · obtain⟨x,hx⟩:∃ x,l[k]? =some x:=⟨_,zA0 hlt⟩
   rw[drop_cons hx,nxt] at k2
   by_cases hc:x.1≤c∧c≤x.2.1
   · rw[zAz hc] at k2
     rw[← k2]
     repeat' (first|(apply z01;(refine z04 (z0k (ys:=l.map z1k) rfl (idx hx)) rfl rfl ?_))|refine stq ?_|refine fk (fun _=>?_) (fun _=>?_))
     all_goals exact zD113
   · rw[zAy hc] at k2
     have ih':=ih (k+1) ⟨by omega,k2⟩ (by omega)
     repeat' (first|(apply z01;(refine z04 (z0k (ys:=l.map z1k) rfl (idx hx)) rfl rfl ?_))|refine stq ?_|refine fk (fun _=>?_) (fun _=>?_))
     all_goals exact zD8
 · obtain rfl:k=l.length:=by omega
   rw[zAs,nxt] at k2
   rw[← k2]
   repeat' (first|refine stq ?_|refine fk (fun _=>?_) (fun _=>?_))
   all_goals exact zD113
theorem zp1 (a:Au) (q:Int) (hq:q<0) (c:Int):z08 Tryz.prog 43 [.d (auD a),I .i64 q,I .i32 c] (I .i64 (-1)):=by
 obtain⟨F,A⟩:=a
 refine z0g fun H=>?_
 refine z03 Tryz.func43 (by kernel_rfl) rfl (by simp) ?_
 dsimp only[Tryz.f43]
 repeat' (first|(apply z0w;(refine z07 z2b ?_))|refine stq ?_|refine fk (fun _=>?_) (fun _=>?_))
 all_goals exact zD113
def zsk (x:Arc):Int:=if x.1<55296∨57343<x.1 then x.1 else if 57343<x.2.1 then 57344 else -1
theorem zt3 (x:Arc):z08 Tryz.prog 67 [.d (.agg (z1k x))] (I .i32 (zsk x)):=by
 refine z0g fun H=>?_
 refine z03 Tryz.func67 (by kernel_rfl) rfl (by simp) ?_
 dsimp only[Tryz.f67]
 rw[zsk]
 by_cases h1:x.1<55296∨57343<x.1
 · rw[zAz h1]
   all_goals exact zD55
 · rw[zAy h1]
   by_cases h2:57343<x.2.1
   · rw[zAz h2]
     all_goals exact zD55
   · rw[zAy h2]
     all_goals exact zD55
def zam (op:Int) (p q:Bool):Bool:=if op=1 then p&&q else if op=2 then p||q else if op=3 then p&&!q else p != q
theorem zpw (op:Int) (p q:Bool):z08 Tryz.prog 95 [I .i64 op,B p,B q] (B (zam op p q)):=by
 refine z0g fun H=>?_
 refine z03 Tryz.func95 (by kernel_rfl) rfl (by simp) ?_
 dsimp only[Tryz.f95]
 rw[zam]
 by_cases h1:op=1
 · rw[zAz h1]
   exact zD33
 rw[zAy h1]
 by_cases h2:op=2
 · rw[zAz h2]
   exact zD33
 rw[zAy h2]
 by_cases h3:op=3
 · rw[zAz h3]
   exact zD33
 rw[zAy h3]
 exact zD33
def zdk (op:Int) (p q:Int):Bool:=if op=1 then decide (p<0)||decide (q<0) else if op=3 then decide (p<0) else decide (p<0)&&decide (q<0)
theorem zsd (op p q:Int):z08 Tryz.prog 100 [I .i64 op,.d (.agg [z0u p,z0u q])] (B (zdk op p q)):=by
 refine z0g fun H=>?_
 refine z03 Tryz.func100 (by kernel_rfl) rfl (by simp) ?_
 dsimp only[Tryz.f100]
 rw[zdk]
 by_cases h1:op=1
 · rw[zAz h1]
   by_cases p0:p<0
   · rw[zAi p0,Bool.true_or]
     all_goals exact zD22
   · rw[zAo p0,Bool.false_or]
     all_goals exact zD22
 rw[zAy h1]
 by_cases h3:op=3
 · rw[zAz h3]
   all_goals exact zD22
 rw[zAy h3]
 by_cases p0:p<0
 · rw[zAi p0,Bool.true_and]
   all_goals exact zD22
 · rw[zAo p0,Bool.false_and]
   all_goals exact zD22
theorem zho (a:Au) (q:Int) (hq:q<a.F.length):z08 Tryz.prog 96 [.d (auD a),I .i64 q] (B (a.fin q)):=by
 obtain⟨F,A⟩:=a
 refine z0g fun H=>?_
 refine z03 Tryz.func96 (by kernel_rfl) rfl (by simp) ?_
 dsimp only[Tryz.f96]
 rw[Au.fin]
 by_cases hn:q<0
 · rw[zAz hn]
   repeat' (first|(apply z0w;(refine z07 z2b ?_))|refine stq ?_|refine fk (fun _=>?_) (fun _=>?_))
   all_goals try (exfalso;omega)
   all_goals exact z05 Tryz.func96 _ z0e ⟨rfl,rfl⟩
 · rw[zAy hn]
   obtain⟨k,rfl⟩:∃ k:Nat,q=k:=⟨q.toNat,by omega⟩
   simp only at hq
   obtain⟨b,hb⟩:∃ b,F[k]? =some b:=⟨_,zA0 (by omega)⟩
   simp only[zA9,List.getD,hb,Option.getD_some]
   repeat' (first|(apply z01;(refine z04 (z0k (ys:=F.map fun b=>[z7a b]) rfl (idx (g:=fun b=>[z7a b]) hb)) rfl rfl ?_))|(apply z0w;(refine z07 z2b ?_))|refine stq ?_|fail)
   all_goals try (exfalso;omega)
   all_goals exact z05 Tryz.func96 _ z0e ⟨rfl,rfl⟩
theorem zgm (a:Au) (q:Int) (hq:q<a.F.length):z08 Tryz.prog 89 [.d (auD a),I .i64 q] (B (a.fin q)):=by
 obtain⟨F,A⟩:=a
 refine z0g fun H=>?_
 refine z03 Tryz.func89 (by kernel_rfl) rfl (by simp) ?_
 dsimp only[Tryz.f89]
 rw[Au.fin]
 by_cases hn:q<0
 · rw[zAz hn]
   repeat' (first|(apply z0w;(refine z07 z2b ?_))|refine stq ?_|refine fk (fun _=>?_) (fun _=>?_))
   all_goals try (exfalso;omega)
   all_goals exact z05 Tryz.func89 _ z0e ⟨rfl,rfl⟩
 · rw[zAy hn]
   obtain⟨k,rfl⟩:∃ k:Nat,q=k:=⟨q.toNat,by omega⟩
   simp only at hq
   obtain⟨b,hb⟩:∃ b,F[k]? =some b:=⟨_,zA0 (by omega)⟩
   simp only[zA9,List.getD,hb,Option.getD_some]
   repeat' (first|(apply z01;(refine z04 (z0k (ys:=F.map fun b=>[z7a b]) rfl (idx (g:=fun b=>[z7a b]) hb)) rfl rfl ?_))|(apply z0w;(refine z07 z2b ?_))|refine stq ?_|fail)
   all_goals try (exfalso;omega)
   all_goals exact z05 Tryz.func89 _ z0e ⟨rfl,rfl⟩
theorem zll (a:Au) (q:Int) (hq:q<a.A.length):z08 Tryz.prog 98 [.d (auD a),I .i64 q] (.d (z7t (a.arcs q))):=by
 obtain⟨F,A⟩:=a
 refine z0g fun H=>?_
 refine z03 Tryz.func98 (by kernel_rfl) rfl (by simp) ?_
 dsimp only[Tryz.f98]
 rw[Au.arcs]
 by_cases hn:q<0
 · rw[zAz hn]
   repeat' (first|(apply z0w;(refine z07 z2b ?_))|refine stq ?_|refine fk (fun _=>?_) (fun _=>?_))
   all_goals try (exfalso;omega)
   refine y5v 4 rfl ?_
   all_goals exact z05 Tryz.func98 _ z0e ⟨rfl,rfl⟩
 · rw[zAy hn]
   obtain⟨k,rfl⟩:∃ k:Nat,q=k:=⟨q.toNat,by omega⟩
   simp only at hq
   obtain⟨l,hb⟩:∃ l,A[k]? =some l:=⟨_,zA0 (by omega)⟩
   simp only[zA9,List.getD,hb,Option.getD_some]
   repeat' (first|(apply z01;(refine z04 (z0k (ys:=A.map z25) rfl (idx hb)) rfl rfl ?_))|(apply z0w;(refine z07 z2b ?_))|refine stq ?_|fail)
   all_goals try (exfalso;omega)
   all_goals exact z05 Tryz.func98 _ z0e ⟨rfl,rfl⟩
theorem y08 (l:List Arc) (hl:l.length≤2000000):z08 Tryz.prog 85 [.d (z7t l)] (.d (z7t l)):=by
 refine z0g fun H=>?_
 refine z03 Tryz.func85 (by kernel_rfl) rfl (by simp) ?_
 dsimp only[Tryz.f85]
 repeat' (first|refine stq ?_|fail)
 all_goals try (exfalso;omega)
 refine z1m 3 1000 169 3 rfl rfl rfl ?_
 refine z0a ?_
 refine z00 (z0p (fun q:Nat=>⟨24,[(3,.ref (0,1000)),(6,.d (z7t l)),(7,I .i64 l.length),(8,I .i64 (q:Nat))],[(1000,.row 169 3 ((l.take q).map z1k))],H⟩) (fun q=>q≤l.length) (fun q=>l.length-q) ?_ 0 (zAf _)) rfl rfl
 rintro i i1 ih
 by_cases hlt:i<l.length
 · obtain⟨x,hx⟩:∃ x,l[i]? =some x:=⟨_,zA0 hlt⟩
   have ih':=ih (i+1) (by omega) (by omega)
   rw[z3n hx] at ih'
   have htl:(l.take i).length≤2000000:=by rw[zAm];omega
   generalize l.take i=Q at *
   repeat' (first|(apply z01;(refine z04 (z0k (ys:=l.map z1k) rfl (idx hx)) rfl rfl ?_))|(apply z15;(refine z48 (g:=z1k) x rfl ?_))|refine stq ?_|refine fk (fun _=>?_) (fun _=>?_))
   all_goals try (exfalso;omega)
   all_goals refine z18 21 1000 ?_
   all_goals exact z00 ih' rfl rfl
 · obtain rfl:i=l.length:=by omega
   rw[List.take_length] at *
   repeat' (first|refine stq ?_|refine fk (fun _=>?_) (fun _=>?_))
   all_goals try (exfalso;omega)
   all_goals refine z0o 1000 rfl ?_
   all_goals exact z05 Tryz.func85 _ z0e ⟨rfl,rfl⟩
def z3a (l:List Arc):List Rx.Rg:=l.map fun x=>(x.1,x.2.1)
theorem zdr (l:List Arc) (hl:l.length≤2000000):z08 Tryz.prog 99 [.d (z7t l)] (.d (rgs (z3a l))):=by
 refine z0g fun H=>?_
 refine z03 Tryz.func99 (by kernel_rfl) rfl (by simp) ?_
 dsimp only[Tryz.f99]
 repeat' (first|refine stq ?_|fail)
 all_goals try (exfalso;omega)
 refine z1m 3 1000 155 2 rfl rfl rfl ?_
 refine z0a ?_
 refine z00 (z0p (fun q:Nat=>⟨22,[(3,.ref (0,1000)),(6,.d (z7t l)),(7,I .i64 l.length),(8,I .i64 (q:Nat))],[(1000,.row 155 2 (((z3a l).take q).map rgc))],H⟩) (fun q=>q≤l.length) (fun q=>l.length-q) ?_ 0 (zAf _)) rfl rfl
 rintro i i1 ih
 by_cases hlt:i<l.length
 · obtain⟨x,hx⟩:∃ x,l[i]? =some x:=⟨_,zA0 hlt⟩
   have hr:(z3a l)[i]? =some (x.1,x.2.1):=by rw[z3a,zAd,hx];rfl
   have ih':=ih (i+1) (by omega) (by omega)
   rw[z3n hr] at ih'
   have htl:((z3a l).take i).length≤2000000:=by rw[zAm];omega
   generalize (z3a l).take i=Q at *
   repeat' (first|(apply z01;(refine z04 (z0k (ys:=l.map z1k) rfl (idx hx)) rfl rfl ?_))|(apply z15;(refine z48 (g:=rgc) (x.1,x.2.1) rfl ?_))|refine stq ?_|refine fk (fun _=>?_) (fun _=>?_))
   all_goals try (exfalso;omega)
   all_goals refine z18 19 1000 ?_
   all_goals exact z00 ih' rfl rfl
 · obtain rfl:i=l.length:=by omega
   rw[show l.length=(z3a l).length by rw[z3a,zA4],List.take_length] at *
   repeat' (first|refine stq ?_|refine fk (fun _=>?_) (fun _=>?_))
   all_goals try (exfalso;omega)
   all_goals refine z0o 1000 rfl ?_
   all_goals exact z05 Tryz.func99 _ z0e ⟨rfl,rfl⟩
abbrev ints (l:List Int):D:=.slice (l.map fun x=>[z0u x])
theorem zgr (l:List Arc) (cl:List Int) (hl:l.length≤2000000) (hr:∀ x∈l,0≤x.1∧x.1≤x.2.1∧x.2.1≤1114111∧0≤x.2.2∧x.2.2<cl.length):z08 Tryz.prog 81 [.d (z7t l),.d (ints cl)] (.d (z7t (byC cl l))):=by
 refine z0g fun H=>?_
 refine z03 Tryz.func81 (by kernel_rfl) rfl (by simp) ?_
 dsimp only[Tryz.f81]
 repeat' (first|refine stq ?_|fail)
 all_goals try (exfalso;omega)
 refine z1m 5 1000 169 3 rfl rfl rfl ?_
 refine z0a ?_
 refine z00 (z0p (fun q:Nat × List Arc=>⟨67,[(1,.d (ints cl)),(5,.ref (0,1000)),(10,.d (z7t l)),(11,I .i64 l.length),(12,I .i64 (q.1:Nat))],[(1000,.row 169 3 (q.2.map z1k))],H⟩) (fun q=>q.1≤l.length∧q.2.length≤q.1∧(∀ y∈q.2,0≤y.2.1∧y.2.1≤1114111)∧(l.drop q.1).foldl (za0 cl) q.2=byC cl l) (fun q=>l.length-q.1) ?_ (0,[]) ⟨zAf _,zAj _,by simp,rfl⟩) rfl rfl
 rintro⟨i,out⟩ ⟨i1,i2,i3,i4⟩ ih
 simp only at i1 i2 i3 i4 ih ⊢
 by_cases hlt:i<l.length
 · obtain⟨x,hx⟩:∃ x,l[i]? =some x:=⟨_,zA0 hlt⟩
   obtain⟨r1,r2,r3,r4,r5⟩:=hr x (zA2 hx)
   obtain⟨k,hk⟩:∃ k,cl[x.2.2.toNat]? =some k:=⟨_,zA0 (by omega)⟩
   have hck:clA cl x.2.2=k:=by rw[clA,zAy (by omega),List.getD,hk];rfl
   rw[drop_cons hx,List.foldl_cons,za0,hck] at i4
   by_cases hneg:k<0
   · rw[zAz hneg] at i4
     have ih':=ih (i+1,out) ⟨by simp only;omega,by simp only;omega,i3,i4⟩ (by simp only;omega)
     repeat' (first|(apply z01;(first|refine z04 (z0k (ys:=l.map z1k) rfl (idx hx)) rfl rfl ?_| refine z04 (z0k (ys:=cl.map fun x=>[z0u x]) rfl (z4k (g:=fun x=>[z0u x]) hk)) rfl rfl ?_))|refine stq ?_|refine fk (fun _=>?_) (fun _=>?_)|(refine z19 (fun hg=>?_) (fun hg=>?_)<;> simp only[hg] <;> (try simp only[zA3,zA5,zA6,zA8] at hg)))
     all_goals exact zD8
   · rw[zAy hneg] at i4
     have hln:=z8n out x.1 x.2.1 k
     have ih':=ih (i+1,ext out x.1 x.2.1 k) ⟨by simp only;omega,by simp only;omega,fun y hy=>by
      rcases ext_mem hy with h|h
      · omega
      · exact i3 y h,i4⟩ (by simp only;omega)
     clear ih hln
     rcases zft out with rfl|⟨m,y,rfl⟩
     · rw[ext_nil] at ih'
       simp only at ih'
       repeat' (first|(apply z01;(first|refine z04 (z0k (ys:=l.map z1k) rfl (idx hx)) rfl rfl ?_| refine z04 (z0k (ys:=cl.map fun x=>[z0u x]) rfl (z4k (g:=fun x=>[z0u x]) hk)) rfl rfl ?_))|(apply z15;(first|refine z04 (z8e rfl) rfl rfl ?_| refine z45 (g:=z1k) rfl rfl (x.1,x.2.1,k) rfl rfl rfl rfl rfl rfl rfl (by decide) (by simp) ?_))|refine stq ?_|refine fk (fun _=>?_) (fun _=>?_))
       all_goals try (exfalso;first|omega|(simp at *;done))
       all_goals refine z18 64 1000 ?_
       all_goals exact z00 ih' rfl rfl
     · have hy:=i3 y (by simp)
       have hln:((m++[y]).map z1k).length=m.length+1:=by simp
       have hln2:(m++[y]).length=m.length+1:=by simp
       have hix:(m++[y])[((((((m++[y]).map z1k).length:Nat):Int)-1)).toNat]? =some y:=by
        rw[hln,show (((m.length+1:Nat):Int)-1).toNat=m.length by omega];simp
       have hse:(m++[y]).set ((((((m++[y]).map z1k).length:Nat):Int)-1)).toNat ((y.1,x.2.1,y.2.2):Arc)=m++[(y.1,x.2.1,y.2.2)]:=by
        rw[hln,show (((m.length+1:Nat):Int)-1).toNat=m.length by omega];simp
       rw[z2x] at ih'
       by_cases hj:y.2.1+1=x.1∧y.2.2=k
       · rw[zAz hj,← hj.2] at ih'
         simp only at ih'
         repeat' (first|(apply z0b;(first|refine z09 (z0x (u:=z0v y.2.1) hix) rfl rfl ?_| refine z09 (z0x (u:=z0u y.2.2) hix) rfl rfl ?_))|(apply z01;(first|refine z04 (z0k (ys:=l.map z1k) rfl (idx hx)) rfl rfl ?_| refine z04 (z0k (ys:=cl.map fun x=>[z0u x]) rfl (z4k (g:=fun x=>[z0u x]) hk)) rfl rfl ?_| refine z04 (z2n rfl) rfl rfl ?_))|(apply z02;(refine z09 (z2n rfl) rfl rfl ?_))|(apply z0z;(refine z09 (z16 (z8h (by omega) (by omega))) rfl rfl ?_))|(apply z15;(first|refine z04 (z8e rfl) rfl rfl ?_| refine z48 (g:=z1k) (x.1,x.2.1,k) rfl ?_))|(apply z0n;(refine z23 ((y.1,x.2.1,y.2.2):Arc) hix hse ?_))|refine stq ?_|refine fk (fun _=>?_) (fun _=>?_)|(refine z19 (fun hg=>?_) (fun hg=>?_)<;> simp only[hg] <;> (try simp only[zA3,zA5,zA6,zA8] at hg)))
         all_goals exact zD8
       · rw[zAy hj] at ih'
         simp only at ih'
         repeat' (first|(apply z0b;(first|refine z09 (z0x (u:=z0v y.2.1) hix) rfl rfl ?_| refine z09 (z0x (u:=z0u y.2.2) hix) rfl rfl ?_))|(apply z01;(first|refine z04 (z0k (ys:=l.map z1k) rfl (idx hx)) rfl rfl ?_| refine z04 (z0k (ys:=cl.map fun x=>[z0u x]) rfl (z4k (g:=fun x=>[z0u x]) hk)) rfl rfl ?_| refine z04 (z2n rfl) rfl rfl ?_))|(apply z02;(refine z09 (z2n rfl) rfl rfl ?_))|(apply z0z;(refine z09 (z16 (z8h (by omega) (by omega))) rfl rfl ?_))|(apply z15;(first|refine z04 (z8e rfl) rfl rfl ?_| refine z48 (g:=z1k) (x.1,x.2.1,k) rfl ?_))|(apply z0n;(refine z23 ((y.1,x.2.1,y.2.2):Arc) hix hse ?_))|refine stq ?_|refine fk (fun _=>?_) (fun _=>?_)|(refine z19 (fun hg=>?_) (fun hg=>?_)<;> simp only[hg] <;> (try simp only[zA3,zA5,zA6,zA8] at hg)))
         all_goals try (exfalso;omega)
         all_goals refine z18 64 1000 ?_
         all_goals exact z00 ih' rfl rfl
 · obtain rfl:i=l.length:=by omega
   rw[zAs,List.foldl_nil] at i4
   rw[← i4]
   repeat' (first|refine stq ?_|refine fk (fun _=>?_) (fun _=>?_))
   all_goals try (exfalso;omega)
   all_goals refine z0o 1000 rfl ?_
   all_goals exact z05 Tryz.func81 _ z0e ⟨rfl,rfl⟩
open Go.Ab Go.Ax Go.Rx
theorem zij (l:List Rg) (hl:l.length≤9223372036854775807) (c:Int):z08 Tryz.prog 62 [.d (rgs l),I .i32 c] (B (inB l c)):=by
 refine z0g fun H=>?_
 refine z03 Tryz.func62 (by kernel_rfl) rfl (by simp) ?_
 dsimp only[Tryz.f62]
 repeat' (first|refine stq ?_|fail)
 all_goals try (exfalso;omega)
 refine z0a ?_
 refine z00 (z0p (fun q:Nat=>⟨24,[(1,I .i32 c),(7,.d (rgs l)),(8,I .i64 l.length),(9,I .i64 (q:Nat))],[],H⟩) (fun q=>q≤l.length∧inB (l.drop q) c=inB l c) (fun q=>l.length-q) ?_ 0 ⟨zAf _,rfl⟩) rfl rfl
 intro q ⟨i1,i2⟩ ih
 by_cases hlt:q<l.length
 · obtain⟨r,hr⟩:∃ r,l[q]? =some r:=⟨_,zA0 hlt⟩
   rw[drop_cons hr,inB,List.any_cons,← inB] at i2
   by_cases hc:r.1≤c∧c≤r.2
   · rw[zAi hc.1,zAi hc.2,Bool.true_and,Bool.true_or] at i2
     rw[← i2]
     repeat' (first|(apply z01;(refine z04 (z0k (ys:=l.map rgc) rfl (idx hr)) rfl rfl ?_))|refine stq ?_|refine fk (fun _=>?_) (fun _=>?_))
     all_goals try (exfalso;omega)
     all_goals exact z05 Tryz.func62 _ z0e ⟨rfl,rfl⟩
   · have hf:(decide (r.1≤c)&&decide (c≤r.2))=false:=by
      rw[← Bool.decide_and];exact zAo hc
     rw[hf,Bool.false_or] at i2
     repeat' (first|(apply z01;(refine z04 (z0k (ys:=l.map rgc) rfl (idx hr)) rfl rfl ?_))|refine stq ?_|refine fk (fun _=>?_) (fun _=>?_))
     all_goals try (exfalso;omega)
     all_goals exact z00 (ih (q+1) ⟨by omega,i2⟩ (by omega)) rfl rfl
 · obtain rfl:q=l.length:=by omega
   rw[zAs,inB,List.any_nil] at i2
   rw[← i2]
   repeat' (first|refine stq ?_|refine fk (fun _=>?_) (fun _=>?_))
   all_goals try (exfalso;omega)
   all_goals exact z05 Tryz.func62 _ z0e ⟨rfl,rfl⟩
def zxq (p q:Bool) (op:Int):Bool:=if op=1 then p&&q else if op=2 then p||q else if op=3 then p&&!q else if op=4 then p != q else !p
theorem zvr (op:Int) (p q:Bool):z08 Tryz.prog 88 [B p,B q,I .i64 op] (B (zxq p q op)):=by
 refine z0g fun H=>?_
 refine z03 Tryz.func88 (by kernel_rfl) rfl (by simp) ?_
 dsimp only[Tryz.f88]
 rw[zxq]
 by_cases h1:op=1
 · rw[zAz h1]
   exact zD23
 rw[zAy h1]
 by_cases h2:op=2
 · rw[zAz h2]
   exact zD23
 rw[zAy h2]
 by_cases h3:op=3
 · rw[zAz h3]
   exact zD23
 rw[zAy h3]
 by_cases h4:op=4
 · rw[zAz h4]
   exact zD23
 rw[zAy h4]
 exact zD23
abbrev cps (s:ByteArray) (i:Nat):List Int:=(rst s i).map (·.r)
def y6d (a:Au) (s:ByteArray):Bool:=if vAu a=0∧y7r s=true then a.acc 0 (cps s 0) else false
theorem zzb {a:Au} (hv:y90 a) (k:Nat) (hk:k<a.F.length) (c:Int):∃ l,a.A[k]? =some l∧okA none l∧a.nx (k:Nat) c=nxt l c∧-1≤nxt l c∧nxt l c<a.F.length:=by
 obtain⟨l,hl⟩:∃ l,a.A[k]? =some l:=⟨_,zA0 (by rw[hv.len];exact hk)⟩
 have hla:=hv.arc l (zA2 hl)
 refine⟨l,hl,hla.1,by rw[Au.nx,Au.arcs,zAy (by omega),zA9,List.getD,hl];rfl,zkw (p:=none) hla.1 c,?_⟩
 have key:∀ m:List Arc,(∀ x∈m,x.2.2<a.F.length)→nxt m c<a.F.length:=fun m=>by
  induction m with
  | nil=>intro _;simp only[nxt];have:=hv.pos;omega
  | cons x m ih =>
   intro h
   rw[nxt]
   split
   · exact h x (by simp)
   · exact ih fun y hy=>h y (by simp[hy])
 exact key l fun x hx=>(hla.2 x hx).2.2.2.2
theorem y5m (s:ByteArray) (hs:s.size≤1000000):z08 Tryz.prog 40 [S s] (B (y7r s)):=by
 have h:=y22 s hs
 rw[zyl] at h
 exact h
theorem y4b (a:Au) (hf:z57 a) (hl:∀ l∈a.A,l.length≤4611686018427387904) (s:ByteArray) (hs:s.size≤1000000):z08 Tryz.prog 19 [.d (auD a),S s] (B (y6d a s)):=by
 have hv:=z4c a hf
 have hd:=y5m s hs
 refine z0g fun H=>?_
 rw[y6d]
 by_cases h0:vAu a=0
 · rw[h0] at hv
   by_cases h1:y7r s=true
   · have hva:=z3r h0
     rw[zAz ⟨h0,h1⟩]
     rw[h1] at hd
     obtain⟨F,A⟩:=a
     simp only at hl
     refine z03 Tryz.func19 (by kernel_rfl) rfl (by simp) ?_
     dsimp only[Tryz.f19]
     repeat' (first|(apply z06;(first|refine z1i hv ?_| refine z1i hd ?_))|(apply z0w;(refine z07 z2b ?_))|refine stq ?_|(apply z0y;(refine zjn rfl rfl rfl (by decide) ?_)))
     all_goals try (exfalso;omega)
     refine z0a ?_
     refine z00 (z0p (fun q:Nat × Nat=>⟨35,[(2,.ptr (0,2) 0),(5,I .i64 (q.2:Nat)),(17,.ptr (0,17) 0)],[(17,.siter s q.1),(2,.box [.d (z56 F),.d (.slice (A.map z25))])],H⟩) (fun q=>q.1≤s.size∧q.2<F.length∧(⟨F,A⟩:Au).acc (q.2:Nat) (cps s q.1)=(⟨F,A⟩:Au).acc 0 (cps s 0)) (fun q=>s.size-q.1) ?_ (0,0) ⟨zAf _,hva.pos,rfl⟩) rfl rfl
     rintro⟨q,k⟩ ⟨i1,i2,i3⟩ ih
     simp only at i1 i2 i3 ih ⊢
     by_cases hlt:q<s.size
     · have hd2:=zl6 hlt
       have hw:=zo5 s q hlt
       rw[cps,hd2,List.map_cons,Au.acc_cons] at i3
       simp only at i3
       obtain⟨l,hA,hlo,hnx,n0,n1⟩:=zzb hva k i2 ((Utf8.decode s q).1:Nat)
       simp only at hA n1
       rw[hnx] at i3
       have hst:=zqi l (hl l (zA2 hA)) hlo ((Utf8.decode s q).1:Nat)
       generalize nxt l ((Utf8.decode s q).1:Nat)=r at *
       by_cases hr:r<0
       · rw[Au.acc_neg _ _ hr] at i3
         rw[← i3]
         repeat' (first|(apply z01;(refine z04 (z0k (ys:=A.map z25) rfl (idx hA)) rfl rfl ?_))|(apply z06;(refine z1i hst ?_))|refine stq ?_|refine fk (fun _=>?_) (fun _=>?_)|(apply z0y;(refine z3y hlt rfl rfl (by decide) ?_)))
         all_goals exact zD83
       · obtain⟨r,rfl⟩:∃ r':Nat,r=r':=⟨r.toNat,by omega⟩
         have ih':=ih (q+(Utf8.decode s q).2,r) ⟨by simp only;omega,by simp only;omega,i3⟩ (by simp only;omega)
         repeat' (first|(apply z01;(refine z04 (z0k (ys:=A.map z25) rfl (idx hA)) rfl rfl ?_))|(apply z06;(refine z1i hst ?_))|refine stq ?_|(apply z0y;(refine z3y hlt rfl rfl (by decide) ?_)))
         all_goals exact zD8
     · rw[cps,zhz (by omega),List.map_nil,Au.acc_nil,Au.fin,zAy (by omega),zA9] at i3
       obtain⟨b,hb⟩:∃ b,F[k]? =some b:=⟨_,zA0 i2⟩
       simp only[List.getD,hb,Option.getD_some] at i3
       rw[← i3]
       repeat' (first|(apply z01;(refine z04 (z0k (ys:=F.map fun b=>[z7a b]) rfl (idx (g:=fun b=>[z7a b]) hb)) rfl rfl ?_))|refine stq ?_|(apply z0y;(refine z5w hlt rfl rfl (by decide) ?_)))
       all_goals exact zD83
   · rw[zAy (fun h=>h1 h.2)]
     rw[Bool.not_eq_true] at h1
     rw[h1] at hd
     refine z03 Tryz.func19 (by kernel_rfl) rfl (by simp) ?_
     dsimp only[Tryz.f19]
     repeat' (first|(apply z06;(first|refine z1i hv ?_| refine z1i hd ?_))|(apply z0w;(refine z07 z2b ?_))|refine stq ?_|fail)
     all_goals exact zD83
 · rw[zAy (fun h=>h0 h.1)]
   generalize vAu a=v at *
   refine z03 Tryz.func19 (by kernel_rfl) rfl (by simp) ?_
   dsimp only[Tryz.f19]
   repeat' (first|(apply z06;(first|refine z1i hv ?_| refine z1i hd ?_))|(apply z0w;(refine z07 z2b ?_))|refine stq ?_|refine fk (fun _=>?_) (fun _=>?_))
   all_goals exact zD83
end Go.Proofs.YthdfkabdoidjfaaGreatDoor
