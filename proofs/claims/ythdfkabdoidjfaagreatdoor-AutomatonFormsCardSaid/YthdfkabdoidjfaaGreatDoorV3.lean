/- A part of the proof: A13 to A16. -/
import Derived.Test.YthdfkabdoidjfaaGreatDoorV2
import Derived.Test.YthdfkabdoidjfaaGreatDoorV1
import Derived.Test.YthdfkabdoidjfaaGreatDoorVc
set_option linter.all false
namespace Go.Proofs.YthdfkabdoidjfaaGreatDoor
open Go.Ab Go.Ax
set_option maxHeartbeats 20000000
set_option maxRecDepth 100000
attribute [local irreducible] Run Ops Op1 z2a Val Tr z0y z1x NF Rel z3i z3g
theorem zng (b1 b2 b3 b4:Blk) (ok:Int→Prop) (fin:Int→Bool) (edg:Int→List (Go.Ax.Edge (Int))) (first:Int) (lim:Int) (hl0:1≤lim) (hl1:lim≤2000000) (hok0:ok first)
 (hfin:∀ k,ok k→z1x Tryz.prog 79 [I .i64 k,.ptr (1,2) 0,.ptr (1,8) 0] [((1,2),b1),((1,8),b2),((1,6),b3),((1,29),b4)] [] (B (fin k))) (hedg:∀ k,ok k→z1x Tryz.prog 80 [I .i64 k,.ptr (1,2) 0,.ptr (1,8) 0,.ptr (1,6) 0] [((1,2),b1),((1,8),b2),((1,6),b3),((1,29),b4)] [] (.d (zbp (edg k)))) (hE:∀ k,ok k→edE (edg k)∧∀ e∈edg k,ok e.2.2)
 (H:Hf) (hb1:H 0 2=some b1) (hb2:H 0 8=some b2) (hb3:H 0 6=some b3) (hb4:H 0 29=some b4) :
 Ab.Spec Tryz.prog 82 [I .i64 first,.fn (.func 79) [] [.ptr (0,2) 0,.ptr (0,8) 0],.fn (.func 80) [] [.ptr (0,2) 0,.ptr (0,8) 0,.ptr (0,6) 0],I .i64 lim] H (fun r H'=>r=.v (exR (exL fin edg lim.toNat (lim.toNat+1) 0 [first] ⟨[],[]⟩))∧H'=H):=by
 have hb:∀ (n:Nat) (tm:List (Nat × PV)) (hp:Hp),BkE ⟨n,tm,hp,H⟩ [((1,2),b1),((1,8),b2),((1,6),b3),((1,29),b4)]:=fun n tm hp=>by simp[BkE,z4x,push,hb1,hb2,hb3,hb4]
 refine z0k Tryz.func82 (by kernel_rfl) rfl (by simp) ?_
 dsimp only[Tryz.f82]
 repeat' (first|(apply z07;(first|refine zaz (by decide) rfl ?_|refine zft (et:=3) (a:=first) (v:=z2w 0) (py:=I .i64 first) (q:=([]:List ((Int) × D))) (by kernel_rfl) ze1 rfl rfl zdp rfl rfl rfl ?_|refine z0r ?_| (apply z0g;(refine z0a z16 ?_))|(apply z2o;(refine zet rfl rfl rfl rfl rfl rfl rfl rfl rfl (by decide) ?_))))|(apply z08;(first|refine z0p ?_|apply z09))|(apply z05;(first|apply z06|apply z00|apply z01)))
 refine z2p 24 1000 ?_
 refine z4m 10 0 1001 4 1 rfl rfl rfl rfl ?_
 refine z4m 10 1 1002 39 1 rfl rfl rfl rfl ?_
 generalize hres:exL fin edg lim.toNat (lim.toNat+1) 0 [first] ⟨[],[]⟩=res
 refine z1f ?_
 refine z0d (z25 (fun q:Nat × List (Int) × Au=>⟨128,[(1,.fn (.func 79) [] [.ptr (1,2) 0,.ptr (1,8) 0]),(2,.fn (.func 80) [] [.ptr (1,2) 0,.ptr (1,8) 0,.ptr (1,6) 0]),(3,I .i64 lim),(8,.ptr (0,8) 0),(10,.ptr (0,10) 0),(11,.ref (0,20)),(12,.ref (0,1000)),(13,I .i64 (q.1:Nat))],[(20,mpI q.2.1),(1000,.row 3 1 (q.2.1.map icc)),(10,.box [.ref (0,1001),.ref (0,1002)]),(1001,.row 4 1 (q.2.2.F.map boc)),(1002,.row 39 1 (q.2.2.A.map z71)),(8,.box [.d (.lit z4d),.d (.lit z4d)])],H⟩) (fun q=>q.1≤q.2.1.length∧1≤q.2.1.length∧q.2.1.length≤lim.toNat∧q.2.2.F.length=q.1∧q.2.2.A.length=q.1∧(∀ x∈q.2.1,ok x)∧exL fin edg lim.toNat (lim.toNat+1-q.1) q.1 q.2.1 q.2.2=res) (fun q=>lim.toNat+1-q.1) ?_ (0,[first],⟨[],[]⟩) ⟨zAf _,zAj _,by simp only[zAn];omega,rfl,rfl,fun x hx=>by rw[zAq] at hx;rw[hx];exact hok0,hres⟩) rfl rfl
 rintro⟨i,ks,⟨F,A⟩⟩ ⟨i1,i2,i3,i4,i5,i7,i6⟩ ih
 simp only at i1 i2 i3 i4 i5 i6 i7 ih ⊢
 by_cases hlt:i<ks.length
 · obtain⟨k,hk⟩:∃ k,ks[i]? =some k:=⟨_,zA0 hlt⟩
   obtain⟨n,hn⟩:∃ n,lim.toNat+1-i=n+1:=⟨lim.toNat-i,by omega⟩
   rw[hn,exL,hk] at i6
   simp only at i6
   have hok:=i7 k (zA2 hk)
   have hff:=hfin k hok
   have hee:=hedg k hok
   obtain⟨⟨hE1,hE2⟩,hE3⟩:=hE k hok
   generalize edg k=es at *
   generalize fin k=fb at *
   repeat' (first|(apply z07;(first|refine z0r ?_| (apply z0b;(refine z02 (z13 (u:=z2w k) hk) rfl rfl ?_))|(apply z0m;(refine z02 (z3z rfl) rfl rfl ?_))|(apply z11;(first|refine z02 (z6v rfl) rfl rfl ?_| refine z02 (z1k rfl) rfl rfl ?_))|(apply z0s;(refine zvq (first:=[]) (cap:=[.ptr (1,2) 0,.ptr (1,8) 0,.ptr (1,6) 0]) (ps:=[I .i64 k]) hee rfl rfl (hb _ _ _) (by decide) ?_))))|(apply z08;(first|refine z0p ?_|apply z09))|(apply z05;(first|apply z06|apply z00|apply z04|apply z01|refine z0f (fun _=>?_) (fun _=>?_)| refine z0l ?_)))
   all_goals try (exfalso;simp only[zA4] at *;omega)
   refine z2x 14 1003 38 3 rfl rfl rfl ?_
   refine z1f ?_
   refine z0d (z25 (fun q:Nat × List (Int) × List Arc=>⟨128,[(1,.fn (.func 79) [] [.ptr (1,2) 0,.ptr (1,8) 0]),(2,.fn (.func 80) [] [.ptr (1,2) 0,.ptr (1,8) 0,.ptr (1,6) 0]),(3,I .i64 lim),(8,.ptr (0,8) 0),(10,.ptr (0,10) 0),(11,.ref (0,20)),(12,.ref (0,1000)),(13,I .i64 (i:Nat)),(14,.ref (0,1003)),(36,.d (.slice (es.map z3m))),(37,I .i64 es.length),(38,I .i64 (q.1:Nat))],[(20,mpI q.2.1),(1000,.row 3 1 (q.2.1.map icc)),(1003,.row 38 3 (q.2.2.map z3m)),(10,.box [.ref (0,1001),.ref (0,1002)]),(1001,.row 4 1 (F.map boc)),(1002,.row 39 1 (A.map z71)),(8,.box [.d (.lit z4d),.d (.lit z4d)])],H⟩) (fun q=>q.1≤es.length∧q.2.2.length≤q.1∧q.2.1.length≤ks.length+q.1∧q.2.1[i]? =some k∧(∀ y∈q.2.2,0≤y.2.1∧y.2.1≤1114111)∧(∀ x∈q.2.1,ok x)∧(es.drop q.1).foldl z6o q.2=es.foldl z6o (ks,[])) (fun q=>es.length-q.1) ?_ (0,ks,[]) ⟨zAf _,zAj _,zAj _,hk,by simp,i7,rfl⟩) rfl rfl
   rintro⟨j,ks2,arcs⟩ ⟨j1,j2,j3,j4,j5,j7,j6⟩ ihj
   simp only at j1 j2 j3 j4 j5 j6 j7 ihj ⊢
   by_cases hjl:j<es.length
   · exact zD2
   · obtain rfl:j=es.length:=by omega
     rw[zAs,List.foldl_nil] at j6
     rw[← j6] at i6
     simp only at i6
     have hi2:=(zA1.1 j4).1
     refine z2g 1003 rfl ?_
     by_cases hlim:lim.toNat<ks2.length
     · exact zD33
     · rw[zAy hlim] at i6
       have ih':=ih (i+1,ks2,⟨F++[fb],A++[arcs]⟩) ⟨by simp only;omega,by simp only;omega,by simp only;omega,by simp[i4],by simp[i5],j7,by rw[← i6];simp only;rw[show lim.toNat+1-(i+1)=n by omega]⟩ (by simp only;omega)
       simp only at ih'
       repeat' (first|(apply z07;(first|refine z0r ?_| (apply z0b;(refine z02 z1i rfl rfl ?_))|(apply z0e;(refine z02 z0q rfl rfl ?_))|(apply z0t;(refine z02 (z0u z0x) rfl rfl ?_))|(apply z11;(first|refine z02 (z1t rfl) rfl rfl ?_| refine z3w (g:=z71) arcs rfl ?_))|(apply z0c;(refine z22 ?_))|(apply z10;(refine z23 ?_))|(apply z2o;(refine z2s rfl ?_))))|(apply z08;(first|refine z0p ?_|apply z09))|(apply z05;(first|apply z06|apply z00|apply z04|apply z01|apply z2b|apply z03|refine z0f (fun _=>?_) (fun _=>?_)| refine z0l ?_))|(apply z2c;(first|(apply z0v;refine z1h mix ?_)|refine z2e ?_| (apply z0j;(first|refine z0h (z13 (u:=z2w k) j4) rfl rfl ?_| refine z0h z1i rfl rfl ?_))|(apply z0z;(refine z0h z0q rfl rfl ?_))|(apply z0o;(refine z0h (z2m rfl (by simp only[zA4];omega)) rfl rfl ?_))|(apply z6u;(refine zbm (g:=boc) (by first|exact rfl|exact⟨_,rfl,rfl,rfl⟩) rfl rfl fb rfl rfl rfl rfl rfl rfl rfl (by decide) (by omega) ?_))|(apply z1j;(refine zvy (first:=[]) (cap:=[.ptr (1,2) 0,.ptr (1,8) 0]) (ps:=[I .i64 k]) hff (by first|exact rfl|exact⟨_,rfl,rfl,rfl⟩) rfl rfl (hb _ _ _) (by decide) ?_))|(apply z1q;(refine zcb (by first|exact rfl|exact⟨_,rfl,rfl,rfl⟩) rfl rfl rfl rfl rfl ?_))|(apply za4;(refine zg3 rfl ?_)))))
       all_goals exact zD102
 · exact zD28
structure zci (F:List Bool) (A:List (List Arc)):Prop where
 len:A.length=F.length
 arc:∀ l∈A,okA none l∧l.length≤2000000∧∀ x∈l,0≤x.1∧x.1≤x.2.1∧x.2.1≤1114111∧0≤x.2.2∧x.2.2<F.length
 few:F.length≤2000000
 pos:0<F.length
 tot:(A.map List.length).sum≤1000000000
theorem zv8 (F:List Bool) (A:List (List Arc)) (k:Int) (h0:0≤k) (h1:k<F.length):z1x Tryz.prog 83 [I .i64 k,.ptr (1,1) 0] [((1,1),BX F A)] [] (B ((⟨F,A⟩:Au).fin k)):=by
 refine z2f fun H hH=>?_
 have hX:H 1 1=some (BX F A):=hH ((1,1),BX F A) (by simp)
 obtain⟨k,rfl⟩:∃ q:Nat,k=q:=⟨k.toNat,by omega⟩
 obtain⟨b,hb⟩:∃ b,F[k]? =some b:=⟨_,zA0 (by omega)⟩
 have hf:(⟨F,A⟩:Au).fin (k:Nat)=b:=by rw[Au.fin,zAy (by omega),zA9,List.getD,hb];rfl
 rw[hf]
 refine z0k Tryz.func83 (by kernel_rfl) rfl (by simp) ?_
 dsimp only[Tryz.f83]
 repeat' (first|(apply z07;(first|refine z0r ?_| (apply z0b;(first|refine z3s rfl hX rfl rfl rfl rfl (by decide) ?_|refine z02 z2r rfl rfl ?_))|(apply z0e;(refine z02 z0q rfl rfl ?_))|(apply z0m;(refine z02 (z1b (ys:=F.map boc) rfl (idx (g:=boc) hb)) rfl rfl ?_))))|(apply z08;(first|refine z0p ?_|apply z09))|(apply z05;(first|apply z06|apply z00)))
 all_goals try (exfalso;omega)
 all_goals exact z0n Tryz.func83 _ z19 ⟨rfl,rfl⟩
theorem zts (F:List Bool) (A:List (List Arc)) (hA:zci F A) (k:Int) (h0:0≤k) (h1:k<F.length):z1x Tryz.prog 84 [I .i64 k,.ptr (1,1) 0] [((1,1),BX F A)] [] (.d (zbp ((⟨F,A⟩:Au).arcs k))):=by
 refine z2f fun H hH=>?_
 have hX:H 1 1=some (BX F A):=hH ((1,1),BX F A) (by simp)
 obtain⟨k,rfl⟩:∃ q:Nat,k=q:=⟨k.toNat,by omega⟩
 obtain⟨l,hl⟩:∃ l,A[k]? =some l:=⟨_,zA0 (by rw[hA.len];omega)⟩
 have hf:(⟨F,A⟩:Au).arcs (k:Nat)=l:=by rw[Au.arcs,zAy (by omega),zA9,List.getD,hl];rfl
 have hp:=zyu l (hA.arc l (zA2 hl)).2.1
 rw[hf]
 refine z0k Tryz.func84 (by kernel_rfl) rfl (by simp) ?_
 dsimp only[Tryz.f84]
 repeat' (first|(apply z07;(first|refine z0r ?_| (apply z0b;(first|refine z3s rfl hX rfl rfl rfl rfl (by decide) ?_|refine z02 z2r rfl rfl ?_))|(apply z0e;(refine z02 z0q rfl rfl ?_))|(apply z0m;(refine z02 (z1b (ys:=A.map z71) rfl (idx hl)) rfl rfl ?_))|(apply z0s;(refine z1w hp ?_))))|(apply z08;(first|refine z0p ?_|apply z09))|(apply z05;(first|apply z06|apply z00)))
 all_goals try (exfalso;omega)
 all_goals exact z0n Tryz.func84 _ z19 ⟨rfl,rfl⟩
theorem ztq {F:List Bool} {A:List (List Arc)} (hA:zci F A) (k:Int) (h0:0≤k) (h1:k<F.length):edE ((⟨F,A⟩:Au).arcs k)∧∀ e∈(⟨F,A⟩:Au).arcs k,0≤e.2.2∧e.2.2<F.length:=by
 obtain⟨k,rfl⟩:∃ q:Nat,k=q:=⟨k.toNat,by omega⟩
 obtain⟨l,hl⟩:∃ l,A[k]? =some l:=⟨_,zA0 (by rw[hA.len];omega)⟩
 have hf:(⟨F,A⟩:Au).arcs (k:Nat)=l:=by rw[Au.arcs,zAy (by omega),zA9,List.getD,hl];rfl
 rw[hf]
 obtain⟨h1,h2,h3⟩:=hA.arc l (zA2 hl)
 exact⟨⟨h2,fun e he=>by have:=h3 e he;omega⟩,fun e he=>by have:=h3 e he;omega⟩
def z7t (F:List Bool) (A:List (List Arc)):Option Au:=exL (⟨F,A⟩:Au).fin (⟨F,A⟩:Au).arcs F.length (F.length+1) 0 [0] ⟨[],[]⟩
theorem zk0 (F:List Bool) (A:List (List Arc)) (hA:zci F A):z0y Tryz.prog 45 [.d (auD ⟨F,A⟩)] (.d (auD ((z7t F A).getD ⟨[],[]⟩))):=by
 refine z1r fun H=>?_
 have hpos:=hA.pos
 have hfew:=hA.few
 have hex:z1x Tryz.prog 82 [I .i64 0,.fn (.func 83) [] [.ptr (0,1) 0],.fn (.func 84) [] [.ptr (0,1) 0],I .i64 F.length] [((0,1),BX F A)] [] (exR (z7t F A)):=z2f fun H hH=>by
  have:=znt (BX F A) (fun k=>0≤k∧k<F.length) (⟨F,A⟩:Au).fin (⟨F,A⟩:Au).arcs 0 F.length (by omega) (by omega) ⟨by omega,by omega⟩ (fun k hk=>zv8 F A k hk.1 hk.2) (fun k hk=>zts F A hA k hk.1 hk.2) (fun k hk=>ztq hA k hk.1 hk.2) H (hH ((0,1),BX F A) (by simp))
  rw[zA9] at this
  exact this
 generalize z7t F A=o at *
 cases o with
 | some a =>
  simp only[exR,Option.getD_some] at hex ⊢
  exact zD32
 | none =>
  simp only[exR,Option.getD_none] at hex ⊢
  exact zD32
theorem zhf {α:Type} [DecidableEq α] (a b:α) (v:D):∀ q:List (α × D),z63 (zfv q a v) b=if a=b then some v else z63 q b
 | []=>by simp[zfv,z63]
 | (c,u)::r=>by
  rw[zfv]
  by_cases h:c=a
  · rw[zAz h,z63,z63]
    by_cases h2:a=b
    · rw[zAz h2,zAz h2]
    · rw[zAy h2,zAy h2,zAy (by rw[h];exact h2)]
  · rw[zAy h,z63,z63,zhf a b v r]
    by_cases h2:c=b
    · rw[zAz h2,zAz h2,zAy (fun e=>h (by rw[h2,e]))]
    · rw[zAy h2,zAy h2]
def zcv (cl:List Int):Nat→Int→Option Nat
 | 0,_=>none
 | j+1,k=>if cl.getD j 0=k then some j else zcv cl j k
theorem z6x {cl:List Int} {k:Int}:∀ {j s:Nat},zcv cl j k=some s→s<j∧cl.getD s 0=k
 | 0,s,h=>by simp[zcv] at h
 | j+1,s,h=>by
  rw[zcv] at h
  split at h
  · simp at h;subst h;exact⟨by omega,by assumption⟩
  · have:=z6x h;exact⟨by omega,this.2⟩
theorem z9l {cl:List Int} {k:Int}:∀ {j s:Nat},s<j→cl.getD s 0=k→∃ r,zcv cl j k=some r
 | 0,s,h,_=>by omega
 | j+1,s,h,h2=>by
  rw[zcv]
  by_cases hj:cl.getD j 0=k
  · exact⟨j,by rw[zAz hj]⟩
  · rw[zAy hj]
    have:s≠j:=by rintro rfl;exact hj h2
    exact z9l (by omega) h2
def stQ (cl:List Int) (k:Int):Nat:=(zcv cl cl.length k).getD 0
abbrev mpD (m:List (Int × D)):Blk:=.mp (m.map fun p=>(Value.int .i64 p.1,p.2))
section
variable (F:List Bool) (A:List (List Arc)) (cl:List Int) (m:List (Int × D)) (hA:zci F A) (hcl:cl.length=F.length) (hm:∀ k,z63 m k=(zcv cl cl.length k).map fun s=>z2w (s:Nat))
abbrev bsM:List (Nm × Blk):=[((1,2),BX F A),((1,8),.box [.ref (0,29)]),((1,6),.box [.d (ints cl)]),((1,29),mpD m)]
include hcl hm in
theorem zy3 (k:Int) (hk:∃ q,q<F.length∧cl.getD q 0=k):z1x Tryz.prog 79 [I .i64 k,.ptr (1,2) 0,.ptr (1,8) 0] (bsM F A cl m) [] (B ((⟨F,A⟩:Au).fin (stQ cl k:Nat))):=by
 refine z2f fun H hH=>?_
 have h2:H 1 2=some (BX F A):=hH ((1,2),BX F A) (by simp)
 have h8:H 1 8=some (.box [.ref (0,29)]):=hH ((1,8),.box [.ref (0,29)]) (by simp)
 have h29:H 1 29=some (mpD m):=hH ((1,29),mpD m) (by simp)
 obtain⟨q,hq,hqk⟩:=hk
 obtain⟨r,hr⟩:=z9l (cl:=cl) (j:=cl.length) (s:=q) (by omega) hqk
 have hst:stQ cl k=r:=by rw[stQ,hr];rfl
 have hrl:=(z6x hr).1
 have hmk:(z63 m k).getD (.lit (.int .i64 0))=z2w (r:Nat):=by rw[hm,hr];rfl
 obtain⟨b,hb⟩:∃ b,F[r]? =some b:=⟨_,zA0 (by omega)⟩
 have hf:(⟨F,A⟩:Au).fin (r:Nat)=b:=by rw[Au.fin,zAy (by omega),zA9,List.getD,hb];rfl
 rw[hst,hf]
 refine z0k Tryz.func79 (by kernel_rfl) rfl (by simp) ?_
 dsimp only[Tryz.f79]
 repeat' (first|(apply z07;(first|refine z0a (zoy (et:=3) (a:=k) (q:=m) (z0:=Value.int .i64 0) (py:=I .i64 k) (m0:=(2,29)) (by kernel_rfl) ze1 (z2t (by kernel_rfl)) rfl rfl rfl zdp h29 hmk (by decide)) ?_|refine z0r ?_| (apply z0b;(first|refine z3s rfl h8 rfl rfl rfl rfl (by decide) ?_|refine z3s rfl h2 rfl rfl rfl rfl (by decide) ?_|refine z02 z2r rfl rfl ?_))|(apply z0e;(refine z02 z0q rfl rfl ?_))|(apply z0m;(refine z02 (z1b (ys:=F.map boc) rfl (idx (g:=boc) hb)) rfl rfl ?_))))|(apply z08;(first|refine z0p ?_|apply z09))|(apply z05;(first|apply z06|apply z00)))
 all_goals try (exfalso;omega)
 all_goals exact z0n Tryz.func79 _ z19 ⟨rfl,rfl⟩
include hA hcl hm in
theorem y0m (k:Int) (hk:∃ q,q<F.length∧cl.getD q 0=k):z1x Tryz.prog 80 [I .i64 k,.ptr (1,2) 0,.ptr (1,8) 0,.ptr (1,6) 0] (bsM F A cl m) [] (.d (zbp (byC cl ((⟨F,A⟩:Au).arcs (stQ cl k:Nat))))):=by
 refine z2f fun H hH=>?_
 have h2:H 1 2=some (BX F A):=hH ((1,2),BX F A) (by simp)
 have h8:H 1 8=some (.box [.ref (0,29)]):=hH ((1,8),.box [.ref (0,29)]) (by simp)
 have h6:H 1 6=some (.box [.d (ints cl)]):=hH ((1,6),.box [.d (ints cl)]) (by simp)
 have h29:H 1 29=some (mpD m):=hH ((1,29),mpD m) (by simp)
 obtain⟨q,hq,hqk⟩:=hk
 obtain⟨r,hr⟩:=z9l (cl:=cl) (j:=cl.length) (s:=q) (by omega) hqk
 have hst:stQ cl k=r:=by rw[stQ,hr];rfl
 have hrl:=(z6x hr).1
 have hmk:(z63 m k).getD (.lit (.int .i64 0))=z2w (r:Nat):=by rw[hm,hr];rfl
 obtain⟨l,hl⟩:∃ l,A[r]? =some l:=⟨_,zA0 (by rw[hA.len];omega)⟩
 have hf:(⟨F,A⟩:Au).arcs (r:Nat)=l:=by rw[Au.arcs,zAy (by omega),zA9,List.getD,hl];rfl
 obtain⟨l0,l1,l2⟩:=hA.arc l (zA2 hl)
 have hby:=zis l cl l1 (fun x hx=>by have:=l2 x hx;omega)
 rw[hst,hf]
 refine z0k Tryz.func80 (by kernel_rfl) rfl (by simp) ?_
 dsimp only[Tryz.f80]
 repeat' (first|(apply z07;(refine z0r ?_))|(apply z08;(first|refine z0p ?_|apply z09))|(apply z05;(first|apply z06|apply z00|apply z2b))|(apply z2c;(first|(apply z0v;refine z1h mix ?_)|refine z0h (zzq (et:=3) (a:=k) (q:=m) (z0:=Value.int .i64 0) (py:=I .i64 k) (m0:=(2,29)) (by kernel_rfl) ze1 (z2t (by kernel_rfl)) rfl zdp hmk) rfl (bk1 h29) ?_| refine z2e ?_| (apply z0j;(first|refine zau (by first|exact rfl|exact⟨_,rfl,rfl,rfl⟩) rfl h6 rfl rfl rfl rfl (by decide) ?_|refine zau (by first|exact rfl|exact⟨_,rfl,rfl,rfl⟩) rfl h8 rfl rfl rfl rfl (by decide) ?_|refine zau (by first|exact rfl|exact⟨_,rfl,rfl,rfl⟩) rfl h2 rfl rfl rfl rfl (by decide) ?_|refine z0h z2r rfl rfl ?_))|(apply z0z;(refine z0h z0q rfl rfl ?_))|(apply z0o;(refine z0h (z1b (ys:=A.map z71) rfl (idx hl)) rfl rfl ?_))|(apply z1j;(refine z4s hby ?_)))))
 all_goals try (exfalso;omega)
 all_goals exact z0n Tryz.func80 _ z19 ⟨rfl,rfl⟩
end
def y36 (F:List Bool) (A:List (List Arc)) (cl:List Int) (lim:Nat):Option Au:=exL (fun k=>(⟨F,A⟩:Au).fin (stQ cl k:Nat)) (fun k=>byC cl ((⟨F,A⟩:Au).arcs (stQ cl k:Nat))) lim (lim+1) 0 [cl.getD 0 0] ⟨[],[]⟩
noncomputable def zoe (F:List Bool) (A:List (List Arc)) (lim:Nat):Option Au:=match zwz F A lim with
 | none=>none
 | some cl=>if cl.getD 0 0<0 then some ⟨[false],[[]]⟩ else y36 F A cl lim
theorem zx8 {A:List (List Arc)} {n lim:Nat} (hn:n≤4000000) (hA:∀ l∈A,∀ x∈l,0≤x.1∧x.1≤x.2.1∧x.2.1≤1114111):∀ {f c:Nat} {cl r:List Int},ClW n c cl→zkm A lim f c cl=some r→∃ c',ClW n c' r
 | 0,c,cl,r,_,h=>by rw[zkm] at h;cases h
 | f+1,c,cl,r,hW,h=>by
  rw[zkm] at h
  obtain⟨_,hW2⟩:=zqp hn hW hA
  split at h
  · cases h
  split at h
  · simp at h;subst h;exact⟨_,hW2⟩
  · exact zx8 hn hA hW2 h
theorem zhx (F:List Bool) (A:List (List Arc)) (hA:zci F A) (lim:Nat) (h1:1≤lim) (h2:lim≤2000000):z0y Tryz.prog 44 [.d (auD ⟨F,A⟩),I .i64 lim] (exR (zoe F A lim)):=by
 refine z1r fun H=>?_
 have hfew:=hA.few
 have hpos:=hA.pos
 have hcs:=zrz F A lim (by omega) hA.len (fun l hl=>⟨(hA.arc l hl).2.1,(hA.arc l hl).2.2⟩) (by omega) hA.tot
 rw[zA9] at hcs
 have hA1:∀ l∈A,∀ x∈l,0≤x.1∧x.1≤x.2.1∧x.2.1≤1114111:=fun l hl x hx=>by have:=(hA.arc l hl).2.2 x hx;omega
 have hWcl:∀ cl,zwz F A lim=some cl→∃ c',ClW F.length c' cl:=fun cl h=>zx8 (by omega) hA1 (zp7 F A) h
 rw[zoe]
 generalize zwz F A lim=o at *
 cases o with
 | none =>
  simp only[y4d] at hcs
  simp only[exR]
  refine z0k Tryz.func44 (by kernel_rfl) rfl (by simp) ?_
  dsimp only[Tryz.f44]
  repeat' (first|(apply z07;(first|refine z0r ?_| (apply z0b;(refine z02 z2q rfl rfl ?_))|(apply z0s;(refine z1w hcs ?_))|(apply z0c;(refine z22 ?_))|(apply z0g;(refine z0a z16 ?_))|(apply z1s;(refine z0a z3y ?_))|(apply z10;(refine z23 ?_))))|(apply z08;(first|refine z0p ?_|apply z09))|(apply z05;(first|apply z06|apply z00|refine z1c ?_)))
  all_goals exact z0n Tryz.func44 _ (z1a rfl rfl rfl rfl rfl rfl rfl) ⟨rfl,rfl⟩
 | some cl =>
  obtain⟨c',hW⟩:=hWcl cl rfl
  simp only[y4d] at hcs
  simp only
  have hcl:=hW.len
  obtain⟨k0,hk0⟩:∃ k,cl[0]? =some k:=⟨_,zA0 (by omega)⟩
  have hk0i:cl[(0:Int).toNat]? =some k0:=hk0
  rw[z47 hk0]
  by_cases hneg:k0<0
  · rw[zAz hneg]
    simp only[exR]
    refine z0k Tryz.func44 (by kernel_rfl) rfl (by simp) ?_
    dsimp only[Tryz.f44]
    repeat' (first|(apply z07;(first|refine z0r ?_| (apply z0b;(first|refine z02 z2q rfl rfl ?_| refine z02 z1i rfl rfl ?_| refine z02 z2r rfl rfl ?_))|(apply z0m;(refine z02 (z1b (ys:=cl.map icc) rfl (zgu (g:=icc) hk0i)) rfl rfl ?_))|(apply z0s;(refine z1w hcs ?_))|(apply z0c;(refine z22 ?_))|(apply z0g;(refine z0a z16 ?_))|(apply z1s;(refine z0a z3y ?_))|(apply z10;(refine z23 ?_))|(apply z2o;(refine z2s rfl ?_))|(apply zl7;((refine zl0 (xs:=[[.slice []]]) rfl rfl (by decide) (by decide) rfl rfl rfl (by decide) (by rfl) ?_;refine zcc 27 rfl ?_)))))|(apply z08;(first|refine z0p ?_|apply z09))|(apply z05;(first|apply z06|apply z00|refine z0w ?_| apply z04|refine z0f (fun _=>?_) (fun _=>?_))))
    all_goals try (exfalso;omega)
    all_goals exact z0n Tryz.func44 _ (z1a rfl rfl rfl rfl rfl rfl rfl) ⟨rfl,rfl⟩
  · rw[zAy hneg]
    have hex:∀ m:List (Int × D),(∀ k,z63 m k=(zcv cl cl.length k).map fun s=>z2w (s:Nat))→z1x Tryz.prog 82 [I .i64 k0,.fn (.func 79) [] [.ptr (0,2) 0,.ptr (0,8) 0],.fn (.func 80) [] [.ptr (0,2) 0,.ptr (0,8) 0,.ptr (0,6) 0],I .i64 lim] [((0,2),BX F A),((0,8),.box [.ref (0,29)]),((0,6),.box [.d (ints cl)]),((0,29),mpD m)] [] (exR (y36 F A cl lim)):=fun m hm=>z2f fun H hH=>by
     have hrng:∀ k,(∃ q,q<F.length∧cl.getD q 0=k∧0≤k)→edE (byC cl ((⟨F,A⟩:Au).arcs (stQ cl k:Nat)))∧∀ e∈byC cl ((⟨F,A⟩:Au).arcs (stQ cl k:Nat)),∃ q,q<F.length∧cl.getD q 0=e.2.2∧0≤e.2.2:=fun k hk=>by
      obtain⟨q,hq,hqk,hk0⟩:=hk
      obtain⟨r,hr⟩:=z9l (cl:=cl) (j:=cl.length) (s:=q) (by omega) hqk
      have hst:stQ cl k=r:=by rw[stQ,hr];rfl
      have hrl:=(z6x hr).1
      obtain⟨l,hl⟩:∃ l,A[r]? =some l:=⟨_,zA0 (by rw[hA.len];omega)⟩
      have hf:(⟨F,A⟩:Au).arcs (r:Nat)=l:=by rw[Au.arcs,zAy (by omega),zA9,List.getD,hl];rfl
      rw[hst,hf]
      obtain⟨l0,l1,l2⟩:=hA.arc l (zA2 hl)
      obtain⟨b1,b2⟩:=zbr (fun q=>(zah hW.rng q).1) l0
      have bl:=zql (cl:=cl) (l:=l)
      have bm:=zfk (B:=4000000) (fun q=>(zah hW.rng q).2) (hA1 l (zA2 hl))
      have hoa:=zr9 b1
      refine⟨⟨by omega,fun e he=>⟨(bm e he).1,hoa e he,(bm e he).2.2.2.1⟩⟩,fun e he=>?_⟩
      have hee:=zjl b1 he
      rw[b2] at hee
      have h0:=(bm e he).2.2.2.2.1
      rw[clA] at hee
      split at hee
      · omega
      · rename_i hnn
        obtain⟨y,hy,hy2⟩:=zim (l:=l) (c:=e.1) (by omega)
        have hyr:=l2 y hy
        exact⟨(nxt l e.1).toNat,by omega,hee,h0⟩
     have:=zng (BX F A) (.box [.ref (0,29)]) (.box [.d (ints cl)]) (mpD m) (fun k=>∃ q,q<F.length∧cl.getD q 0=k∧0≤k) (fun k=>(⟨F,A⟩:Au).fin (stQ cl k:Nat)) (fun k=>byC cl ((⟨F,A⟩:Au).arcs (stQ cl k:Nat))) k0 lim (by omega) (by omega) ⟨0,hpos,z47 hk0,by omega⟩ (fun k hk=>zy3 F A cl m hcl hm k (by obtain⟨q,a,b,_⟩:=hk;exact⟨q,a,b⟩)) (fun k hk=>y0m F A cl m hA hcl hm k (by obtain⟨q,a,b,_⟩:=hk;exact⟨q,a,b⟩)) hrng H (hH ((0,2),BX F A) (by simp)) (hH ((0,8),.box [.ref (0,29)]) (by simp)) (hH ((0,6),.box [.d (ints cl)]) (by simp)) (hH ((0,29),mpD m) (by simp))
     rw[zA9] at this
     rw[y36,z47 hk0]
     exact this
    generalize y36 F A cl lim=o2 at *
    refine z0k Tryz.func44 (by kernel_rfl) rfl (by simp) ?_
    dsimp only[Tryz.f44]
    repeat' (first|(apply z07;(first|refine zaz (by decide) rfl ?_|refine z0r ?_| (apply z0b;(first|refine z02 z2q rfl rfl ?_| refine z02 z1i rfl rfl ?_| refine z02 z2r rfl rfl ?_))|(apply z0m;(refine z02 (z1b (ys:=cl.map icc) rfl (zgu (g:=icc) hk0i)) rfl rfl ?_))|(apply z11;(refine z02 (z1k rfl) rfl rfl ?_))|(apply z0s;(refine z1w hcs ?_))|(apply z0c;(refine z22 ?_))|(apply z0g;(refine z0a z16 ?_))|(apply z1s;(refine z0a z3y ?_))|(apply z2o;(refine z2s rfl ?_))))|(apply z08;(first|refine z0p ?_|apply z09))|(apply z05;(first|apply z06|apply z00|refine z0w ?_| apply z04|apply z01|refine z0f (fun _=>?_) (fun _=>?_))))
    all_goals try (exfalso;omega)
    refine z1f ?_
    refine z0d (z25 (fun q:Nat × List (Int × D)=>⟨52,[(1,I .i64 lim),(2,.ptr (0,2) 0),(4,.ptr (0,4) 0),(6,.ptr (0,6) 0),(8,.ptr (0,8) 0),(30,.d (ints cl)),(31,I .i64 cl.length),(32,I .i64 (q.1:Nat))],[(29,mpD q.2),(8,.box [.ref (0,29)]),(6,.box [.d (ints cl)]),(4,.box [.d (.lit z4d),.d (.lit z4d)]),(2,BX F A)],H⟩) (fun q=>q.1≤cl.length∧∀ k,z63 q.2 k=(zcv cl q.1 k).map fun s=>z2w (s:Nat)) (fun q=>cl.length-q.1) ?_ (0,[]) ⟨zAf _,fun k=>rfl⟩) rfl rfl
    rintro⟨q,m⟩ ⟨q1,q2⟩ ih
    simp only at q1 q2 ih ⊢
    by_cases hlt:q<cl.length
    · obtain⟨k,hk⟩:∃ k,cl[q]? =some k:=⟨_,zA0 hlt⟩
      have ih':=ih (q+1,zfv m k (z2w (q:Nat))) ⟨by simp only;omega,fun k'=>by
       simp only
       rw[zhf,zcv,z47 hk]
       by_cases e:k=k'
       · rw[zAz e,zAz e];rfl
       · rw[zAy e,zAy e];exact q2 k'⟩ (by simp only;omega)
      repeat' (first|(apply z07;(first|refine z50 (et:=3) (a:=k) (v:=z2w (q:Nat)) (py:=I .i64 k) (q:=m) (by kernel_rfl) ze1 rfl rfl zdp rfl rfl rfl ?_|refine z0r ?_| (apply z0b;(first|refine z02 z1i rfl rfl ?_| refine z02 z2r rfl rfl ?_))|(apply z0m;(refine z02 (z1b (ys:=cl.map icc) rfl (idx (g:=icc) hk)) rfl rfl ?_))|(apply z0t;(refine z02 (z0u z0x) rfl rfl ?_))))|(apply z08;(first|refine z0p ?_|apply z09))|(apply z05;(first|apply z06|apply z00|apply z04|apply z01|apply z03|refine z0f (fun _=>?_) (fun _=>?_)| refine z0l ?_)))
      all_goals exact zD18
    · obtain rfl:q=cl.length:=by omega
      have he:=hex m q2
      clear ih hex
      cases o2 with
      | some a =>
       exact zD31
      | none =>
       exact zD31
noncomputable def zn5 (a:Au):Au:=(zoe ((z7t a.F a.A).getD ⟨[],[]⟩).F ((z7t a.F a.A).getD ⟨[],[]⟩).A 256).getD ⟨[],[]⟩
theorem zav (a:Au) (hf:zo9 a) (h:vAu a=0) (hA:zci a.F a.A) (hR:zci ((z7t a.F a.A).getD ⟨[],[]⟩).F ((z7t a.F a.A).getD ⟨[],[]⟩).A):z0y Tryz.prog 21 [.d (auD a)] (.tup [.d (auD (zn5 a)),I .i64 0]):=by
 refine z1r fun H=>?_
 have hv:=zap a hf
 have hr:=zk0 a.F a.A hA
 have hm:=zhx _ _ hR 256 (by decide) (by decide)
 rw[zn5]
 rw[h] at hv
 obtain⟨F,A⟩:=a
 simp only at hr hm ⊢
 generalize (z7t F A).getD ⟨[],[]⟩=r at *
 obtain⟨F2,A2⟩:=r
 simp only at hm ⊢
 generalize zoe F2 A2 256=o at *
 cases o with
 | some b =>
  simp only[exR] at hm
  simp only[Option.getD_some]
  exact zD34
 | none =>
  simp only[exR] at hm
  simp only[Option.getD_none]
  exact zD34
theorem y6b {a:Bool × Nat}:∀ β w own v,PR β w own (scP a) v→v=zt3 a:=fun β w own v h=>zhb (xs:=[.bool a.1,.int .u64 (a.2:Nat)]) β w own v h
theorem y6j {a:Int × Int}:∀ β w own v,PR β w own (pcP a) v→v=zeg a:=fun β w own v h=>zhb (xs:=[.int .i64 a.1,.int .i64 a.2]) β w own v h
theorem zaw {l:List Field} {f:Field→Bool × TypeId × Nat} {a b:Bool × TypeId × Nat} (h:l.map f=[a,b]):∃ x y,l=[x,y]∧f x=a∧f y=b:=by
 match l,h with
 | [x,y],h=>simp at h;exact⟨x,y,rfl,h.1,h.2⟩
theorem y27 (w:World) (a b:Int × Int):(Op.equal 138 (zeg a) (zeg b)).run Tryz.prog w=.ok (decide (a=b)) w:=by
 have hf:(Tryz.prog.fieldsOf 138).toList.map (fun f=>(f.name == "_",f.type,f.offset))=[(false,3,0),(false,3,1)]:=by kernel_rfl
 have hu:Tryz.prog.underlying 138=some (.struct (Tryz.prog.fieldsOf 138)):=by kernel_rfl
 have hs:Tryz.prog.stoodInHeld 138=false:=by kernel_rfl
 have hint:Tryz.prog.underlying 3=some (.int .i64):=T3.int rfl
 have ha3:∀ w,(isAgg 3).run Tryz.prog w=.ok false w:=fun w=>T3.isAgg w
 simp only[Op.equal,Op.maxDepth,zeg]
 rw[run_equalIn_struct w 9999 138 _ _ hu hs]
 obtain⟨⟨n1,t1,o1⟩,⟨n2,t2,o2⟩,he,e1,e2⟩:=zaw hf
 rw[he]
 simp only[Prod.mk.injEq,beq_eq_false_iff_ne,ne_eq] at e1 e2
 have hab:decide (a=b)=(decide (a.1=b.1)&&decide (a.2=b.2)):=by
  rw[Bool.eq_iff_iff];simp[Prod.ext_iff]
 simp only[Op.eqFields,e1.1,e2.1,ne_eq,not_false_eq_true,if_true,e1.2.1,e1.2.2,e2.2.1,e2.2.2,part,Sem.run_bind,ha3,Result.andThen_ok,Bool.false_eq_true,if_false,hab]
 by_cases h1:a.1=b.1
 · by_cases h2:a.2=b.2 <;> simp[run_equalIn_int _ _ _ _ _ _ _ hint,h1,h2]
 · simp[run_equalIn_int _ _ _ _ _ _ _ hint,h1]
theorem y4k (w:World) (a b:Bool × Nat):(Op.equal 78 (zt3 a) (zt3 b)).run Tryz.prog w=.ok (decide (a=b)) w:=by
 have hf:(Tryz.prog.fieldsOf 78).toList.map (fun f=>(f.name == "_",f.type,f.offset))=[(false,4,0),(false,76,1)]:=by kernel_rfl
 have hu:Tryz.prog.underlying 78=some (.struct (Tryz.prog.fieldsOf 78)):=by kernel_rfl
 have hs:Tryz.prog.stoodInHeld 78=false:=by kernel_rfl
 have hbo:Tryz.prog.underlying 4=some .bool:=T4.bool rfl
 have hint:Tryz.prog.underlying 76=some (.int .u64):=T76.int rfl
 have ha4:∀ w,(isAgg 4).run Tryz.prog w=.ok false w:=fun w=>T4.isAgg w
 have ha76:∀ w,(isAgg 76).run Tryz.prog w=.ok false w:=fun w=>T76.isAgg w
 simp only[Op.equal,Op.maxDepth,zt3]
 rw[run_equalIn_struct w 9999 78 _ _ hu hs]
 obtain⟨⟨n1,t1,o1⟩,⟨n2,t2,o2⟩,he,e1,e2⟩:=zaw hf
 rw[he]
 simp only[Prod.mk.injEq,beq_eq_false_iff_ne,ne_eq] at e1 e2
 have hab:decide (a=b)=(decide (a.1=b.1)&&decide (a.2=b.2)):=by
  rw[Bool.eq_iff_iff];simp[Prod.ext_iff]
 simp only[Op.eqFields,e1.1,e2.1,ne_eq,not_false_eq_true,if_true,e1.2.1,e1.2.2,e2.2.1,e2.2.2,part,Sem.run_bind,ha4,ha76,Result.andThen_ok,Bool.false_eq_true,if_false,hab]
 by_cases h1:a.1=b.1
 · by_cases h2:a.2=b.2 <;> simp[run_equalIn_int _ _ _ _ _ _ _ hint,Go.run_equalIn_bool' _ _ _ _ _ hbo,h1,h2,Int.ofNat_inj]
 · simp[Go.run_equalIn_bool' _ _ _ _ _ hbo,h1]
theorem zxd {P:Program} {kt t1 t2:TypeId} {u v:Value} {d1 d2:TypeDesc} (hu:P.underlying kt=some (.struct (P.fieldsOf kt))) (hf:(P.fieldsOf kt).toList.map (fun f=>(f.name == "_",f.type,f.offset))=[(false,t1,0),(false,t2,1)])
 (h1:P.underlying t1=some d1) (k1:MapKept.IsKey d1 u) (h2:P.underlying t2=some d2) (k2:MapKept.IsKey d2 v) (a1:∀ w,(isAgg t1).run P w=.ok false w) (a2:∀ w,(isAgg t2).run P w=.ok false w) (w:World) (e:Bool):(Instr.checkKey e 10000 kt (.agg #[u,v])).run P w=.ok () w:=by
 obtain⟨⟨n1,t1',o1'⟩,⟨n2,t2',o2'⟩,he,e1,e2⟩:=zaw hf
 simp only[Prod.mk.injEq,beq_eq_false_iff_ne,ne_eq] at e1 e2
 obtain⟨e11,rfl,rfl⟩:=e1
 obtain⟨e21,rfl,rfl⟩:=e2
 have c1:=fun n=>MapKept.run_checkKey (w:=w) h1 k1 e n
 have c2:=fun n=>MapKept.run_checkKey (w:=w) h2 k2 e n
 rw[Instr.checkKey]
 simp only[Sem.run_bind,run_underlying hu,Result.andThen_ok]
 rw[← Array.forIn_toList,he]
 simp only[List.forIn_cons,List.forIn_nil,Sem.run_bind,e11,e21,ne_eq,not_false_eq_true,if_true,part,a1,a2,Result.andThen_ok,Bool.false_eq_true,if_false]
 simp[part,c1,c2,a1,a2,e21,e11,Result.andThen]
theorem y6d:zgw Tryz.prog 138 zeg:=zgw.of_eq (by rw[show Tryz.prog.underlying 138=some (.struct (Tryz.prog.fieldsOf 138)) by kernel_rfl])
 (fun w e a=>zxd (by kernel_rfl) (by kernel_rfl) (T3.int rfl) (show MapKept.IsKey (.int .i64) (.int .i64 a.1) from rfl) (T3.int rfl) (show MapKept.IsKey (.int .i64) (.int .i64 a.2) from rfl) (fun w=>T3.isAgg w) (fun w=>T3.isAgg w) w e) y27 (fun a=>by simp[zeg,Instr.sameBits])
theorem y6g:zgw Tryz.prog 78 zt3:=zgw.of_eq (by rw[show Tryz.prog.underlying 78=some (.struct (Tryz.prog.fieldsOf 78)) by kernel_rfl])
 (fun w e a=>zxd (by kernel_rfl) (by kernel_rfl) (T4.bool rfl) (show MapKept.IsKey .bool (.bool a.1) from trivial) (T76.int rfl) (show MapKept.IsKey (.int .u64) (.int .u64 (a.2:Nat)) from rfl) (fun w=>T4.isAgg w) (fun w=>T76.isAgg w) w e) y4k (fun a=>by simp[zt3,Instr.sameBits])
end Go.Proofs.YthdfkabdoidjfaaGreatDoor
namespace Go.Proofs.YthdfkabdoidjfaaGreatDoor
open Go.Ab Go.Ax
set_option maxHeartbeats 20000000
set_option maxRecDepth 100000
attribute [local irreducible] Run Ops Op1 z2a Val Tr z0y z1x NF Rel z3i z3g
namespace XP
abbrev xK:Type:=Int × Int
abbrev xC (x:Int × Int):List D:=pcc x
abbrev xP (x:Int × Int):PV:=pcP x
abbrev xE (e:Go.Ax.Edge (Int × Int)):List D:=ped e
abbrev xM (ks:List (Int × Int)):Blk:=.mp ((z3x 0 ks).map fun p=>(zeg p.1,p.2))
abbrev xT:TypeId:=138
abbrev xF:FuncId:=94
abbrev xH:FuncId:=97
abbrev xA:List PV:=[.ptr (1,5) 0,.ptr (1,3) 0,.ptr (1,4) 0]
abbrev xB:List PV:=[.ptr (1,3) 0,.ptr (1,4) 0,.ptr (1,5) 0]
theorem xG:zgw Tryz.prog 138 zeg:=y6d
theorem xW {a:Int × Int}:∀ β w own v,PR β w own (pcP a) v→v=zeg a:=y6j
theorem xN:type_of% @Tryz.func101:=@Tryz.func101
end XP
open XP in
theorem znu (b1 b2 b3:Blk) (ok:Int × Int→Prop) (fin:Int × Int→Bool) (edg:Int × Int→List (Go.Ax.Edge (Int × Int))) (first:Int × Int) (lim:Int) (hl0:1≤lim) (hl1:lim≤2000000) (hok0:ok first)
 (hfin:∀ k,ok k→z1x Tryz.prog 94 [pcP k,.ptr (1,5) 0,.ptr (1,3) 0,.ptr (1,4) 0] [((1,3),b1),((1,4),b2),((1,5),b3)] [] (B (fin k))) (hedg:∀ k,ok k→z1x Tryz.prog 97 [pcP k,.ptr (1,3) 0,.ptr (1,4) 0,.ptr (1,5) 0] [((1,3),b1),((1,4),b2),((1,5),b3)] [] (.d (.slice ((edg k).map ped)))) (hE:∀ k,ok k→edE (edg k)∧∀ e∈edg k,ok e.2.2)
 (H:Hf) (hb1:H 0 3=some b1) (hb2:H 0 4=some b2) (hb3:H 0 5=some b3) :
 Ab.Spec Tryz.prog 101 [pcP first,.fn (.func 94) [] [.ptr (0,5) 0,.ptr (0,3) 0,.ptr (0,4) 0],.fn (.func 97) [] [.ptr (0,3) 0,.ptr (0,4) 0,.ptr (0,5) 0],I .i64 lim] H (fun r H'=>r=.v (exR (exL fin edg lim.toNat (lim.toNat+1) 0 [first] ⟨[],[]⟩))∧H'=H):=by
 have hb:∀ (n:Nat) (tm:List (Nat × PV)) (hp:Hp),BkE ⟨n,tm,hp,H⟩ [((1,3),b1),((1,4),b2),((1,5),b3)]:=fun n tm hp=>by simp[BkE,z4x,push,hb1,hb2,hb3]
 refine z0k Tryz.func101 (by kernel_rfl) rfl (by simp) ?_
 dsimp only[Tryz.f101]
 repeat' (first|(apply z07;(first|refine zaz (by decide) rfl ?_|refine zft (et:=3) (a:=first) (v:=z2w 0) (py:=pcP first) (q:=([]:List ((Int × Int) × D))) (by kernel_rfl) y6d rfl rfl y6j rfl rfl rfl ?_|refine z0r ?_| (apply z0b;(refine z02 z2q rfl rfl ?_))|(apply z0g;(refine z0a z16 ?_))|(apply z1s;(refine z0a z3y ?_))|(apply z2o;(refine zet rfl rfl rfl rfl rfl rfl rfl rfl rfl (by decide) ?_))))|(apply z08;(first|refine z0p ?_|apply z09))|(apply z05;(first|apply z06|apply z00|apply z01)))
 refine z2p 24 1000 ?_
 refine z4m 10 0 1001 4 1 rfl rfl rfl rfl ?_
 refine z4m 10 1 1002 39 1 rfl rfl rfl rfl ?_
 generalize hres:exL fin edg lim.toNat (lim.toNat+1) 0 [first] ⟨[],[]⟩=res
 refine z1f ?_
 refine z0d (z25 (fun q:Nat × List (Int × Int) × Au=>⟨128,[(1,.fn (.func 94) [] [.ptr (1,5) 0,.ptr (1,3) 0,.ptr (1,4) 0]),(2,.fn (.func 97) [] [.ptr (1,3) 0,.ptr (1,4) 0,.ptr (1,5) 0]),(3,I .i64 lim),(8,.ptr (0,8) 0),(10,.ptr (0,10) 0),(11,.ref (0,20)),(12,.ref (0,1000)),(13,I .i64 (q.1:Nat))],[(20,mpP q.2.1),(1000,.row 138 2 (q.2.1.map pcc)),(10,.box [.ref (0,1001),.ref (0,1002)]),(1001,.row 4 1 (q.2.2.F.map boc)),(1002,.row 39 1 (q.2.2.A.map z71)),(8,.box [.d (.lit z4d),.d (.lit z4d)])],H⟩) (fun q=>q.1≤q.2.1.length∧1≤q.2.1.length∧q.2.1.length≤lim.toNat∧q.2.2.F.length=q.1∧q.2.2.A.length=q.1∧(∀ x∈q.2.1,ok x)∧exL fin edg lim.toNat (lim.toNat+1-q.1) q.1 q.2.1 q.2.2=res) (fun q=>lim.toNat+1-q.1) ?_ (0,[first],⟨[],[]⟩) ⟨zAf _,zAj _,by simp only[zAn];omega,rfl,rfl,fun x hx=>by rw[zAq] at hx;rw[hx];exact hok0,hres⟩) rfl rfl
 exact zD1
end Go.Proofs.YthdfkabdoidjfaaGreatDoor
