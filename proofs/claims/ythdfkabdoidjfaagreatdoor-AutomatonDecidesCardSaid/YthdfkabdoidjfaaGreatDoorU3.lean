/- A part of the proof: A13 to A16. -/
import Derived.Test.YthdfkabdoidjfaaGreatDoorUc
import Derived.Test.YthdfkabdoidjfaaGreatDoorU2
import Derived.Test.YthdfkabdoidjfaaGreatDoorU1
set_option linter.all false
namespace Go.Proofs.YthdfkabdoidjfaaGreatDoor
open Go.Ab Go.Ax
set_option maxHeartbeats 20000000
set_option maxRecDepth 100000
attribute [local irreducible] Run Ops Op1 z1d Val Tr z08 z13 NF Rel z2h z2g
theorem zng (b1 b2 b3 b4:Blk) (ok:Int→Prop) (fin:Int→Bool) (edg:Int→List (Go.Ax.Edge (Int))) (first:Int) (lim:Int) (hl0:1≤lim) (hl1:lim≤2000000) (hok0:ok first)
 (hfin:∀ k,ok k→z13 Tryz.prog 79 [I .i64 k,.ptr (1,2) 0,.ptr (1,8) 0] [((1,2),b1),((1,8),b2),((1,6),b3),((1,29),b4)] [] (B (fin k))) (hedg:∀ k,ok k→z13 Tryz.prog 80 [I .i64 k,.ptr (1,2) 0,.ptr (1,8) 0,.ptr (1,6) 0] [((1,2),b1),((1,8),b2),((1,6),b3),((1,29),b4)] [] (.d (z7t (edg k)))) (hE:∀ k,ok k→edE (edg k)∧∀ e∈edg k,ok e.2.2)
 (H:Hf) (hb1:H 0 2=some b1) (hb2:H 0 8=some b2) (hb3:H 0 6=some b3) (hb4:H 0 29=some b4) :
 Ab.Spec Tryz.prog 82 [I .i64 first,.fn (.func 79) [] [.ptr (0,2) 0,.ptr (0,8) 0],.fn (.func 80) [] [.ptr (0,2) 0,.ptr (0,8) 0,.ptr (0,6) 0],I .i64 lim] H (fun r H'=>r=.v (exR (exL fin edg lim.toNat (lim.toNat+1) 0 [first] ⟨[],[]⟩))∧H'=H):=by
 have hb:∀ (n:Nat) (tm:List (Nat × PV)) (hp:Hp),BkE ⟨n,tm,hp,H⟩ [((1,2),b1),((1,8),b2),((1,6),b3),((1,29),b4)]:=fun n tm hp=>by simp[BkE,z3o,push,hb1,hb2,hb3,hb4]
 refine z03 Tryz.func82 (by kernel_rfl) rfl (by simp) ?_
 dsimp only[Tryz.f82]
 repeat' (first|(apply z0y;(first|refine z8m (by decide) rfl ?_|refine zdc (et:=3) (a:=first) (v:=z0u 0) (py:=I .i64 first) (q:=([]:List ((Int) × D))) (by kernel_rfl) z89 rfl rfl z8a rfl rfl rfl ?_))|(apply zfh;(refine zb4 rfl rfl rfl rfl rfl rfl rfl rfl rfl (by decide) ?_))|refine stq ?_|fail)
 refine z18 24 1000 ?_
 refine z2a 10 0 1001 4 1 rfl rfl rfl rfl ?_
 refine z2a 10 1 1002 39 1 rfl rfl rfl rfl ?_
 generalize hres:exL fin edg lim.toNat (lim.toNat+1) 0 [first] ⟨[],[]⟩=res
 refine z0a ?_
 refine z00 (z0p (fun q:Nat × List (Int) × Au=>⟨128,[(1,.fn (.func 79) [] [.ptr (1,2) 0,.ptr (1,8) 0]),(2,.fn (.func 80) [] [.ptr (1,2) 0,.ptr (1,8) 0,.ptr (1,6) 0]),(3,I .i64 lim),(8,.ptr (0,8) 0),(10,.ptr (0,10) 0),(11,.ref (0,20)),(12,.ref (0,1000)),(13,I .i64 (q.1:Nat))],[(20,mpI q.2.1),(1000,.row 3 1 (q.2.1.map icc)),(10,.box [.ref (0,1001),.ref (0,1002)]),(1001,.row 4 1 (q.2.2.F.map boc)),(1002,.row 39 1 (q.2.2.A.map z25)),(8,.box [.d (.lit z2c),.d (.lit z2c)])],H⟩) (fun q=>q.1≤q.2.1.length∧1≤q.2.1.length∧q.2.1.length≤lim.toNat∧q.2.2.F.length=q.1∧q.2.2.A.length=q.1∧(∀ x∈q.2.1,ok x)∧exL fin edg lim.toNat (lim.toNat+1-q.1) q.1 q.2.1 q.2.2=res) (fun q=>lim.toNat+1-q.1) ?_ (0,[first],⟨[],[]⟩) ⟨zAf _,zAj _,by simp only[zAn];omega,rfl,rfl,fun x hx=>by rw[zAq] at hx;rw[hx];exact hok0,hres⟩) rfl rfl
 rintro⟨i,ks,⟨F,A⟩⟩ ⟨i1,i2,i3,i4,i5,i7,i6⟩ ih
 simp only at i1 i2 i3 i4 i5 i6 i7 ih ⊢
 by_cases hlt:i<ks.length
 · obtain⟨k,hk⟩:∃ k,ks[i]? =some k:=⟨_,zA0 hlt⟩
   obtain⟨n,hn⟩:∃ n,lim.toNat+1-i=n+1:=⟨lim.toNat-i,by omega⟩
   rw[hn,exL,hk] at i6
   simp only at i6
   have hok:=i7 k (zA2 hk)
   have hff:=hfin k hok
   have hee:=hedg k hok
   obtain⟨⟨hE1,hE2⟩,hE3⟩:=hE k hok
   generalize edg k=es at *
   generalize fin k=fb at *
   repeat' (first|(apply z1c;(refine z04 (z0x (u:=z0u k) hk) rfl rfl ?_))|(apply z01;(refine z04 (z2n rfl) rfl rfl ?_))|(apply z15;(refine z04 (z8e rfl) rfl rfl ?_))|(apply z06;(refine zwo (first:=[]) (cap:=[.ptr (1,2) 0,.ptr (1,8) 0,.ptr (1,6) 0]) (ps:=[I .i64 k]) hee rfl rfl (hb _ _ _) (by decide) ?_))|refine stq ?_|refine fk (fun _=>?_) (fun _=>?_))
   all_goals try (exfalso;simp only[zA4] at *;omega)
   refine z1m 14 1003 38 3 rfl rfl rfl ?_
   refine z0a ?_
   refine z00 (z0p (fun q:Nat × List (Int) × List Arc=>⟨128,[(1,.fn (.func 79) [] [.ptr (1,2) 0,.ptr (1,8) 0]),(2,.fn (.func 80) [] [.ptr (1,2) 0,.ptr (1,8) 0,.ptr (1,6) 0]),(3,I .i64 lim),(8,.ptr (0,8) 0),(10,.ptr (0,10) 0),(11,.ref (0,20)),(12,.ref (0,1000)),(13,I .i64 (i:Nat)),(14,.ref (0,1003)),(36,.d (.slice (es.map z1k))),(37,I .i64 es.length),(38,I .i64 (q.1:Nat))],[(20,mpI q.2.1),(1000,.row 3 1 (q.2.1.map icc)),(1003,.row 38 3 (q.2.2.map z1k)),(10,.box [.ref (0,1001),.ref (0,1002)]),(1001,.row 4 1 (F.map boc)),(1002,.row 39 1 (A.map z25)),(8,.box [.d (.lit z2c),.d (.lit z2c)])],H⟩) (fun q=>q.1≤es.length∧q.2.2.length≤q.1∧q.2.1.length≤ks.length+q.1∧q.2.1[i]? =some k∧(∀ y∈q.2.2,0≤y.2.1∧y.2.1≤1114111)∧(∀ x∈q.2.1,ok x)∧(es.drop q.1).foldl z4n q.2=es.foldl z4n (ks,[])) (fun q=>es.length-q.1) ?_ (0,ks,[]) ⟨zAf _,zAj _,zAj _,hk,by simp,i7,rfl⟩) rfl rfl
   rintro⟨j,ks2,arcs⟩ ⟨j1,j2,j3,j4,j5,j7,j6⟩ ihj
   simp only at j1 j2 j3 j4 j5 j6 j7 ihj ⊢
   by_cases hjl:j<es.length
   · exact zD2
   · obtain rfl:j=es.length:=by omega
     rw[zAs,List.foldl_nil] at j6
     rw[← j6] at i6
     simp only at i6
     have hi2:=(zA1.1 j4).1
     refine z0o 1003 rfl ?_
     by_cases hlim:lim.toNat<ks2.length
     · rw[zAz hlim] at i6
       rw[← i6]
       all_goals exact zD24
     · rw[zAy hlim] at i6
       have ih':=ih (i+1,ks2,⟨F++[fb],A++[arcs]⟩) ⟨by simp only;omega,by simp only;omega,by simp only;omega,by simp[i4],by simp[i5],j7,by rw[← i6];simp only;rw[show lim.toNat+1-(i+1)=n by omega]⟩ (by simp only;omega)
       simp only at ih'
       repeat' (first|(apply z0b;(refine z09 (z0x (u:=z0u k) j4) rfl rfl ?_))|(apply z02;(refine z09 (z10 rfl (by simp only[zA4];omega)) rfl rfl ?_))|(apply z15;(first|refine z04 (z0s rfl) rfl rfl ?_| refine z48 (g:=z25) arcs rfl ?_))|(apply z43;(refine z55 (g:=boc) (by first|exact rfl|exact⟨_,rfl,rfl,rfl⟩) rfl rfl fb rfl rfl rfl rfl rfl rfl rfl (by decide) (by omega) ?_))|(apply z0l;(refine zui (first:=[]) (cap:=[.ptr (1,2) 0,.ptr (1,8) 0]) (ps:=[I .i64 k]) hff (by first|exact rfl|exact⟨_,rfl,rfl,rfl⟩) rfl rfl (hb _ _ _) (by decide) ?_))|(apply z14;(refine z7x (by first|exact rfl|exact⟨_,rfl,rfl,rfl⟩) rfl rfl rfl rfl rfl ?_))|refine stq ?_|refine fk (fun _=>?_) (fun _=>?_))
       all_goals exact zD105
 · exact zD67
structure zbn (F:List Bool) (A:List (List Arc)):Prop where
 len:A.length=F.length
 arc:∀ l∈A,okA none l∧l.length≤2000000∧∀ x∈l,0≤x.1∧x.1≤x.2.1∧x.2.1≤1114111∧0≤x.2.2∧x.2.2<F.length
 few:F.length≤2000000
 pos:0<F.length
 tot:(A.map List.length).sum≤1000000000
theorem zto (F:List Bool) (A:List (List Arc)) (k:Int) (h0:0≤k) (h1:k<F.length):z13 Tryz.prog 83 [I .i64 k,.ptr (1,1) 0] [((1,1),BX F A)] [] (B ((⟨F,A⟩:Au).fin k)):=by
 refine z1e fun H hH=>?_
 have hX:H 1 1=some (BX F A):=hH ((1,1),BX F A) (by simp)
 obtain⟨k,rfl⟩:∃ q:Nat,k=q:=⟨k.toNat,by omega⟩
 obtain⟨b,hb⟩:∃ b,F[k]? =some b:=⟨_,zA0 (by omega)⟩
 have hf:(⟨F,A⟩:Au).fin (k:Nat)=b:=by rw[Au.fin,zAy (by omega),zA9,List.getD,hb];rfl
 rw[hf]
 refine z03 Tryz.func83 (by kernel_rfl) rfl (by simp) ?_
 dsimp only[Tryz.f83]
 repeat' (first|(apply z1c;(refine z2m rfl hX rfl rfl rfl rfl (by decide) ?_))|(apply z01;(refine z04 (z0k (ys:=F.map boc) rfl (idx (g:=boc) hb)) rfl rfl ?_))|refine stq ?_|fail)
 all_goals try (exfalso;omega)
 all_goals exact z05 Tryz.func83 _ z0e ⟨rfl,rfl⟩
theorem zun (F:List Bool) (A:List (List Arc)) (hA:zbn F A) (k:Int) (h0:0≤k) (h1:k<F.length):z13 Tryz.prog 84 [I .i64 k,.ptr (1,1) 0] [((1,1),BX F A)] [] (.d (z7t ((⟨F,A⟩:Au).arcs k))):=by
 refine z1e fun H hH=>?_
 have hX:H 1 1=some (BX F A):=hH ((1,1),BX F A) (by simp)
 obtain⟨k,rfl⟩:∃ q:Nat,k=q:=⟨k.toNat,by omega⟩
 obtain⟨l,hl⟩:∃ l,A[k]? =some l:=⟨_,zA0 (by rw[hA.len];omega)⟩
 have hf:(⟨F,A⟩:Au).arcs (k:Nat)=l:=by rw[Au.arcs,zAy (by omega),zA9,List.getD,hl];rfl
 have hp:=y08 l (hA.arc l (zA2 hl)).2.1
 rw[hf]
 refine z03 Tryz.func84 (by kernel_rfl) rfl (by simp) ?_
 dsimp only[Tryz.f84]
 repeat' (first|(apply z1c;(refine z2m rfl hX rfl rfl rfl rfl (by decide) ?_))|(apply z01;(refine z04 (z0k (ys:=A.map z25) rfl (idx hl)) rfl rfl ?_))|(apply z06;(refine z1i hp ?_))|refine stq ?_|fail)
 all_goals try (exfalso;omega)
 all_goals exact z05 Tryz.func84 _ z0e ⟨rfl,rfl⟩
theorem zvn {F:List Bool} {A:List (List Arc)} (hA:zbn F A) (k:Int) (h0:0≤k) (h1:k<F.length):edE ((⟨F,A⟩:Au).arcs k)∧∀ e∈(⟨F,A⟩:Au).arcs k,0≤e.2.2∧e.2.2<F.length:=by
 obtain⟨k,rfl⟩:∃ q:Nat,k=q:=⟨k.toNat,by omega⟩
 obtain⟨l,hl⟩:∃ l,A[k]? =some l:=⟨_,zA0 (by rw[hA.len];omega)⟩
 have hf:(⟨F,A⟩:Au).arcs (k:Nat)=l:=by rw[Au.arcs,zAy (by omega),zA9,List.getD,hl];rfl
 rw[hf]
 obtain⟨h1,h2,h3⟩:=hA.arc l (zA2 hl)
 exact⟨⟨h2,fun e he=>by have:=h3 e he;omega⟩,fun e he=>by have:=h3 e he;omega⟩
def z6i (F:List Bool) (A:List (List Arc)):Option Au:=exL (⟨F,A⟩:Au).fin (⟨F,A⟩:Au).arcs F.length (F.length+1) 0 [0] ⟨[],[]⟩
theorem zjm (F:List Bool) (A:List (List Arc)) (hA:zbn F A):z08 Tryz.prog 45 [.d (auD ⟨F,A⟩)] (.d (auD ((z6i F A).getD ⟨[],[]⟩))):=by
 refine z0g fun H=>?_
 have hpos:=hA.pos
 have hfew:=hA.few
 have hex:z13 Tryz.prog 82 [I .i64 0,.fn (.func 83) [] [.ptr (0,1) 0],.fn (.func 84) [] [.ptr (0,1) 0],I .i64 F.length] [((0,1),BX F A)] [] (exR (z6i F A)):=z1e fun H hH=>by
  have:=zo0 (BX F A) (fun k=>0≤k∧k<F.length) (⟨F,A⟩:Au).fin (⟨F,A⟩:Au).arcs 0 F.length (by omega) (by omega) ⟨by omega,by omega⟩ (fun k hk=>zto F A k hk.1 hk.2) (fun k hk=>zun F A hA k hk.1 hk.2) (fun k hk=>zvn hA k hk.1 hk.2) H (hH ((0,1),BX F A) (by simp))
  rw[zA9] at this
  exact this
 generalize z6i F A=o at *
 cases o with
 | some a =>
  simp only[exR,Option.getD_some] at hex ⊢
  exact zD60
 | none =>
  simp only[exR,Option.getD_none] at hex ⊢
  exact zD60
theorem zh4 {α:Type} [DecidableEq α] (a b:α) (v:D):∀ q:List (α × D),z4d (zf2 q a v) b=if a=b then some v else z4d q b
 | []=>by simp[zf2,z4d]
 | (c,u)::r=>by
  rw[zf2]
  by_cases h:c=a
  · rw[zAz h,z4d,z4d]
    by_cases h2:a=b
    · rw[zAz h2,zAz h2]
    · rw[zAy h2,zAy h2,zAy (by rw[h];exact h2)]
  · rw[zAy h,z4d,z4d,zh4 a b v r]
    by_cases h2:c=b
    · rw[zAz h2,zAz h2,zAy (fun e=>h (by rw[h2,e]))]
    · rw[zAy h2,zAy h2]
def zc8 (cl:List Int):Nat→Int→Option Nat
 | 0,_=>none
 | j+1,k=>if cl.getD j 0=k then some j else zc8 cl j k
theorem z4p {cl:List Int} {k:Int}:∀ {j s:Nat},zc8 cl j k=some s→s<j∧cl.getD s 0=k
 | 0,s,h=>by simp[zc8] at h
 | j+1,s,h=>by
  rw[zc8] at h
  split at h
  · simp at h;subst h;exact⟨by omega,by assumption⟩
  · have:=z4p h;exact⟨by omega,this.2⟩
theorem z7r {cl:List Int} {k:Int}:∀ {j s:Nat},s<j→cl.getD s 0=k→∃ r,zc8 cl j k=some r
 | 0,s,h,_=>by omega
 | j+1,s,h,h2=>by
  rw[zc8]
  by_cases hj:cl.getD j 0=k
  · exact⟨j,by rw[zAz hj]⟩
  · rw[zAy hj]
    have:s≠j:=by rintro rfl;exact hj h2
    exact z7r (by omega) h2
def stQ (cl:List Int) (k:Int):Nat:=(zc8 cl cl.length k).getD 0
abbrev mpD (m:List (Int × D)):Blk:=.mp (m.map fun p=>(Value.int .i64 p.1,p.2))
section
variable (F:List Bool) (A:List (List Arc)) (cl:List Int) (m:List (Int × D)) (hA:zbn F A) (hcl:cl.length=F.length) (hm:∀ k,z4d m k=(zc8 cl cl.length k).map fun s=>z0u (s:Nat))
abbrev bsM:List (Nm × Blk):=[((1,2),BX F A),((1,8),.box [.ref (0,29)]),((1,6),.box [.d (ints cl)]),((1,29),mpD m)]
include hcl hm in
theorem y0s (k:Int) (hk:∃ q,q<F.length∧cl.getD q 0=k):z13 Tryz.prog 79 [I .i64 k,.ptr (1,2) 0,.ptr (1,8) 0] (bsM F A cl m) [] (B ((⟨F,A⟩:Au).fin (stQ cl k:Nat))):=by
 refine z1e fun H hH=>?_
 have h2:H 1 2=some (BX F A):=hH ((1,2),BX F A) (by simp)
 have h8:H 1 8=some (.box [.ref (0,29)]):=hH ((1,8),.box [.ref (0,29)]) (by simp)
 have h29:H 1 29=some (mpD m):=hH ((1,29),mpD m) (by simp)
 obtain⟨q,hq,hqk⟩:=hk
 obtain⟨r,hr⟩:=z7r (cl:=cl) (j:=cl.length) (s:=q) (by omega) hqk
 have hst:stQ cl k=r:=by rw[stQ,hr];rfl
 have hrl:=(z4p hr).1
 have hmk:(z4d m k).getD (.lit (.int .i64 0))=z0u (r:Nat):=by rw[hm,hr];rfl
 obtain⟨b,hb⟩:∃ b,F[r]? =some b:=⟨_,zA0 (by omega)⟩
 have hf:(⟨F,A⟩:Au).fin (r:Nat)=b:=by rw[Au.fin,zAy (by omega),zA9,List.getD,hb];rfl
 rw[hst,hf]
 refine z03 Tryz.func79 (by kernel_rfl) rfl (by simp) ?_
 dsimp only[Tryz.f79]
 repeat' (first|(apply z0y;(refine z07 (zpn (et:=3) (a:=k) (q:=m) (z0:=Value.int .i64 0) (py:=I .i64 k) (m0:=(2,29)) (by kernel_rfl) z89 (z1l (by kernel_rfl)) rfl rfl rfl z8a h29 hmk (by decide)) ?_))|(apply z1c;(first|refine z2m rfl h8 rfl rfl rfl rfl (by decide) ?_|refine z2m rfl h2 rfl rfl rfl rfl (by decide) ?_))|(apply z01;(refine z04 (z0k (ys:=F.map boc) rfl (idx (g:=boc) hb)) rfl rfl ?_))|refine stq ?_|fail)
 all_goals try (exfalso;omega)
 all_goals exact z05 Tryz.func79 _ z0e ⟨rfl,rfl⟩
include hA hcl hm in
theorem y2i (k:Int) (hk:∃ q,q<F.length∧cl.getD q 0=k):z13 Tryz.prog 80 [I .i64 k,.ptr (1,2) 0,.ptr (1,8) 0,.ptr (1,6) 0] (bsM F A cl m) [] (.d (z7t (byC cl ((⟨F,A⟩:Au).arcs (stQ cl k:Nat))))):=by
 refine z1e fun H hH=>?_
 have h2:H 1 2=some (BX F A):=hH ((1,2),BX F A) (by simp)
 have h8:H 1 8=some (.box [.ref (0,29)]):=hH ((1,8),.box [.ref (0,29)]) (by simp)
 have h6:H 1 6=some (.box [.d (ints cl)]):=hH ((1,6),.box [.d (ints cl)]) (by simp)
 have h29:H 1 29=some (mpD m):=hH ((1,29),mpD m) (by simp)
 obtain⟨q,hq,hqk⟩:=hk
 obtain⟨r,hr⟩:=z7r (cl:=cl) (j:=cl.length) (s:=q) (by omega) hqk
 have hst:stQ cl k=r:=by rw[stQ,hr];rfl
 have hrl:=(z4p hr).1
 have hmk:(z4d m k).getD (.lit (.int .i64 0))=z0u (r:Nat):=by rw[hm,hr];rfl
 obtain⟨l,hl⟩:∃ l,A[r]? =some l:=⟨_,zA0 (by rw[hA.len];omega)⟩
 have hf:(⟨F,A⟩:Au).arcs (r:Nat)=l:=by rw[Au.arcs,zAy (by omega),zA9,List.getD,hl];rfl
 obtain⟨l0,l1,l2⟩:=hA.arc l (zA2 hl)
 have hby:=zgr l cl l1 (fun x hx=>by have:=l2 x hx;omega)
 rw[hst,hf]
 refine z03 Tryz.func80 (by kernel_rfl) rfl (by simp) ?_
 dsimp only[Tryz.f80]
 repeat' (first|(apply y2s;(refine z09 (y05 (et:=3) (a:=k) (q:=m) (z0:=Value.int .i64 0) (py:=I .i64 k) (m0:=(2,29)) (by kernel_rfl) z89 (z1l (by kernel_rfl)) rfl z8a hmk) rfl (bk1 h29) ?_))|(apply z0b;(first|refine z9u (by first|exact rfl|exact⟨_,rfl,rfl,rfl⟩) rfl h6 rfl rfl rfl rfl (by decide) ?_|refine z9u (by first|exact rfl|exact⟨_,rfl,rfl,rfl⟩) rfl h8 rfl rfl rfl rfl (by decide) ?_|refine z9u (by first|exact rfl|exact⟨_,rfl,rfl,rfl⟩) rfl h2 rfl rfl rfl rfl (by decide) ?_))|(apply z02;(refine z09 (z0k (ys:=A.map z25) rfl (idx hl)) rfl rfl ?_))|(apply z0l;(refine z36 hby ?_))|refine stq ?_|fail)
 all_goals try (exfalso;omega)
 all_goals exact z05 Tryz.func80 _ z0e ⟨rfl,rfl⟩
end
def y4u (F:List Bool) (A:List (List Arc)) (cl:List Int) (lim:Nat):Option Au:=exL (fun k=>(⟨F,A⟩:Au).fin (stQ cl k:Nat)) (fun k=>byC cl ((⟨F,A⟩:Au).arcs (stQ cl k:Nat))) lim (lim+1) 0 [cl.getD 0 0] ⟨[],[]⟩
noncomputable def zog (F:List Bool) (A:List (List Arc)) (lim:Nat):Option Au:=match zx8 F A lim with
 | none=>none
 | some cl=>if cl.getD 0 0<0 then some ⟨[false],[[]]⟩ else y4u F A cl lim
theorem zxk {A:List (List Arc)} {n lim:Nat} (hn:n≤4000000) (hA:∀ l∈A,∀ x∈l,0≤x.1∧x.1≤x.2.1∧x.2.1≤1114111):∀ {f c:Nat} {cl r:List Int},ClW n c cl→zj0 A lim f c cl=some r→∃ c',ClW n c' r
 | 0,c,cl,r,_,h=>by rw[zj0] at h;cases h
 | f+1,c,cl,r,hW,h=>by
  rw[zj0] at h
  obtain⟨_,hW2⟩:=zov hn hW hA
  split at h
  · cases h
  split at h
  · simp at h;subst h;exact⟨_,hW2⟩
  · exact zxk hn hA hW2 h
theorem zhi (F:List Bool) (A:List (List Arc)) (hA:zbn F A) (lim:Nat) (h1:1≤lim) (h2:lim≤2000000):z08 Tryz.prog 44 [.d (auD ⟨F,A⟩),I .i64 lim] (exR (zog F A lim)):=by
 refine z0g fun H=>?_
 have hfew:=hA.few
 have hpos:=hA.pos
 have hcs:=zr0 F A lim (by omega) hA.len (fun l hl=>⟨(hA.arc l hl).2.1,(hA.arc l hl).2.2⟩) (by omega) hA.tot
 rw[zA9] at hcs
 have hA1:∀ l∈A,∀ x∈l,0≤x.1∧x.1≤x.2.1∧x.2.1≤1114111:=fun l hl x hx=>by have:=(hA.arc l hl).2.2 x hx;omega
 have hWcl:∀ cl,zx8 F A lim=some cl→∃ c',ClW F.length c' cl:=fun cl h=>zxk (by omega) hA1 (zri F A) h
 rw[zog]
 generalize zx8 F A lim=o at *
 cases o with
 | none =>
  simp only[y7e] at hcs
  simp only[exR]
  refine z03 Tryz.func44 (by kernel_rfl) rfl (by simp) ?_
  dsimp only[Tryz.f44]
  repeat' (first|(apply z06;(refine z1i hcs ?_))|(apply z0w;(refine z07 z2b ?_))|refine stq ?_|fail)
  all_goals exact z05 Tryz.func44 _ (z0i rfl rfl rfl rfl rfl rfl rfl) ⟨rfl,rfl⟩
 | some cl =>
  obtain⟨c',hW⟩:=hWcl cl rfl
  simp only[y7e] at hcs
  simp only
  have hcl:=hW.len
  obtain⟨k0,hk0⟩:∃ k,cl[0]? =some k:=⟨_,zA0 (by omega)⟩
  have hk0i:cl[(0:Int).toNat]? =some k0:=hk0
  rw[z1n hk0]
  by_cases hneg:k0<0
  · rw[zAz hneg]
    simp only[exR]
    refine z03 Tryz.func44 (by kernel_rfl) rfl (by simp) ?_
    dsimp only[Tryz.f44]
    repeat' (first|(apply z01;(refine z04 (z0k (ys:=cl.map icc) rfl (z4k (g:=icc) hk0i)) rfl rfl ?_))|(apply z06;(refine z1i hcs ?_))|(apply z0w;(refine z07 z2b ?_))|(apply zb6;((refine zaw (xs:=[[.slice []]]) rfl rfl (by decide) (by decide) rfl rfl rfl (by decide) (by rfl) ?_;refine zbi 27 rfl ?_)))|refine stq ?_|refine fk (fun _=>?_) (fun _=>?_))
    all_goals try (exfalso;omega)
    all_goals exact z05 Tryz.func44 _ (z0i rfl rfl rfl rfl rfl rfl rfl) ⟨rfl,rfl⟩
  · rw[zAy hneg]
    have hex:∀ m:List (Int × D),(∀ k,z4d m k=(zc8 cl cl.length k).map fun s=>z0u (s:Nat))→z13 Tryz.prog 82 [I .i64 k0,.fn (.func 79) [] [.ptr (0,2) 0,.ptr (0,8) 0],.fn (.func 80) [] [.ptr (0,2) 0,.ptr (0,8) 0,.ptr (0,6) 0],I .i64 lim] [((0,2),BX F A),((0,8),.box [.ref (0,29)]),((0,6),.box [.d (ints cl)]),((0,29),mpD m)] [] (exR (y4u F A cl lim)):=fun m hm=>z1e fun H hH=>by
     have hrng:∀ k,(∃ q,q<F.length∧cl.getD q 0=k∧0≤k)→edE (byC cl ((⟨F,A⟩:Au).arcs (stQ cl k:Nat)))∧∀ e∈byC cl ((⟨F,A⟩:Au).arcs (stQ cl k:Nat)),∃ q,q<F.length∧cl.getD q 0=e.2.2∧0≤e.2.2:=fun k hk=>by
      obtain⟨q,hq,hqk,hk0⟩:=hk
      obtain⟨r,hr⟩:=z7r (cl:=cl) (j:=cl.length) (s:=q) (by omega) hqk
      have hst:stQ cl k=r:=by rw[stQ,hr];rfl
      have hrl:=(z4p hr).1
      obtain⟨l,hl⟩:∃ l,A[r]? =some l:=⟨_,zA0 (by rw[hA.len];omega)⟩
      have hf:(⟨F,A⟩:Au).arcs (r:Nat)=l:=by rw[Au.arcs,zAy (by omega),zA9,List.getD,hl];rfl
      rw[hst,hf]
      obtain⟨l0,l1,l2⟩:=hA.arc l (zA2 hl)
      obtain⟨b1,b2⟩:=zap (fun q=>(za8 hW.rng q).1) l0
      have bl:=zpo (cl:=cl) (l:=l)
      have bm:=zfl (B:=4000000) (fun q=>(za8 hW.rng q).2) (hA1 l (zA2 hl))
      have hoa:=zt6 b1
      refine⟨⟨by omega,fun e he=>⟨(bm e he).1,hoa e he,(bm e he).2.2.2.1⟩⟩,fun e he=>?_⟩
      have hee:=zjp b1 he
      rw[b2] at hee
      have h0:=(bm e he).2.2.2.2.1
      rw[clA] at hee
      split at hee
      · omega
      · rename_i hnn
        obtain⟨y,hy,hy2⟩:=zhd (l:=l) (c:=e.1) (by omega)
        have hyr:=l2 y hy
        exact⟨(nxt l e.1).toNat,by omega,hee,h0⟩
     have:=zng (BX F A) (.box [.ref (0,29)]) (.box [.d (ints cl)]) (mpD m) (fun k=>∃ q,q<F.length∧cl.getD q 0=k∧0≤k) (fun k=>(⟨F,A⟩:Au).fin (stQ cl k:Nat)) (fun k=>byC cl ((⟨F,A⟩:Au).arcs (stQ cl k:Nat))) k0 lim (by omega) (by omega) ⟨0,hpos,z1n hk0,by omega⟩ (fun k hk=>y0s F A cl m hcl hm k (by obtain⟨q,a,b,_⟩:=hk;exact⟨q,a,b⟩)) (fun k hk=>y2i F A cl m hA hcl hm k (by obtain⟨q,a,b,_⟩:=hk;exact⟨q,a,b⟩)) hrng H (hH ((0,2),BX F A) (by simp)) (hH ((0,8),.box [.ref (0,29)]) (by simp)) (hH ((0,6),.box [.d (ints cl)]) (by simp)) (hH ((0,29),mpD m) (by simp))
     rw[zA9] at this
     rw[y4u,z1n hk0]
     exact this
    generalize y4u F A cl lim=o2 at *
    refine z03 Tryz.func44 (by kernel_rfl) rfl (by simp) ?_
    dsimp only[Tryz.f44]
    repeat' (first|(apply z0y;(refine z8m (by decide) rfl ?_))|(apply z01;(refine z04 (z0k (ys:=cl.map icc) rfl (z4k (g:=icc) hk0i)) rfl rfl ?_))|(apply z06;(refine z1i hcs ?_))|(apply z0w;(refine z07 z2b ?_))|refine stq ?_|refine fk (fun _=>?_) (fun _=>?_))
    all_goals try (exfalso;omega)
    refine z0a ?_
    refine z00 (z0p (fun q:Nat × List (Int × D)=>⟨52,[(1,I .i64 lim),(2,.ptr (0,2) 0),(4,.ptr (0,4) 0),(6,.ptr (0,6) 0),(8,.ptr (0,8) 0),(30,.d (ints cl)),(31,I .i64 cl.length),(32,I .i64 (q.1:Nat))],[(29,mpD q.2),(8,.box [.ref (0,29)]),(6,.box [.d (ints cl)]),(4,.box [.d (.lit z2c),.d (.lit z2c)]),(2,BX F A)],H⟩) (fun q=>q.1≤cl.length∧∀ k,z4d q.2 k=(zc8 cl q.1 k).map fun s=>z0u (s:Nat)) (fun q=>cl.length-q.1) ?_ (0,[]) ⟨zAf _,fun k=>rfl⟩) rfl rfl
    rintro⟨q,m⟩ ⟨q1,q2⟩ ih
    simp only at q1 q2 ih ⊢
    by_cases hlt:q<cl.length
    · obtain⟨k,hk⟩:∃ k,cl[q]? =some k:=⟨_,zA0 hlt⟩
      have ih':=ih (q+1,zf2 m k (z0u (q:Nat))) ⟨by simp only;omega,fun k'=>by
       simp only
       rw[zh4,zc8,z1n hk]
       by_cases e:k=k'
       · rw[zAz e,zAz e];rfl
       · rw[zAy e,zAy e];exact q2 k'⟩ (by simp only;omega)
      repeat' (first|(apply z0y;(refine z3b (et:=3) (a:=k) (v:=z0u (q:Nat)) (py:=I .i64 k) (q:=m) (by kernel_rfl) z89 rfl rfl z8a rfl rfl rfl ?_))|(apply z01;(refine z04 (z0k (ys:=cl.map icc) rfl (idx (g:=icc) hk)) rfl rfl ?_))|refine stq ?_|refine fk (fun _=>?_) (fun _=>?_))
      all_goals exact zD8
    · obtain rfl:q=cl.length:=by omega
      have he:=hex m q2
      clear ih hex
      cases o2 with
      | some a =>
       exact zD44
      | none =>
       exact zD44
noncomputable def zml (a:Au):Au:=(zog ((z6i a.F a.A).getD ⟨[],[]⟩).F ((z6i a.F a.A).getD ⟨[],[]⟩).A 256).getD ⟨[],[]⟩
theorem zn6 (a:Au) (hf:z57 a) (h:vAu a=0) (hA:zbn a.F a.A) (hR:zbn ((z6i a.F a.A).getD ⟨[],[]⟩).F ((z6i a.F a.A).getD ⟨[],[]⟩).A):z08 Tryz.prog 21 [.d (auD a)] (.tup [.d (auD (zml a)),I .i64 0]):=by
 refine z0g fun H=>?_
 have hv:=z4c a hf
 have hr:=zjm a.F a.A hA
 have hm:=zhi _ _ hR 256 (by decide) (by decide)
 rw[zml]
 rw[h] at hv
 obtain⟨F,A⟩:=a
 simp only at hr hm ⊢
 generalize (z6i F A).getD ⟨[],[]⟩=r at *
 obtain⟨F2,A2⟩:=r
 simp only at hm ⊢
 generalize zog F2 A2 256=o at *
 cases o with
 | some b =>
  simp only[exR] at hm
  simp only[Option.getD_some]
  exact zD53
 | none =>
  simp only[exR] at hm
  simp only[Option.getD_none]
  exact zD53
theorem y8t {a:Bool × Nat}:∀ β w own v,PR β w own (scP a) v→v=zta a:=fun β w own v h=>zhh (xs:=[.bool a.1,.int .u64 (a.2:Nat)]) β w own v h
theorem y8z {a:Int × Int}:∀ β w own v,PR β w own (pcP a) v→v=zdi a:=fun β w own v h=>zhh (xs:=[.int .i64 a.1,.int .i64 a.2]) β w own v h
theorem zag {l:List Field} {f:Field→Bool × TypeId × Nat} {a b:Bool × TypeId × Nat} (h:l.map f=[a,b]):∃ x y,l=[x,y]∧f x=a∧f y=b:=by
 match l,h with
 | [x,y],h=>simp at h;exact⟨x,y,rfl,h.1,h.2⟩
theorem y4w (w:World) (a b:Int × Int):(Op.equal 138 (zdi a) (zdi b)).run Tryz.prog w=.ok (decide (a=b)) w:=by
 have hf:(Tryz.prog.fieldsOf 138).toList.map (fun f=>(f.name == "_",f.type,f.offset))=[(false,3,0),(false,3,1)]:=by kernel_rfl
 have hu:Tryz.prog.underlying 138=some (.struct (Tryz.prog.fieldsOf 138)):=by kernel_rfl
 have hs:Tryz.prog.stoodInHeld 138=false:=by kernel_rfl
 have hint:Tryz.prog.underlying 3=some (.int .i64):=T3.int rfl
 have ha3:∀ w,(isAgg 3).run Tryz.prog w=.ok false w:=fun w=>T3.isAgg w
 simp only[Op.equal,Op.maxDepth,zdi]
 rw[run_equalIn_struct w 9999 138 _ _ hu hs]
 obtain⟨⟨n1,t1,o1⟩,⟨n2,t2,o2⟩,he,e1,e2⟩:=zag hf
 rw[he]
 simp only[Prod.mk.injEq,beq_eq_false_iff_ne,ne_eq] at e1 e2
 have hab:decide (a=b)=(decide (a.1=b.1)&&decide (a.2=b.2)):=by
  rw[Bool.eq_iff_iff];simp[Prod.ext_iff]
 simp only[Op.eqFields,e1.1,e2.1,ne_eq,not_false_eq_true,if_true,e1.2.1,e1.2.2,e2.2.1,e2.2.2,part,Sem.run_bind,ha3,Result.andThen_ok,Bool.false_eq_true,if_false,hab]
 by_cases h1:a.1=b.1
 · by_cases h2:a.2=b.2 <;> simp[run_equalIn_int _ _ _ _ _ _ _ hint,h1,h2]
 · simp[run_equalIn_int _ _ _ _ _ _ _ hint,h1]
theorem y8e (w:World) (a b:Bool × Nat):(Op.equal 78 (zta a) (zta b)).run Tryz.prog w=.ok (decide (a=b)) w:=by
 have hf:(Tryz.prog.fieldsOf 78).toList.map (fun f=>(f.name == "_",f.type,f.offset))=[(false,4,0),(false,76,1)]:=by kernel_rfl
 have hu:Tryz.prog.underlying 78=some (.struct (Tryz.prog.fieldsOf 78)):=by kernel_rfl
 have hs:Tryz.prog.stoodInHeld 78=false:=by kernel_rfl
 have hbo:Tryz.prog.underlying 4=some .bool:=T4.bool rfl
 have hint:Tryz.prog.underlying 76=some (.int .u64):=T76.int rfl
 have ha4:∀ w,(isAgg 4).run Tryz.prog w=.ok false w:=fun w=>T4.isAgg w
 have ha76:∀ w,(isAgg 76).run Tryz.prog w=.ok false w:=fun w=>T76.isAgg w
 simp only[Op.equal,Op.maxDepth,zta]
 rw[run_equalIn_struct w 9999 78 _ _ hu hs]
 obtain⟨⟨n1,t1,o1⟩,⟨n2,t2,o2⟩,he,e1,e2⟩:=zag hf
 rw[he]
 simp only[Prod.mk.injEq,beq_eq_false_iff_ne,ne_eq] at e1 e2
 have hab:decide (a=b)=(decide (a.1=b.1)&&decide (a.2=b.2)):=by
  rw[Bool.eq_iff_iff];simp[Prod.ext_iff]
 simp only[Op.eqFields,e1.1,e2.1,ne_eq,not_false_eq_true,if_true,e1.2.1,e1.2.2,e2.2.1,e2.2.2,part,Sem.run_bind,ha4,ha76,Result.andThen_ok,Bool.false_eq_true,if_false,hab]
 by_cases h1:a.1=b.1
 · by_cases h2:a.2=b.2 <;> simp[run_equalIn_int _ _ _ _ _ _ _ hint,Go.run_equalIn_bool' _ _ _ _ _ hbo,h1,h2,Int.ofNat_inj]
 · simp[Go.run_equalIn_bool' _ _ _ _ _ hbo,h1]
theorem zxe {P:Program} {kt t1 t2:TypeId} {u v:Value} {d1 d2:TypeDesc} (hu:P.underlying kt=some (.struct (P.fieldsOf kt))) (hf:(P.fieldsOf kt).toList.map (fun f=>(f.name == "_",f.type,f.offset))=[(false,t1,0),(false,t2,1)])
 (h1:P.underlying t1=some d1) (k1:MapKept.IsKey d1 u) (h2:P.underlying t2=some d2) (k2:MapKept.IsKey d2 v) (a1:∀ w,(isAgg t1).run P w=.ok false w) (a2:∀ w,(isAgg t2).run P w=.ok false w) (w:World) (e:Bool):(Instr.checkKey e 10000 kt (.agg #[u,v])).run P w=.ok () w:=by
 obtain⟨⟨n1,t1',o1'⟩,⟨n2,t2',o2'⟩,he,e1,e2⟩:=zag hf
 simp only[Prod.mk.injEq,beq_eq_false_iff_ne,ne_eq] at e1 e2
 obtain⟨e11,rfl,rfl⟩:=e1
 obtain⟨e21,rfl,rfl⟩:=e2
 have c1:=fun n=>MapKept.run_checkKey (w:=w) h1 k1 e n
 have c2:=fun n=>MapKept.run_checkKey (w:=w) h2 k2 e n
 rw[Instr.checkKey]
 simp only[Sem.run_bind,run_underlying hu,Result.andThen_ok]
 rw[← Array.forIn_toList,he]
 simp only[List.forIn_cons,List.forIn_nil,Sem.run_bind,e11,e21,ne_eq,not_false_eq_true,if_true,part,a1,a2,Result.andThen_ok,Bool.false_eq_true,if_false]
 simp[part,c1,c2,a1,a2,e21,e11,Result.andThen]
theorem y8u:zfy Tryz.prog 138 zdi:=zfy.of_eq (by rw[show Tryz.prog.underlying 138=some (.struct (Tryz.prog.fieldsOf 138)) by kernel_rfl])
 (fun w e a=>zxe (by kernel_rfl) (by kernel_rfl) (T3.int rfl) (show MapKept.IsKey (.int .i64) (.int .i64 a.1) from rfl) (T3.int rfl) (show MapKept.IsKey (.int .i64) (.int .i64 a.2) from rfl) (fun w=>T3.isAgg w) (fun w=>T3.isAgg w) w e) y4w (fun a=>by simp[zdi,Instr.sameBits])
theorem y8q:zfy Tryz.prog 78 zta:=zfy.of_eq (by rw[show Tryz.prog.underlying 78=some (.struct (Tryz.prog.fieldsOf 78)) by kernel_rfl])
 (fun w e a=>zxe (by kernel_rfl) (by kernel_rfl) (T4.bool rfl) (show MapKept.IsKey .bool (.bool a.1) from trivial) (T76.int rfl) (show MapKept.IsKey (.int .u64) (.int .u64 (a.2:Nat)) from rfl) (fun w=>T4.isAgg w) (fun w=>T76.isAgg w) w e) y8e (fun a=>by simp[zta,Instr.sameBits])
end Go.Proofs.YthdfkabdoidjfaaGreatDoor
namespace Go.Proofs.YthdfkabdoidjfaaGreatDoor
open Go.Ab Go.Ax
set_option maxHeartbeats 20000000
set_option maxRecDepth 100000
attribute [local irreducible] Run Ops Op1 z1d Val Tr z08 z13 NF Rel z2h z2g
namespace XP
abbrev xK:Type:=Int × Int
abbrev xC (x:Int × Int):List D:=pcc x
abbrev xP (x:Int × Int):PV:=pcP x
abbrev xE (e:Go.Ax.Edge (Int × Int)):List D:=ped e
abbrev xM (ks:List (Int × Int)):Blk:=.mp ((z2d 0 ks).map fun p=>(zdi p.1,p.2))
abbrev xT:TypeId:=138
abbrev xF:FuncId:=94
abbrev xH:FuncId:=97
abbrev xA:List PV:=[.ptr (1,5) 0,.ptr (1,3) 0,.ptr (1,4) 0]
abbrev xB:List PV:=[.ptr (1,3) 0,.ptr (1,4) 0,.ptr (1,5) 0]
theorem xG:zfy Tryz.prog 138 zdi:=y8u
theorem xW {a:Int × Int}:∀ β w own v,PR β w own (pcP a) v→v=zdi a:=y8z
theorem xN:type_of% @Tryz.func101:=@Tryz.func101
end XP
open XP in
theorem zmz (b1 b2 b3:Blk) (ok:Int × Int→Prop) (fin:Int × Int→Bool) (edg:Int × Int→List (Go.Ax.Edge (Int × Int))) (first:Int × Int) (lim:Int) (hl0:1≤lim) (hl1:lim≤2000000) (hok0:ok first)
 (hfin:∀ k,ok k→z13 Tryz.prog 94 [pcP k,.ptr (1,5) 0,.ptr (1,3) 0,.ptr (1,4) 0] [((1,3),b1),((1,4),b2),((1,5),b3)] [] (B (fin k))) (hedg:∀ k,ok k→z13 Tryz.prog 97 [pcP k,.ptr (1,3) 0,.ptr (1,4) 0,.ptr (1,5) 0] [((1,3),b1),((1,4),b2),((1,5),b3)] [] (.d (.slice ((edg k).map ped)))) (hE:∀ k,ok k→edE (edg k)∧∀ e∈edg k,ok e.2.2)
 (H:Hf) (hb1:H 0 3=some b1) (hb2:H 0 4=some b2) (hb3:H 0 5=some b3) :
 Ab.Spec Tryz.prog 101 [pcP first,.fn (.func 94) [] [.ptr (0,5) 0,.ptr (0,3) 0,.ptr (0,4) 0],.fn (.func 97) [] [.ptr (0,3) 0,.ptr (0,4) 0,.ptr (0,5) 0],I .i64 lim] H (fun r H'=>r=.v (exR (exL fin edg lim.toNat (lim.toNat+1) 0 [first] ⟨[],[]⟩))∧H'=H):=by
 have hb:∀ (n:Nat) (tm:List (Nat × PV)) (hp:Hp),BkE ⟨n,tm,hp,H⟩ [((1,3),b1),((1,4),b2),((1,5),b3)]:=fun n tm hp=>by simp[BkE,z3o,push,hb1,hb2,hb3]
 refine z03 Tryz.func101 (by kernel_rfl) rfl (by simp) ?_
 dsimp only[Tryz.f101]
 repeat' (first|(apply z0y;(first|refine z8m (by decide) rfl ?_|refine zdc (et:=3) (a:=first) (v:=z0u 0) (py:=pcP first) (q:=([]:List ((Int × Int) × D))) (by kernel_rfl) y8u rfl rfl y8z rfl rfl rfl ?_))|(apply z0w;(refine z07 z2b ?_))|(apply zfh;(refine zb4 rfl rfl rfl rfl rfl rfl rfl rfl rfl (by decide) ?_))|refine stq ?_|fail)
 refine z18 24 1000 ?_
 refine z2a 10 0 1001 4 1 rfl rfl rfl rfl ?_
 refine z2a 10 1 1002 39 1 rfl rfl rfl rfl ?_
 generalize hres:exL fin edg lim.toNat (lim.toNat+1) 0 [first] ⟨[],[]⟩=res
 refine z0a ?_
 refine z00 (z0p (fun q:Nat × List (Int × Int) × Au=>⟨128,[(1,.fn (.func 94) [] [.ptr (1,5) 0,.ptr (1,3) 0,.ptr (1,4) 0]),(2,.fn (.func 97) [] [.ptr (1,3) 0,.ptr (1,4) 0,.ptr (1,5) 0]),(3,I .i64 lim),(8,.ptr (0,8) 0),(10,.ptr (0,10) 0),(11,.ref (0,20)),(12,.ref (0,1000)),(13,I .i64 (q.1:Nat))],[(20,mpP q.2.1),(1000,.row 138 2 (q.2.1.map pcc)),(10,.box [.ref (0,1001),.ref (0,1002)]),(1001,.row 4 1 (q.2.2.F.map boc)),(1002,.row 39 1 (q.2.2.A.map z25)),(8,.box [.d (.lit z2c),.d (.lit z2c)])],H⟩) (fun q=>q.1≤q.2.1.length∧1≤q.2.1.length∧q.2.1.length≤lim.toNat∧q.2.2.F.length=q.1∧q.2.2.A.length=q.1∧(∀ x∈q.2.1,ok x)∧exL fin edg lim.toNat (lim.toNat+1-q.1) q.1 q.2.1 q.2.2=res) (fun q=>lim.toNat+1-q.1) ?_ (0,[first],⟨[],[]⟩) ⟨zAf _,zAj _,by simp only[zAn];omega,rfl,rfl,fun x hx=>by rw[zAq] at hx;rw[hx];exact hok0,hres⟩) rfl rfl
 exact zD1
end Go.Proofs.YthdfkabdoidjfaaGreatDoor
