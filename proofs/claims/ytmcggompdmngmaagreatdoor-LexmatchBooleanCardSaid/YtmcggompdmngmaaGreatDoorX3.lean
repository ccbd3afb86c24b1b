/- A part. -/
import Derived.Test.YtmcggompdmngmaaGreatDoorX2
set_option linter.all false
open Go.Proofs.Tryz
namespace Go.Proofs.YtmcggompdmngmaaGreatDoor
open Go.Ab Go.Ax
set_option maxHeartbeats 20000000
set_option maxRecDepth 100000
attribute [local irreducible] Run Ops Op1 z0y Val Tr z0a z0u NF Rel z27 z29
theorem zqb(b1 b2 b3 b4:Blk)(ok:Int→Prop)(fin:Int→Bool)(edg:Int→List (Go.Ax.Edge (Int)))(first:Int)(lim:Int)(hl0:1≤lim)(hl1:lim≤2000000)(hok0:ok first)
 (hfin:∀k,ok k→z0u prog 115 [I .i64 k,.ptr (1,2) 0,.ptr (1,8) 0] [((1,2),b1),((1,8),b2),((1,6),b3),((1,29),b4)] [] (B (fin k))) (hedg:∀k,ok k→z0u prog 116 [I .i64 k,.ptr (1,2) 0,.ptr (1,8) 0,.ptr (1,6) 0] [((1,2),b1),((1,8),b2),((1,6),b3),((1,29),b4)] [] (.d (zde (edg k)))) (hE:∀k,ok k→edE (edg k)∧∀e∈edg k,ok e.2.2)
 (H:Hf) (hb1:H 0 2=some b1) (hb2:H 0 8=some b2) (hb3:H 0 6=some b3) (hb4:H 0 29=some b4) :
 Ab.Spec prog 118 [I .i64 first,.fn (.func 115) [] [.ptr (0,2) 0,.ptr (0,8) 0],.fn (.func 116) [] [.ptr (0,2) 0,.ptr (0,8) 0,.ptr (0,6) 0],I .i64 lim] H (fun r H'=>r=.v (exR (exL fin edg lim.toNat (lim.toNat+1) 0 [first] ⟨[],[]⟩))∧H'=H):=by
 have hb:∀(n:Nat) (tm:List (Nat × PV)) (hp:Hp),BkE ⟨n,tm,hp,H⟩ [((1,2),b1),((1,8),b2),((1,6),b3),((1,29),b4)]:=fun n tm hp=>by simp[BkE,z3h,push,hb1,hb2,hb3,hb4]
 refine z05 func118 (by kernel_rfl) rfl (by simp) ?_
 dsimp only[f118]
 repeat' first|(apply z0r;first|refine zbd (by decide) rfl ?_|refine zmi (et:=3) (a:=first) (v:=z2i 0) (py:=I .i64 first) (q:=([]:List ((Int) × D))) (by kernel_rfl) zqh rfl rfl zqi rfl rfl rfl ?_)|(apply zqq;refine zj9 rfl rfl rfl rfl rfl rfl rfl rfl rfl (by decide) ?_)|refine z04 ?_|fail
 refine z1d 24 1000 ?_
 refine z2j 10 0 1001 4 1 rfl rfl rfl rfl ?_
 refine z2j 10 1 1002 96 1 rfl rfl rfl rfl ?_
 generalize hres:exL fin edg lim.toNat (lim.toNat+1) 0 [first] ⟨[],[]⟩=res
 refine z0f ?_
 refine z00 (z0s (fun q:Nat × List (Int) × Au=>⟨128,[(1,.fn (.func 115) [] [.ptr (1,2) 0,.ptr (1,8) 0]),(2,.fn (.func 116) [] [.ptr (1,2) 0,.ptr (1,8) 0,.ptr (1,6) 0]),(3,I .i64 lim),(8,.ptr (0,8) 0),(10,.ptr (0,10) 0),(11,.ref (0,20)),(12,.ref (0,1000)),(13,I .i64 (q.1:Nat))],[(20,mpI q.2.1),(1000,.row 3 1 (q.2.1.map icc)),(10,.box [.ref (0,1001),.ref (0,1002)]),(1001,.row 4 1 (q.2.2.F.map boc)),(1002,.row 96 1 (q.2.2.A.map z7m)),(8,.box [.d (.lit z2n),.d (.lit z2n)])],H⟩) (fun q=>q.1≤q.2.1.length∧1≤q.2.1.length∧q.2.1.length≤lim.toNat∧q.2.2.F.length=q.1∧q.2.2.A.length=q.1∧(∀x∈q.2.1,ok x)∧exL fin edg lim.toNat (lim.toNat+1-q.1) q.1 q.2.1 q.2.2=res) (fun q=>lim.toNat+1-q.1) ?_ (0,[first],⟨[],[]⟩) ⟨zAf _,zAj _,by simp only[zAn];omega,rfl,rfl,fun x hx=>by rw[zAq]at hx;rw[hx];exact hok0,hres⟩) rfl rfl
 rintro⟨i,ks,⟨F,A⟩⟩ ⟨i1,i2,i3,i4,i5,i7,i6⟩ ih
 simp only at i1 i2 i3 i4 i5 i6 i7 ih⊢
 by_cases hlt:i<ks.length
 ·obtain⟨k,hk⟩:∃k,ks[i]? =some k:=⟨_,zA0 hlt⟩
  obtain⟨n,hn⟩:∃n,lim.toNat+1-i=n+1:=⟨lim.toNat-i,by omega⟩
  rw[hn,exL,hk]at i6
  simp only at i6
  have hok:=i7 k (zA2 hk)
  have hff:=hfin k hok
  have hee:=hedg k hok
  obtain⟨⟨hE1,hE2⟩,hE3⟩:=hE k hok
  generalize edg k=es at *
  generalize fin k=fb at *
  repeat' first|(apply z1f;refine z07 (z0e (u:=z2i k) hk) rfl rfl ?_)|(apply z01;refine z07 (z3d rfl) rfl rfl ?_)|(apply z14;refine z07 (z4e rfl) rfl rfl ?_)|(apply z06;refine zlt (first:=[]) (cap:=[.ptr (1,2) 0,.ptr (1,8) 0,.ptr (1,6) 0]) (ps:=[I .i64 k]) hee rfl rfl (hb _ _ _) (by decide) ?_)|refine z04 ?_|refine fk (fun _=>?_) fun _=>?_
  all_goals try (exfalso;simp only[zA4]at *;omega)
  refine z1j 14 1003 98 3 rfl rfl rfl ?_
  refine z0f ?_
  refine z00 (z0s (fun q:Nat × List (Int) × List Arc=>⟨128,[(1,.fn (.func 115) [] [.ptr (1,2) 0,.ptr (1,8) 0]),(2,.fn (.func 116) [] [.ptr (1,2) 0,.ptr (1,8) 0,.ptr (1,6) 0]),(3,I .i64 lim),(8,.ptr (0,8) 0),(10,.ptr (0,10) 0),(11,.ref (0,20)),(12,.ref (0,1000)),(13,I .i64 (i:Nat)),(14,.ref (0,1003)),(36,.d (.slice (es.map z3g))),(37,I .i64 es.length),(38,I .i64 (q.1:Nat))],[(20,mpI q.2.1),(1000,.row 3 1 (q.2.1.map icc)),(1003,.row 98 3 (q.2.2.map z3g)),(10,.box [.ref (0,1001),.ref (0,1002)]),(1001,.row 4 1 (F.map boc)),(1002,.row 96 1 (A.map z7m)),(8,.box [.d (.lit z2n),.d (.lit z2n)])],H⟩) (fun q=>q.1≤es.length∧q.2.2.length≤q.1∧q.2.1.length≤ks.length+q.1∧q.2.1[i]? =some k∧(∀y∈q.2.2,0≤y.2.1∧y.2.1≤1114111)∧(∀x∈q.2.1,ok x)∧(es.drop q.1).foldl z7f q.2=es.foldl z7f (ks,[])) (fun q=>es.length-q.1) ?_ (0,ks,[]) ⟨zAf _,zAj _,zAj _,hk,by simp,i7,rfl⟩) rfl rfl
  rintro⟨j,ks2,arcs⟩ ⟨j1,j2,j3,j4,j5,j7,j6⟩ ihj
  simp only at j1 j2 j3 j4 j5 j6 j7 ihj⊢
  by_cases hjl:j<es.length
  ·obtain⟨e,he⟩:∃e,es[j]? =some e:=⟨_,zA0 hjl⟩
   obtain⟨r1,r2,r3⟩:=hE2 e (zA2 he)
   rw[drop_cons he,List.foldl_cons,z7f]at j6
   simp only at j6
   have hal:=zhl ks2 e.2.2
   have hln:=ze4 arcs e.1 e.2.1 (z3o e.2.2 ks2:Nat)
   have ihj':=ihj (j+1,z7j ks2 e.2.2,ext arcs e.1 e.2.1 (z3o e.2.2 ks2:Nat)) ⟨by simp only;omega,by simp only;omega,by simp only;omega,by simp only;obtain⟨x,hx⟩:=z89 ks2 e.2.2;rw[hx,zAb (zA1.1 j4).1];exact j4,fun y hy=>by
    rcases ext_mem hy with h|h
    ·omega
    ·exact j5 y h,fun x hx=>by
    rcases zdf hx with h|h
    ·rw[h];exact hE3 e (zA2 he)
    ·exact j7 x h,j6⟩ (by simp only;omega)
   have hget:=zac e.2.2 ks2 0
   clear ihj hal
   by_cases hknown:e.2.2∈ks2
   ·rw[z7j,zAz hknown]at ihj'
    rw[zAz hknown,Nat.zero_add]at hget
    have hget1:(z5t (z3j 0 ks2) e.2.2).getD (.lit (.int .i64 0))=z2i (z3o e.2.2 ks2:Nat):=by rw[hget];rfl
    have hget2:(z5t (z3j 0 ks2) e.2.2).isSome=true:=by rw[hget];rfl
    generalize z3o e.2.2 ks2=qv at *
    rcases zqy arcs with rfl|⟨m,y,rfl⟩
    ·rw[ext_nil]at ihj'
     repeat' first|(apply z0r;refine z09 (z2a (et:=3) (a:=e.2.2) (q:=z3j 0 ks2) (z0:=Value.int .i64 0) (py:=I .i64 e.2.2) (by kernel_rfl) zqh (z2d (by kernel_rfl)) rfl rfl rfl zqi rfl hget1 hget2 (by decide)) ?_)|(apply z01;refine z07 (z11 (ys:=es.map z3g) rfl (idx he)) rfl rfl ?_)|(apply z14;first|refine z07 (z18 rfl) rfl rfl ?_| refine z4x (g:=z3g) rfl rfl (e.1,e.2.1,((qv:Nat):Int)) rfl rfl rfl rfl rfl rfl rfl (by decide) (by simp) ?_)|refine z04 ?_|refine fk (fun _=>?_) fun _=>?_
     all_goals try (exfalso;first|omega|(simp at *;done))
     all_goals skip
     all_goals exact zD96
    ·have hy:=j5 y (by simp)
     have hal:((m++[y]).map z3g).length=m.length+1:=by simp
     have hal2:(m++[y]).length=m.length+1:=by simp
     have hix:(m++[y])[(((((m++[y]).length:Nat):Int)-1)).toNat]? =some y:=by
      exact zD107
     have hse:(m++[y]).set (((((m++[y]).length:Nat):Int)-1)).toNat ((y.1,e.2.1,y.2.2):Arc)=m++[(y.1,e.2.1,y.2.2)]:=by
      exact zD107
     rw[z47]at ihj'
     by_cases hj:y.2.1+1=e.1∧y.2.2=(qv:Nat)
     ·have hyq:(y.1,e.2.1,((qv:Nat):Int))=((y.1,e.2.1,y.2.2):Arc):=by rw[hj.2]
      rw[zAz hj,hyq]at ihj'
      repeat' first|(apply z0r;refine z09 (z2a (et:=3) (a:=e.2.2) (q:=z3j 0 ks2) (z0:=Value.int .i64 0) (py:=I .i64 e.2.2) (by kernel_rfl) zqh (z2d (by kernel_rfl)) rfl rfl rfl zqi rfl hget1 hget2 (by decide)) ?_)|(apply z0b;first|refine z0c (z0e (u:=z1b y.2.1) hix) rfl rfl ?_| refine z0c (z0e (u:=z2i y.2.2) hix) rfl rfl ?_)|(apply z01;first|refine z07 (z11 (ys:=es.map z3g) rfl (idx he)) rfl rfl ?_| refine z07 (z3d rfl) rfl rfl ?_)|(apply z02;refine z0c (z3d rfl) rfl rfl ?_)|(apply z19;refine z0c (z16 (zc9 (by omega) (by omega))) rfl rfl ?_)|(apply z14;first|refine z07 (z18 rfl) rfl rfl ?_| refine z2w (g:=z3g) (e.1,e.2.1,((qv:Nat):Int)) rfl ?_)|(apply z0x;refine z3w ((y.1,e.2.1,y.2.2):Arc) hix hse ?_)|refine z04 ?_|refine fk (fun _=>?_) (fun _=>?_)|(refine z13 (fun hg=>?_) (fun hg=>?_)<;> simp only[hg] <;> (try simp only[zA3,zA5,zA6,zA8]at hg))
      all_goals try omega
      all_goals skip
      all_goals exact z00 ihj' rfl rfl
     ·rw[zAy hj]at ihj'
      repeat' first|(apply z0r;refine z09 (z2a (et:=3) (a:=e.2.2) (q:=z3j 0 ks2) (z0:=Value.int .i64 0) (py:=I .i64 e.2.2) (by kernel_rfl) zqh (z2d (by kernel_rfl)) rfl rfl rfl zqi rfl hget1 hget2 (by decide)) ?_)|(apply z0b;first|refine z0c (z0e (u:=z1b y.2.1) hix) rfl rfl ?_| refine z0c (z0e (u:=z2i y.2.2) hix) rfl rfl ?_)|(apply z01;first|refine z07 (z11 (ys:=es.map z3g) rfl (idx he)) rfl rfl ?_| refine z07 (z3d rfl) rfl rfl ?_)|(apply z02;refine z0c (z3d rfl) rfl rfl ?_)|(apply z19;refine z0c (z16 (zc9 (by omega) (by omega))) rfl rfl ?_)|(apply z14;first|refine z07 (z18 rfl) rfl rfl ?_| refine z2w (g:=z3g) (e.1,e.2.1,((qv:Nat):Int)) rfl ?_)|(apply z0x;refine z3w ((y.1,e.2.1,y.2.2):Arc) hix hse ?_)|refine z04 ?_|refine fk (fun _=>?_) (fun _=>?_)|(refine z13 (fun hg=>?_) (fun hg=>?_)<;> simp only[hg] <;> (try simp only[zA3,zA5,zA6,zA8]at hg))
      all_goals try omega
      all_goals skip
      all_goals exact zD96
   ·rw[z7j,zAy hknown,z48 hknown]at ihj'
    rw[z48 hknown]at hln
    rw[zAy hknown]at hget
    have hget1:(z5t (z3j 0 ks2) e.2.2).getD (.lit (.int .i64 0))=z2i 0:=by rw[hget];rfl
    have hget2:(z5t (z3j 0 ks2) e.2.2).isSome=false:=by rw[hget];rfl
    have hput:=zcx hknown
    dsimp only[mpI]at ihj'
    rw[←hput]at ihj'
    rcases zqy arcs with rfl|⟨m,y,rfl⟩
    ·rw[ext_nil]at ihj'
     repeat' first|(apply z0r;refine z09 (z2a (et:=3) (a:=e.2.2) (q:=z3j 0 ks2) (z0:=Value.int .i64 0) (py:=I .i64 e.2.2) (by kernel_rfl) zqh (z2d (by kernel_rfl)) rfl rfl rfl zqi rfl hget1 hget2 (by decide)) ?_)|(apply z01;refine z07 (z11 (ys:=es.map z3g) rfl (idx he)) rfl rfl ?_)|(apply z14;first|refine z07 (z18 rfl) rfl rfl ?_| refine z2w (g:=icc) e.2.2 rfl ?_| refine z4x (g:=z3g) rfl rfl (e.1,e.2.1,((ks2.length:Nat):Int)) rfl rfl rfl rfl rfl rfl rfl (by decide) (by simp) ?_)|refine z04 ?_|refine fk (fun _=>?_) (fun _=>?_)|(apply z0r;refine z5n (et:=3) (a:=e.2.2) (v:=z2i (ks2.length:Nat)) (py:=I .i64 e.2.2) (q:=z3j 0 ks2) (by kernel_rfl) zqh rfl rfl zqi rfl rfl rfl ?_)
     all_goals try (exfalso;first|omega|(simp at *;done))
     all_goals refine z1d 61 1000 ?_
     all_goals exact zD96
    ·have hy:=j5 y (by simp)
     have hal:((m++[y]).map z3g).length=m.length+1:=by simp
     have hal2:(m++[y]).length=m.length+1:=by simp
     have hix:(m++[y])[(((((m++[y]).length:Nat):Int)-1)).toNat]? =some y:=by
      exact zD107
     have hse:(m++[y]).set (((((m++[y]).length:Nat):Int)-1)).toNat ((y.1,e.2.1,y.2.2):Arc)=m++[(y.1,e.2.1,y.2.2)]:=by
      exact zD107
     rw[z47]at ihj'
     by_cases hj:y.2.1+1=e.1∧y.2.2=(ks2.length:Nat)
     ·have hyq:(y.1,e.2.1,((ks2.length:Nat):Int))=((y.1,e.2.1,y.2.2):Arc):=by rw[hj.2]
      rw[zAz hj,hyq]at ihj'
      repeat' first|(apply z0r;refine z09 (z2a (et:=3) (a:=e.2.2) (q:=z3j 0 ks2) (z0:=Value.int .i64 0) (py:=I .i64 e.2.2) (by kernel_rfl) zqh (z2d (by kernel_rfl)) rfl rfl rfl zqi rfl hget1 hget2 (by decide)) ?_)|(apply z0b;first|refine z0c (z0e (u:=z1b y.2.1) hix) rfl rfl ?_| refine z0c (z0e (u:=z2i y.2.2) hix) rfl rfl ?_)|(apply z01;first|refine z07 (z11 (ys:=es.map z3g) rfl (idx he)) rfl rfl ?_| refine z07 (z3d rfl) rfl rfl ?_)|(apply z02;refine z0c (z3d rfl) rfl rfl ?_)|(apply z19;refine z0c (z16 (zc9 (by omega) (by omega))) rfl rfl ?_)|(apply z14;first|refine z07 (z18 rfl) rfl rfl ?_| refine z2w (g:=icc) e.2.2 rfl ?_| refine z2w (g:=z3g) (e.1,e.2.1,((ks2.length:Nat):Int)) rfl ?_)|(apply z0x;refine z3w ((y.1,e.2.1,y.2.2):Arc) hix hse ?_)|refine z04 ?_|refine fk (fun _=>?_) (fun _=>?_)|(apply z0r;refine z5n (et:=3) (a:=e.2.2) (v:=z2i (ks2.length:Nat)) (py:=I .i64 e.2.2) (q:=z3j 0 ks2) (by kernel_rfl) zqh rfl rfl zqi rfl rfl rfl ?_)|(refine z13 (fun hg=>?_) (fun hg=>?_)<;> simp only[hg] <;> (try simp only[zA3,zA5,zA6,zA8]at hg))
      all_goals try omega
      all_goals refine z1d 61 1000 ?_
      all_goals exact z00 ihj' rfl rfl
     ·rw[zAy hj]at ihj'
      repeat' first|(apply z0r;refine z09 (z2a (et:=3) (a:=e.2.2) (q:=z3j 0 ks2) (z0:=Value.int .i64 0) (py:=I .i64 e.2.2) (by kernel_rfl) zqh (z2d (by kernel_rfl)) rfl rfl rfl zqi rfl hget1 hget2 (by decide)) ?_)|(apply z0b;first|refine z0c (z0e (u:=z1b y.2.1) hix) rfl rfl ?_| refine z0c (z0e (u:=z2i y.2.2) hix) rfl rfl ?_)|(apply z01;first|refine z07 (z11 (ys:=es.map z3g) rfl (idx he)) rfl rfl ?_| refine z07 (z3d rfl) rfl rfl ?_)|(apply z02;refine z0c (z3d rfl) rfl rfl ?_)|(apply z19;refine z0c (z16 (zc9 (by omega) (by omega))) rfl rfl ?_)|(apply z14;first|refine z07 (z18 rfl) rfl rfl ?_| refine z2w (g:=icc) e.2.2 rfl ?_| refine z2w (g:=z3g) (e.1,e.2.1,((ks2.length:Nat):Int)) rfl ?_)|(apply z0x;refine z3w ((y.1,e.2.1,y.2.2):Arc) hix hse ?_)|refine z04 ?_|refine fk (fun _=>?_) (fun _=>?_)|(apply z0r;refine z5n (et:=3) (a:=e.2.2) (v:=z2i (ks2.length:Nat)) (py:=I .i64 e.2.2) (q:=z3j 0 ks2) (by kernel_rfl) zqh rfl rfl zqi rfl rfl rfl ?_)|(refine z13 (fun hg=>?_) (fun hg=>?_)<;> simp only[hg] <;> (try simp only[zA3,zA5,zA6,zA8]at hg))
      all_goals try omega
      all_goals refine z1d 61 1000 ?_
      all_goals exact zD96
  ·obtain rfl:j=es.length:=by omega
   rw[zAs,List.foldl_nil]at j6
   rw[←j6]at i6
   simp only at i6
   have hi2:=(zA1.1 j4).1
   refine z0o 1003 rfl ?_
   by_cases hlim:lim.toNat<ks2.length
   ·rw[zAz hlim]at i6
    rw[←i6]
    all_goals exact zD83
   ·rw[zAy hlim]at i6
    have ih':=ih (i+1,ks2,⟨F++[fb],A++[arcs]⟩) ⟨by simp only;omega,by simp only;omega,by simp only;omega,by simp[i4],by simp[i5],j7,by rw[←i6];simp only;rw[show lim.toNat+1-(i+1)=n by omega]⟩ (by simp only;omega)
    simp only at ih'
    repeat' first|(apply z0b;refine z0c (z0e (u:=z2i k) j4) rfl rfl ?_)|(apply z02;refine z0c (z1a rfl (by simp only[zA4];omega)) rfl rfl ?_)|(apply z14;first|refine z07 (z18 rfl) rfl rfl ?_| refine z2w (g:=z7m) arcs rfl ?_)|(apply z4i;refine z4y (g:=boc) (by first|exact rfl|exact⟨_,rfl,rfl,rfl⟩) rfl rfl fb rfl rfl rfl rfl rfl rfl rfl (by decide) (by omega) ?_)|(apply z0l;refine y53 (first:=[]) (cap:=[.ptr (1,2) 0,.ptr (1,8) 0]) (ps:=[I .i64 k]) hff (by first|exact rfl|exact⟨_,rfl,rfl,rfl⟩) rfl rfl (hb _ _ _) (by decide) ?_)|(apply z10;refine zgf (by first|exact rfl|exact⟨_,rfl,rfl,rfl⟩) rfl rfl rfl rfl rfl ?_)|refine z04 ?_|refine fk (fun _=>?_) fun _=>?_
    all_goals try omega
    all_goals refine z1d 119 1001 ?_
    all_goals refine z1d 125 1002 ?_
    all_goals exact z00 ih' rfl rfl
 ·obtain rfl:i=ks.length:=by omega
  obtain⟨n,hn⟩:∃n,lim.toNat+1-ks.length=n+1:=⟨lim.toNat-ks.length,by omega⟩
  rw[hn,exL,zAv (zAj _)]at i6
  simp only at i6
  rw[←i6]
  refine z0o 1001 rfl ?_
  refine z0o 1002 rfl ?_
  all_goals exact zD83
structure zfy(F:List Bool)(A:List (List Arc)):Prop where
 len:A.length=F.length
 arc:∀l∈A,okA none l∧l.length≤2000000∧∀x∈l,0≤x.1∧x.1≤x.2.1∧x.2.1≤1114111∧0≤x.2.2∧x.2.2<F.length
 few:F.length≤2000000
 pos:0<F.length
 tot:(A.map List.length).sum≤1000000000
theorem ziu{α:Type}[DecidableEq α](a b:α)(v:D):∀q:List (α × D),z5t (z9h q a v) b=if a=b then some v else z5t q b
 | []=>by simp[z9h,z5t]
 | (c,u)::r=>by
  rw[z9h]
  by_cases h:c=a
  ·rw[zAz h,z5t,z5t]
   by_cases h2:a=b
   ·rw[zAz h2,zAz h2]
   ·rw[zAy h2,zAy h2,zAy (by rw[h];exact h2)]
  ·rw[zAy h,z5t,z5t,ziu a b v r]
   by_cases h2:c=b
   ·rw[zAz h2,zAz h2,zAy fun e=>h (by rw[h2,e])]
   ·rw[zAy h2,zAy h2]
def zdc(cl:List Int):Nat→Int→Option Nat
 | 0,_=>none
 | j+1,k=>if cl.getD j 0=k then some j else zdc cl j k
theorem z6e{cl:List Int}{k:Int}:∀ {j s:Nat},zdc cl j k=some s→s<j∧cl.getD s 0=k
 | 0,s,h=>by simp[zdc]at h
 | j+1,s,h=>by
  rw[zdc]at h
  split at h
  ·simp at h;subst h;exact⟨by omega,by assumption⟩
  ·have:=z6e h;exact⟨by omega,this.2⟩
theorem z9n{cl:List Int}{k:Int}:∀ {j s:Nat},s<j→cl.getD s 0=k→∃r,zdc cl j k=some r
 | 0,s,h,_=>by omega
 | j+1,s,h,h2=>by
  rw[zdc]
  by_cases hj:cl.getD j 0=k
  ·exact⟨j,by rw[zAz hj]⟩
  ·rw[zAy hj]
   have:s≠j:=by rintro rfl;exact hj h2
   exact z9n (by omega) h2
def stQ(cl:List Int)(k:Int):Nat:=(zdc cl cl.length k).getD 0
abbrev mpD(m:List (Int × D)):Blk:=.mp (m.map fun p=>(Value.int .i64 p.1,p.2))
section
variable(F:List Bool)(A:List (List Arc))(cl:List Int)(m:List (Int × D))(hA:zfy F A)(hcl:cl.length=F.length)(hm:∀k,z5t m k=(zdc cl cl.length k).map fun s=>z2i (s:Nat))
abbrev bsM:List (Nm × Blk):=[((1,2),BX F A),((1,8),.box [.ref (0,29)]),((1,6),.box [.d (ints cl)]),((1,29),mpD m)]
include hcl hm in
theorem y6e(k:Int)(hk:∃q,q<F.length∧cl.getD q 0=k):z0u prog 115 [I .i64 k,.ptr (1,2) 0,.ptr (1,8) 0] (bsM F A cl m) [] (B ((⟨F,A⟩:Au).fin (stQ cl k:Nat))):=by
 refine z0v fun H hH=>?_
 have h2:H 1 2=some (BX F A):=hH ((1,2),BX F A) (by simp)
 have h8:H 1 8=some (.box [.ref (0,29)]):=hH ((1,8),.box [.ref (0,29)]) (by simp)
 have h29:H 1 29=some (mpD m):=hH ((1,29),mpD m) (by simp)
 obtain⟨q,hq,hqk⟩:=hk
 obtain⟨r,hr⟩:=z9n (cl:=cl) (j:=cl.length) (s:=q) (by omega) hqk
 have hst:stQ cl k=r:=by rw[stQ,hr];rfl
 have hrl:=(z6e hr).1
 have hmk:(z5t m k).getD (.lit (.int .i64 0))=z2i (r:Nat):=by rw[hm,hr];rfl
 obtain⟨b,hb⟩:∃b,F[r]? =some b:=⟨_,zA0 (by omega)⟩
 have hf:(⟨F,A⟩:Au).fin (r:Nat)=b:=by rw[Au.fin,zAy (by omega),zA9,List.getD,hb];rfl
 rw[hst,hf]
 refine z05 func115 (by kernel_rfl) rfl (by simp) ?_
 dsimp only[f115]
 repeat' first|(apply z0r;refine z09 (zwb (et:=3) (a:=k) (q:=m) (z0:=Value.int .i64 0) (py:=I .i64 k) (m0:=(2,29)) (by kernel_rfl) zqh (z2d (by kernel_rfl)) rfl rfl rfl zqi h29 hmk (by decide)) ?_)|(apply z1f;first|refine zcl h8 ?_| refine zcl h2 ?_)|(apply z01;refine z07 (z11 (ys:=F.map boc) rfl (idx (g:=boc) hb)) rfl rfl ?_)|refine z04 ?_|fail
 all_goals try omega
 all_goals exact z03 func115 _ z1h ⟨rfl,rfl⟩
include hA hcl hm in
theorem y6p(k:Int)(hk:∃q,q<F.length∧cl.getD q 0=k):z0u prog 116 [I .i64 k,.ptr (1,2) 0,.ptr (1,8) 0,.ptr (1,6) 0] (bsM F A cl m) [] (.d (zde (byC cl ((⟨F,A⟩:Au).arcs (stQ cl k:Nat))))):=by
 refine z0v fun H hH=>?_
 have h2:H 1 2=some (BX F A):=hH ((1,2),BX F A) (by simp)
 have h8:H 1 8=some (.box [.ref (0,29)]):=hH ((1,8),.box [.ref (0,29)]) (by simp)
 have h6:H 1 6=some (.box [.d (ints cl)]):=hH ((1,6),.box [.d (ints cl)]) (by simp)
 have h29:H 1 29=some (mpD m):=hH ((1,29),mpD m) (by simp)
 obtain⟨q,hq,hqk⟩:=hk
 obtain⟨r,hr⟩:=z9n (cl:=cl) (j:=cl.length) (s:=q) (by omega) hqk
 have hst:stQ cl k=r:=by rw[stQ,hr];rfl
 have hrl:=(z6e hr).1
 have hmk:(z5t m k).getD (.lit (.int .i64 0))=z2i (r:Nat):=by rw[hm,hr];rfl
 obtain⟨l,hl⟩:∃l,A[r]? =some l:=⟨_,zA0 (by rw[hA.len];omega)⟩
 have hf:(⟨F,A⟩:Au).arcs (r:Nat)=l:=by rw[Au.arcs,zAy (by omega),zA9,List.getD,hl];rfl
 obtain⟨l0,l1,l2⟩:=hA.arc l (zA2 hl)
 have hby:=zkl l cl l1 fun x hx=>by have:=l2 x hx;omega
 rw[hst,hf]
 refine z05 func116 (by kernel_rfl) rfl (by simp) ?_
 dsimp only[f116]
 repeat' first|(apply zle;refine z0c (zu3 (et:=3) (a:=k) (q:=m) (z0:=Value.int .i64 0) (py:=I .i64 k) (m0:=(2,29)) (by kernel_rfl) zqh (z2d (by kernel_rfl)) rfl zqi hmk) rfl (bk1 h29) ?_)|(apply z0b;first|refine z5c h6 ?_| refine z5c h8 ?_| refine z5c h2 ?_)|(apply z02;refine z0c (z11 (ys:=A.map z7m) rfl (idx hl)) rfl rfl ?_)|(apply z0l;refine z3t hby ?_)|refine z04 ?_|fail
 all_goals try omega
 all_goals exact z03 func116 _ z1h ⟨rfl,rfl⟩
end
def yb4(F:List Bool)(A:List (List Arc))(cl:List Int)(lim:Nat):Option Au:=exL (fun k=>(⟨F,A⟩:Au).fin (stQ cl k:Nat)) (fun k=>byC cl ((⟨F,A⟩:Au).arcs (stQ cl k:Nat))) lim (lim+1) 0 [cl.getD 0 0] ⟨[],[]⟩
noncomputable def y75(F:List Bool)(A:List (List Arc))(lim:Nat):Option Au:=match y3q F A lim with
 | none=>none
 | some cl=>if cl.getD 0 0<0 then some ⟨[false],[[]]⟩else yb4 F A cl lim
theorem y1j{A:List (List Arc)}{n lim:Nat}(hn:n≤4000000)(hA:∀l∈A,∀x∈l,0≤x.1∧x.1≤x.2.1∧x.2.1≤1114111):∀ {f c:Nat} {cl r:List Int},ClW n c cl→zq7 A lim f c cl=some r→∃c',ClW n c' r
 | 0,c,cl,r,_,h=>by rw[zq7]at h;cases h
 | f+1,c,cl,r,hW,h=>by
  rw[zq7]at h
  obtain⟨_,hW2⟩:=ztm hn hW hA
  split at h
  ·cases h
  split at h
  ·simp at h;subst h;exact⟨_,hW2⟩
  ·exact y1j hn hA hW2 h
theorem zu9(F:List Bool)(A:List (List Arc))(hA:zfy F A)(lim:Nat)(h1:1≤lim)(h2:lim≤2000000):z0a prog 79 [.d (auD ⟨F,A⟩),I .i64 lim] (exR (y75 F A lim)):=by
 refine z0q fun H=>?_
 have hfew:=hA.few
 have hpos:=hA.pos
 have hcs:=zsf F A lim (by omega) hA.len (fun l hl=>⟨(hA.arc l hl).2.1,(hA.arc l hl).2.2⟩) (by omega) hA.tot
 rw[zA9]at hcs
 have hA1:∀l∈A,∀x∈l,0≤x.1∧x.1≤x.2.1∧x.2.1≤1114111:=fun l hl x hx=>by have:=(hA.arc l hl).2.2 x hx;omega
 have hWcl:∀cl,y3q F A lim=some cl→∃c',ClW F.length c' cl:=fun cl h=>y1j (by omega) hA1 (zsg F A) h
 rw[y75]
 generalize y3q F A lim=o at *
 cases o with
 | none =>
  simp only[yc1]at hcs
  simp only[exR]
  refine z05 func79 (by kernel_rfl) rfl (by simp) ?_
  dsimp only[f79]
  repeat' first|(apply z06;refine z1o hcs ?_)|(apply z1n;refine z09 z3s ?_)|refine z04 ?_|fail
  all_goals exact z03 func79 _ (z0h rfl rfl rfl rfl rfl rfl rfl) ⟨rfl,rfl⟩
 | some cl =>
  obtain⟨c',hW⟩:=hWcl cl rfl
  simp only[yc1]at hcs
  simp only
  have hcl:=hW.len
  obtain⟨k0,hk0⟩:∃k,cl[0]? =some k:=⟨_,zA0 (by omega)⟩
  have hk0i:cl[(0:Int).toNat]? =some k0:=hk0
  rw[z34 hk0]
  by_cases hneg:k0<0
  ·rw[zAz hneg]
   simp only[exR]
   refine z05 func79 (by kernel_rfl) rfl (by simp) ?_
   dsimp only[f79]
   repeat' first|(apply z01;refine z07 (z11 (ys:=cl.map icc) rfl (zam (g:=icc) hk0i)) rfl rfl ?_)|(apply z06;refine z1o hcs ?_)|(apply z1n;refine z09 z3s ?_)|(apply zd8;(refine zea (xs:=[[.slice []]]) rfl rfl (by decide) (by decide) rfl rfl rfl (by decide) (by rfl) ?_;refine zgz 27 rfl ?_))|refine z04 ?_|refine fk (fun _=>?_) fun _=>?_
   all_goals try omega
   all_goals exact z03 func79 _ (z0h rfl rfl rfl rfl rfl rfl rfl) ⟨rfl,rfl⟩
  ·rw[zAy hneg]
   have hex:∀m:List (Int × D),(∀k,z5t m k=(zdc cl cl.length k).map fun s=>z2i (s:Nat))→z0u prog 118 [I .i64 k0,.fn (.func 115) [] [.ptr (0,2) 0,.ptr (0,8) 0],.fn (.func 116) [] [.ptr (0,2) 0,.ptr (0,8) 0,.ptr (0,6) 0],I .i64 lim] [((0,2),BX F A),((0,8),.box [.ref (0,29)]),((0,6),.box [.d (ints cl)]),((0,29),mpD m)] [] (exR (yb4 F A cl lim)):=fun m hm=>z0v fun H hH=>by
    have hrng:∀k,(∃q,q<F.length∧cl.getD q 0=k∧0≤k)→edE (byC cl ((⟨F,A⟩:Au).arcs (stQ cl k:Nat)))∧∀e∈byC cl ((⟨F,A⟩:Au).arcs (stQ cl k:Nat)),∃q,q<F.length∧cl.getD q 0=e.2.2∧0≤e.2.2:=fun k hk=>by
     obtain⟨q,hq,hqk,hk0⟩:=hk
     obtain⟨r,hr⟩:=z9n (cl:=cl) (j:=cl.length) (s:=q) (by omega) hqk
     have hst:stQ cl k=r:=by rw[stQ,hr];rfl
     have hrl:=(z6e hr).1
     obtain⟨l,hl⟩:∃l,A[r]? =some l:=⟨_,zA0 (by rw[hA.len];omega)⟩
     have hf:(⟨F,A⟩:Au).arcs (r:Nat)=l:=by rw[Au.arcs,zAy (by omega),zA9,List.getD,hl];rfl
     rw[hst,hf]
     obtain⟨l0,l1,l2⟩:=hA.arc l (zA2 hl)
     obtain⟨b1,b2⟩:=zbu (fun q=>(zas hW.rng q).1) l0
     have bl:=ztp (cl:=cl) (l:=l)
     have bm:=zgl (B:=4000000) (fun q=>(zas hW.rng q).2) (hA1 l (zA2 hl))
     have hoa:=ztt b1
     refine⟨⟨by omega,fun e he=>⟨(bm e he).1,hoa e he,(bm e he).2.2.2.1⟩⟩,fun e he=>?_⟩
     have hee:=zmg b1 he
     rw[b2]at hee
     have h0:=(bm e he).2.2.2.2.1
     rw[clA]at hee
     split at hee
     ·omega
     ·rename_i hnn
      obtain⟨y,hy,hy2⟩:=zjj (l:=l) (c:=e.1) (by omega)
      have hyr:=l2 y hy
      exact⟨(nxt l e.1).toNat,by omega,hee,h0⟩
    have:=zqb (BX F A) (.box [.ref (0,29)]) (.box [.d (ints cl)]) (mpD m) (fun k=>∃q,q<F.length∧cl.getD q 0=k∧0≤k) (fun k=>(⟨F,A⟩:Au).fin (stQ cl k:Nat)) (fun k=>byC cl ((⟨F,A⟩:Au).arcs (stQ cl k:Nat))) k0 lim (by omega) (by omega) ⟨0,hpos,z34 hk0,by omega⟩ (fun k hk=>y6e F A cl m hcl hm k (by obtain⟨q,a,b,_⟩:=hk;exact⟨q,a,b⟩)) (fun k hk=>y6p F A cl m hA hcl hm k (by obtain⟨q,a,b,_⟩:=hk;exact⟨q,a,b⟩)) hrng H (hH ((0,2),BX F A) (by simp)) (hH ((0,8),.box [.ref (0,29)]) (by simp)) (hH ((0,6),.box [.d (ints cl)]) (by simp)) (hH ((0,29),mpD m) (by simp))
    rw[zA9]at this
    rw[yb4,z34 hk0]
    exact this
   generalize yb4 F A cl lim=o2 at *
   refine z05 func79 (by kernel_rfl) rfl (by simp) ?_
   dsimp only[f79]
   repeat' first|(apply z0r;refine zbd (by decide) rfl ?_)|(apply z01;refine z07 (z11 (ys:=cl.map icc) rfl (zam (g:=icc) hk0i)) rfl rfl ?_)|(apply z06;refine z1o hcs ?_)|(apply z1n;refine z09 z3s ?_)|refine z04 ?_|refine fk (fun _=>?_) fun _=>?_
   all_goals try omega
   refine z0f ?_
   refine z00 (z0s (fun q:Nat × List (Int × D)=>⟨52,[(1,I .i64 lim),(2,.ptr (0,2) 0),(4,.ptr (0,4) 0),(6,.ptr (0,6) 0),(8,.ptr (0,8) 0),(30,.d (ints cl)),(31,I .i64 cl.length),(32,I .i64 (q.1:Nat))],[(29,mpD q.2),(8,.box [.ref (0,29)]),(6,.box [.d (ints cl)]),(4,.box [.d (.lit z2n),.d (.lit z2n)]),(2,BX F A)],H⟩) (fun q=>q.1≤cl.length∧∀k,z5t q.2 k=(zdc cl q.1 k).map fun s=>z2i (s:Nat)) (fun q=>cl.length-q.1) ?_ (0,[]) ⟨zAf _,fun k=>rfl⟩) rfl rfl
   rintro⟨q,m⟩ ⟨q1,q2⟩ ih
   simp only at q1 q2 ih⊢
   by_cases hlt:q<cl.length
   ·obtain⟨k,hk⟩:∃k,cl[q]? =some k:=⟨_,zA0 hlt⟩
    have ih':=ih (q+1,z9h m k (z2i (q:Nat))) ⟨by simp only;omega,fun k'=>by
     simp only
     rw[ziu,zdc,z34 hk]
     by_cases e:k=k'
     ·rw[zAz e,zAz e];rfl
     ·rw[zAy e,zAy e];exact q2 k'⟩ (by simp only;omega)
    repeat' first|(apply z0r;refine z5n (et:=3) (a:=k) (v:=z2i (q:Nat)) (py:=I .i64 k) (q:=m) (by kernel_rfl) zqh rfl rfl zqi rfl rfl rfl ?_)|(apply z01;refine z07 (z11 (ys:=cl.map icc) rfl (idx (g:=icc) hk)) rfl rfl ?_)|refine z04 ?_|refine fk (fun _=>?_) fun _=>?_
    all_goals exact zD8
   ·obtain rfl:q=cl.length:=by omega
    have he:=hex m q2
    clear ih hex
    cases o2 with
    | some a =>
     exact zD48
    | none =>
     exact zD48
theorem ydm{a:Bool × Nat}:∀β w own v,PR β w own (scP a) v→v=zwq a:=fun β w own v h=>ziw (xs:=[.bool a.1,.int .u64 (a.2:Nat)]) β w own v h
theorem yda{a:Int × Int}:∀β w own v,PR β w own (pcP a) v→v=zf1 a:=fun β w own v h=>ziw (xs:=[.int .i64 a.1,.int .i64 a.2]) β w own v h
theorem zau{l:List Field}{f:Field→Bool × TypeId × Nat}{a b:Bool × TypeId × Nat}(h:l.map f=[a,b]):∃x y,l=[x,y]∧f x=a∧f y=b:=by
 match l,h with
 | [x,y],h=>simp at h;exact⟨x,y,rfl,h.1,h.2⟩
theorem yau(w:World)(a b:Int × Int):(Op.equal 174 (zf1 a) (zf1 b)).run prog w=.ok (decide (a=b)) w:=by
 have hf:(prog.fieldsOf 174).toList.map (fun f=>(f.name == "_",f.type,f.offset))=[(false,3,0),(false,3,1)]:=by kernel_rfl
 have hu:prog.underlying 174=some (.struct (prog.fieldsOf 174)):=by kernel_rfl
 have hs:prog.stoodInHeld 174=false:=by kernel_rfl
 have hint:prog.underlying 3=some (.int .i64):=T3.int rfl
 have ha3:∀w,(isAgg 3).run prog w=.ok false w:=fun w=>T3.isAgg w
 simp only[Op.equal,Op.maxDepth,zf1]
 rw[run_equalIn_struct w 9999 174 _ _ hu hs]
 obtain⟨⟨n1,t1,o1⟩,⟨n2,t2,o2⟩,he,e1,e2⟩:=zau hf
 rw[he]
 simp only[Prod.mk.injEq,beq_eq_false_iff_ne,ne_eq]at e1 e2
 have hab:decide (a=b)=(decide (a.1=b.1)&&decide (a.2=b.2)):=by
  rw[Bool.eq_iff_iff];simp[Prod.ext_iff]
 simp only[Op.eqFields,e1.1,e2.1,ne_eq,not_false_eq_true,if_true,e1.2.1,e1.2.2,e2.2.1,e2.2.2,part,Sem.run_bind,ha3,Result.andThen_ok,Bool.false_eq_true,if_false,hab]
 by_cases h1:a.1=b.1
 ·by_cases h2:a.2=b.2 <;> simp[run_equalIn_int _ _ _ _ _ _ _ hint,h1,h2]
 ·simp[run_equalIn_int _ _ _ _ _ _ _ hint,h1]
theorem yd1(w:World)(a b:Bool × Nat):(Op.equal 110 (zwq a) (zwq b)).run prog w=.ok (decide (a=b)) w:=by
 have hf:(prog.fieldsOf 110).toList.map (fun f=>(f.name == "_",f.type,f.offset))=[(false,4,0),(false,108,1)]:=by kernel_rfl
 have hu:prog.underlying 110=some (.struct (prog.fieldsOf 110)):=by kernel_rfl
 have hs:prog.stoodInHeld 110=false:=by kernel_rfl
 have hbo:prog.underlying 4=some .bool:=T4.bool rfl
 have hint:prog.underlying 108=some (.int .u64):=T108.int rfl
 have ha4:∀w,(isAgg 4).run prog w=.ok false w:=fun w=>T4.isAgg w
 have ha76:∀w,(isAgg 108).run prog w=.ok false w:=fun w=>T108.isAgg w
 simp only[Op.equal,Op.maxDepth,zwq]
 rw[run_equalIn_struct w 9999 110 _ _ hu hs]
 obtain⟨⟨n1,t1,o1⟩,⟨n2,t2,o2⟩,he,e1,e2⟩:=zau hf
 rw[he]
 simp only[Prod.mk.injEq,beq_eq_false_iff_ne,ne_eq]at e1 e2
 have hab:decide (a=b)=(decide (a.1=b.1)&&decide (a.2=b.2)):=by
  rw[Bool.eq_iff_iff];simp[Prod.ext_iff]
 simp only[Op.eqFields,e1.1,e2.1,ne_eq,not_false_eq_true,if_true,e1.2.1,e1.2.2,e2.2.1,e2.2.2,part,Sem.run_bind,ha4,ha76,Result.andThen_ok,Bool.false_eq_true,if_false,hab]
 by_cases h1:a.1=b.1
 ·by_cases h2:a.2=b.2 <;> simp[run_equalIn_int _ _ _ _ _ _ _ hint,Go.run_equalIn_bool' _ _ _ _ _ hbo,h1,h2,Int.ofNat_inj]
 ·simp[Go.run_equalIn_bool' _ _ _ _ _ hbo,h1]
theorem y1c{P:Program}{kt t1 t2:TypeId}{u v:Value}{d1 d2:TypeDesc}(hu:P.underlying kt=some (.struct (P.fieldsOf kt)))(hf:(P.fieldsOf kt).toList.map (fun f=>(f.name == "_",f.type,f.offset))=[(false,t1,0),(false,t2,1)])
 (h1:P.underlying t1=some d1) (k1:MapKept.IsKey d1 u) (h2:P.underlying t2=some d2) (k2:MapKept.IsKey d2 v) (a1:∀w,(isAgg t1).run P w=.ok false w) (a2:∀w,(isAgg t2).run P w=.ok false w) (w:World) (e:Bool):(Instr.checkKey e 10000 kt (.agg #[u,v])).run P w=.ok () w:=by
 obtain⟨⟨n1,t1',o1'⟩,⟨n2,t2',o2'⟩,he,e1,e2⟩:=zau hf
 simp only[Prod.mk.injEq,beq_eq_false_iff_ne,ne_eq]at e1 e2
 obtain⟨e11,rfl,rfl⟩:=e1
 obtain⟨e21,rfl,rfl⟩:=e2
 have c1:=fun n=>MapKept.run_checkKey (w:=w) h1 k1 e n
 have c2:=fun n=>MapKept.run_checkKey (w:=w) h2 k2 e n
 rw[Instr.checkKey]
 simp only[Sem.run_bind,run_underlying hu,Result.andThen_ok]
 rw[←Array.forIn_toList,he]
 simp only[List.forIn_cons,List.forIn_nil,Sem.run_bind,e11,e21,ne_eq,not_false_eq_true,if_true,part,a1,a2,Result.andThen_ok,Bool.false_eq_true,if_false]
 simp[part,c1,c2,a1,a2,e21,e11,Result.andThen]
theorem ydj:zir prog 174 zf1:=zir.of_eq (by rw[show prog.underlying 174=some (.struct (prog.fieldsOf 174)) by kernel_rfl])
 (fun w e a=>y1c (by kernel_rfl) (by kernel_rfl) (T3.int rfl) (show MapKept.IsKey (.int .i64) (.int .i64 a.1)from rfl) (T3.int rfl) (show MapKept.IsKey (.int .i64) (.int .i64 a.2)from rfl) (fun w=>T3.isAgg w) (fun w=>T3.isAgg w) w e) yau fun a=>by simp[zf1,Instr.sameBits]
theorem yd8:zir prog 110 zwq:=zir.of_eq (by rw[show prog.underlying 110=some (.struct (prog.fieldsOf 110)) by kernel_rfl])
 (fun w e a=>y1c (by kernel_rfl) (by kernel_rfl) (T4.bool rfl) (show MapKept.IsKey .bool (.bool a.1)from trivial) (T108.int rfl) (show MapKept.IsKey (.int .u64) (.int .u64 (a.2:Nat))from rfl) (fun w=>T4.isAgg w) (fun w=>T108.isAgg w) w e) yd1 fun a=>by simp[zwq,Instr.sameBits]
end Go.Proofs.YtmcggompdmngmaaGreatDoor
namespace Go.Proofs.YtmcggompdmngmaaGreatDoor
open Go.Ab Go.Ax
set_option maxHeartbeats 20000000
set_option maxRecDepth 100000
attribute [local irreducible] Run Ops Op1 z0y Val Tr z0a z0u NF Rel z27 z29
namespace XP
abbrev xK:Type:=Int × Int
abbrev xC(x:Int × Int):List D:=pcc x
abbrev xP(x:Int × Int):PV:=pcP x
abbrev xE(e:Go.Ax.Edge (Int × Int)):List D:=ped e
abbrev xM(ks:List (Int × Int)):Blk:=.mp ((z3j 0 ks).map fun p=>(zf1 p.1,p.2))
abbrev xT:TypeId:=174
abbrev xF:FuncId:=105
abbrev xH:FuncId:=108
abbrev xA:List PV:=[.ptr (1,5) 0,.ptr (1,3) 0,.ptr (1,4) 0]
abbrev xB:List PV:=[.ptr (1,3) 0,.ptr (1,4) 0,.ptr (1,5) 0]
theorem xG:zir prog 174 zf1:=ydj
theorem xW{a:Int × Int}:∀β w own v,PR β w own (pcP a) v→v=zf1 a:=yda
theorem xN:type_of% @func113:=@func113
end XP
open XP in
theorem zq2(b1 b2 b3:Blk)(ok:Int × Int→Prop)(fin:Int × Int→Bool)(edg:Int × Int→List (Go.Ax.Edge (Int × Int)))(first:Int × Int)(lim:Int)(hl0:1≤lim)(hl1:lim≤2000000)(hok0:ok first)
 (hfin:∀k,ok k→z0u prog 105 [pcP k,.ptr (1,5) 0,.ptr (1,3) 0,.ptr (1,4) 0] [((1,3),b1),((1,4),b2),((1,5),b3)] [] (B (fin k))) (hedg:∀k,ok k→z0u prog 108 [pcP k,.ptr (1,3) 0,.ptr (1,4) 0,.ptr (1,5) 0] [((1,3),b1),((1,4),b2),((1,5),b3)] [] (.d (.slice ((edg k).map ped)))) (hE:∀k,ok k→edE (edg k)∧∀e∈edg k,ok e.2.2)
 (H:Hf) (hb1:H 0 3=some b1) (hb2:H 0 4=some b2) (hb3:H 0 5=some b3) :
 Ab.Spec prog 113 [pcP first,.fn (.func 105) [] [.ptr (0,5) 0,.ptr (0,3) 0,.ptr (0,4) 0],.fn (.func 108) [] [.ptr (0,3) 0,.ptr (0,4) 0,.ptr (0,5) 0],I .i64 lim] H (fun r H'=>r=.v (exR (exL fin edg lim.toNat (lim.toNat+1) 0 [first] ⟨[],[]⟩))∧H'=H):=by
 have hb:∀(n:Nat) (tm:List (Nat × PV)) (hp:Hp),BkE ⟨n,tm,hp,H⟩ [((1,3),b1),((1,4),b2),((1,5),b3)]:=fun n tm hp=>by simp[BkE,z3h,push,hb1,hb2,hb3]
 refine z05 func113 (by kernel_rfl) rfl (by simp) ?_
 dsimp only[f113]
 repeat' first|(apply z0r;first|refine zbd (by decide) rfl ?_|refine zmi (et:=3) (a:=first) (v:=z2i 0) (py:=pcP first) (q:=([]:List ((Int × Int) × D))) (by kernel_rfl) ydj rfl rfl yda rfl rfl rfl ?_)|(apply z1n;refine z09 z3s ?_)|(apply zqq;refine zj9 rfl rfl rfl rfl rfl rfl rfl rfl rfl (by decide) ?_)|refine z04 ?_|fail
 refine z1d 24 1000 ?_
 refine z2j 10 0 1001 4 1 rfl rfl rfl rfl ?_
 refine z2j 10 1 1002 96 1 rfl rfl rfl rfl ?_
 generalize hres:exL fin edg lim.toNat (lim.toNat+1) 0 [first] ⟨[],[]⟩=res
 refine z0f ?_
 refine z00 (z0s (fun q:Nat × List (Int × Int) × Au=>⟨128,[(1,.fn (.func 105) [] [.ptr (1,5) 0,.ptr (1,3) 0,.ptr (1,4) 0]),(2,.fn (.func 108) [] [.ptr (1,3) 0,.ptr (1,4) 0,.ptr (1,5) 0]),(3,I .i64 lim),(8,.ptr (0,8) 0),(10,.ptr (0,10) 0),(11,.ref (0,20)),(12,.ref (0,1000)),(13,I .i64 (q.1:Nat))],[(20,mpP q.2.1),(1000,.row 174 2 (q.2.1.map pcc)),(10,.box [.ref (0,1001),.ref (0,1002)]),(1001,.row 4 1 (q.2.2.F.map boc)),(1002,.row 96 1 (q.2.2.A.map z7m)),(8,.box [.d (.lit z2n),.d (.lit z2n)])],H⟩) (fun q=>q.1≤q.2.1.length∧1≤q.2.1.length∧q.2.1.length≤lim.toNat∧q.2.2.F.length=q.1∧q.2.2.A.length=q.1∧(∀x∈q.2.1,ok x)∧exL fin edg lim.toNat (lim.toNat+1-q.1) q.1 q.2.1 q.2.2=res) (fun q=>lim.toNat+1-q.1) ?_ (0,[first],⟨[],[]⟩) ⟨zAf _,zAj _,by simp only[zAn];omega,rfl,rfl,fun x hx=>by rw[zAq]at hx;rw[hx];exact hok0,hres⟩) rfl rfl
 exact zD1
end Go.Proofs.YtmcggompdmngmaaGreatDoor
