/- A part of the proof: A14 to A31. -/
import Derived.Test.YtmcggompdmngmaaGreatDoorVc
import Derived.Test.YtmcggompdmngmaaGreatDoorV3
import Derived.Test.YtmcggompdmngmaaGreatDoorV4
import Derived.Test.YtmcggompdmngmaaGreatDoorVv
set_option linter.all false
namespace Go.Proofs.YtmcggompdmngmaaGreatDoor
open Go.Ab Go.Ax
set_option maxHeartbeats 20000000
set_option maxRecDepth 100000
attribute [local irreducible] Run Ops Op1 z13 Val Tr z0d z0w NF Rel z2a z2b
namespace XS
abbrev xK:Type:=Bool × Nat
abbrev xC (x:Bool × Nat):List D:=scc x
abbrev xP (x:Bool × Nat):PV:=scP x
abbrev xE (e:Go.Ax.Edge (Bool × Nat)):List D:=sed e
abbrev xM (ks:List (Bool × Nat)):Blk:=.mp ((z8u 0 ks).map fun p=>(ztl p.1,p.2))
abbrev xT:TypeId:=110
abbrev xF:FuncId:=53
abbrev xH:FuncId:=54
abbrev xA:List PV:=[.ptr (1,4) 0]
abbrev xB:List PV:=[.ptr (1,4) 0]
theorem xG:zoi Tryz.prog 110 ztl:=y9x
theorem xW {a:Bool × Nat}:∀ β w own v,PR β w own (scP a) v→v=ztl a:=y9r
theorem xN:type_of% @Tryz.func58:=@Tryz.func58
end XS
open XS in
theorem znt (b1 b2:Blk) (ok:Bool × Nat→Prop) (fin:Bool × Nat→Bool) (edg:Bool × Nat→List (Go.Ax.Edge (Bool × Nat))) (first:Bool × Nat) (lim:Int) (hl0:1≤lim) (hl1:lim≤2000000) (hok0:ok first)
 (hfin:∀ k,ok k→z0w Tryz.prog 53 [scP k,.ptr (1,4) 0] [((1,4),b1),((1,14),b2)] [] (B (fin k))) (hedg:∀ k,ok k→z0w Tryz.prog 54 [scP k,.ptr (1,4) 0] [((1,4),b1),((1,14),b2)] [] (.d (.slice ((edg k).map sed)))) (hE:∀ k,ok k→edE (edg k)∧∀ e∈edg k,ok e.2.2)
 (H:Hf) (hb1:H 0 4=some b1) (hb2:H 0 14=some b2) :
 Ab.Spec Tryz.prog 58 [scP first,.fn (.func 53) [] [.ptr (0,4) 0],.fn (.func 54) [] [.ptr (0,4) 0],I .i64 lim] H (fun r H'=>r=.v (exR (exL fin edg lim.toNat (lim.toNat+1) 0 [first] ⟨[],[]⟩))∧H'=H):=by
 have hb:∀ (n:Nat) (tm:List (Nat × PV)) (hp:Hp),BkE ⟨n,tm,hp,H⟩ [((1,4),b1),((1,14),b2)]:=fun n tm hp=>by simp[BkE,z3n,push,hb1,hb2]
 refine z0b Tryz.func58 (by kernel_rfl) rfl (by simp) ?_
 dsimp only[Tryz.f58]
 repeat' (first|(apply z14;(first|refine zs7 (by decide) rfl ?_|refine y0p (et:=3) (a:=first) (v:=z4k 0) (py:=scP first) (q:=([]:List ((Bool × Nat) × D))) (by kernel_rfl) y9x rfl rfl y9r rfl rfl rfl ?_))|(apply z3h;(refine z0o z6z ?_))|(apply y1u;(refine zyc rfl rfl rfl rfl rfl rfl rfl rfl rfl (by decide) ?_))|refine z05 ?_|fail)
 refine z2l 24 1000 ?_
 refine z3f 10 0 1001 4 1 rfl rfl rfl rfl ?_
 refine z3f 10 1 1002 96 1 rfl rfl rfl rfl ?_
 generalize hres:exL fin edg lim.toNat (lim.toNat+1) 0 [first] ⟨[],[]⟩=res
 refine z0n ?_
 refine z02 (z11 (fun q:Nat × List (Bool × Nat) × Au=>⟨128,[(1,.fn (.func 53) [] [.ptr (1,4) 0]),(2,.fn (.func 54) [] [.ptr (1,4) 0]),(3,I .i64 lim),(8,.ptr (0,8) 0),(10,.ptr (0,10) 0),(11,.ref (0,20)),(12,.ref (0,1000)),(13,I .i64 (q.1:Nat))],[(20,mpS q.2.1),(1000,.row 110 2 (q.2.1.map scc)),(10,.box [.ref (0,1001),.ref (0,1002)]),(1001,.row 4 1 (q.2.2.F.map boc)),(1002,.row 96 1 (q.2.2.A.map ze2)),(8,.box [.d (.lit z2t),.d (.lit z2t)])],H⟩) (fun q=>q.1≤q.2.1.length∧1≤q.2.1.length∧q.2.1.length≤lim.toNat∧q.2.2.F.length=q.1∧q.2.2.A.length=q.1∧(∀ x∈q.2.1,ok x)∧exL fin edg lim.toNat (lim.toNat+1-q.1) q.1 q.2.1 q.2.2=res) (fun q=>lim.toNat+1-q.1) ?_ (0,[first],⟨[],[]⟩) ⟨zAf _,zAj _,by simp only[zAn];omega,rfl,rfl,fun x hx=>by rw[zAq] at hx;rw[hx];exact hok0,hres⟩) rfl rfl
 rintro⟨i,ks,⟨F,A⟩⟩ ⟨i1,i2,i3,i4,i5,i7,i6⟩ ih
 simp only at i1 i2 i3 i4 i5 i6 i7 ih ⊢
 by_cases hlt:i<ks.length
 · obtain⟨k,hk⟩:∃ k,ks[i]? =some k:=⟨_,zA0 hlt⟩
   obtain⟨n,hn⟩:∃ n,lim.toNat+1-i=n+1:=⟨lim.toNat-i,by omega⟩
   rw[hn,exL,hk] at i6
   simp only at i6
   have hok:=i7 k (zA2 hk)
   have hff:=hfin k hok
   have hee:=hedg k hok
   obtain⟨⟨hE1,hE2⟩,hE3⟩:=hE k hok
   generalize edg k=es at *
   generalize fin k=fb at *
   repeat' (first|(apply z0i;(refine z0c (zhe hk rfl rfl) rfl rfl ?_))|(apply z0a;(refine z0c (z8t rfl) rfl rfl ?_))|(apply z1m;(refine z0c (z6d rfl) rfl rfl ?_))|(apply z04;(refine zr0 (first:=[]) (cap:=xB) (ps:=[xP k]) hee rfl rfl (hb _ _ _) (by decide) ?_))|refine z05 ?_|refine fk (fun _=>?_) (fun _=>?_))
   all_goals try (exfalso;simp only[zA4] at *;omega)
   refine z1z 14 1003 98 3 rfl rfl rfl ?_
   refine z0n ?_
   refine z02 (z11 (fun q:Nat × List xK × List Arc=>⟨128,[(1,.fn (.func xF) [] xA),(2,.fn (.func xH) [] xB),(3,I .i64 lim),(8,.ptr (0,8) 0),(10,.ptr (0,10) 0),(11,.ref (0,20)),(12,.ref (0,1000)),(13,I .i64 (i:Nat)),(14,.ref (0,1003)),(36,.d (.slice (es.map xE))),(37,I .i64 es.length),(38,I .i64 (q.1:Nat))],[(20,xM q.2.1),(1000,.row xT 2 (q.2.1.map xC)),(1003,.row 98 3 (q.2.2.map zf1)),(10,.box [.ref (0,1001),.ref (0,1002)]),(1001,.row 4 1 (F.map boc)),(1002,.row 96 1 (A.map ze2)),(8,.box [.d (.lit z2t),.d (.lit z2t)])],H⟩) (fun q=>q.1≤es.length∧q.2.2.length≤q.1∧q.2.1.length≤ks.length+q.1∧q.2.1[i]? =some k∧(∀ y∈q.2.2,0≤y.2.1∧y.2.1≤1114111)∧(∀ x∈q.2.1,ok x)∧(es.drop q.1).foldl znv q.2=es.foldl znv (ks,[])) (fun q=>es.length-q.1) ?_ (0,ks,[]) ⟨zAf _,zAj _,zAj _,hk,by simp,i7,rfl⟩) rfl rfl
   rintro⟨j,ks2,arcs⟩ ⟨j1,j2,j3,j4,j5,j7,j6⟩ ihj
   simp only at j1 j2 j3 j4 j5 j6 j7 ihj ⊢
   by_cases hjl:j<es.length
   · obtain⟨e,he⟩:∃ e,es[j]? =some e:=⟨_,zA0 hjl⟩
     obtain⟨r1,r2,r3⟩:=hE2 e (zA2 he)
     rw[drop_cons he,List.foldl_cons,znv] at j6
     simp only at j6
     have hal:=zu9 ks2 e.2.2
     have hln:=y12 arcs e.1 e.2.1 (z92 e.2.2 ks2:Nat)
     have ihj':=ihj (j+1,ze4 ks2 e.2.2,ext arcs e.1 e.2.1 (z92 e.2.2 ks2:Nat)) ⟨by simp only;omega,by simp only;omega,by simp only;omega,by simp only;obtain⟨x,hx⟩:=zfb ks2 e.2.2;rw[hx,zAb (zA1.1 j4).1];exact j4,fun y hy=>by
      rcases ext_mem hy with h|h
      · omega
      · exact j5 y h,fun x hx=>by
      rcases ztb hx with h|h
      · rw[h];exact hE3 e (zA2 he)
      · exact j7 x h,j6⟩ (by simp only;omega)
     have hget:=zl2 e.2.2 ks2 0
     clear ihj hal
     by_cases hknown:e.2.2∈ks2
     · rw[ze4,zAz hknown] at ihj'
       rw[zAz hknown,Nat.zero_add] at hget
       have hget1:(zdp (z8u 0 ks2) e.2.2).getD (.lit (.int .i64 0))=z4k (z92 e.2.2 ks2:Nat):=by rw[hget];rfl
       have hget2:(zdp (z8u 0 ks2) e.2.2).isSome=true:=by rw[hget];rfl
       generalize z92 e.2.2 ks2=qv at *
       rcases y7g arcs with rfl|⟨m,y,rfl⟩
       · rw[ext_nil] at ihj'
         repeat' (first|(apply z14;(refine z0o (z7r (et:=3) (a:=e.2.2) (q:=z8u 0 ks2) (z0:=Value.int .i64 0) (py:=xP e.2.2) (by kernel_rfl) xG (z6m (by kernel_rfl)) rfl rfl rfl xW rfl hget1 hget2 (by decide)) ?_))|(apply z0a;(refine z0c (z1t (ys:=es.map xE) rfl (idx he)) rfl rfl ?_))|(apply z1m;(first|refine z0c (z3g rfl) rfl rfl ?_| refine z3r (g:=zf1) rfl rfl (e.1,e.2.1,((qv:Nat):Int)) rfl rfl rfl rfl rfl rfl rfl (by decide) (by simp) ?_))|refine z05 ?_|refine fk (fun _=>?_) (fun _=>?_))
         all_goals try (exfalso;first|omega|(simp at *;done))
         all_goals skip
         all_goals exact zD101
       · have hy:=j5 y (by simp)
         have hal:((m++[y]).map zf1).length=m.length+1:=by simp
         have hal2:(m++[y]).length=m.length+1:=by simp
         have hix:(m++[y])[(((((m++[y]).length:Nat):Int)-1)).toNat]? =some y:=by
          exact zD112
         have hse:(m++[y]).set (((((m++[y]).length:Nat):Int)-1)).toNat ((y.1,e.2.1,y.2.2):Arc)=m++[(y.1,e.2.1,y.2.2)]:=by
          exact zD112
         rw[zbm] at ihj'
         by_cases hj:y.2.1+1=e.1∧y.2.2=(qv:Nat)
         · have hyq:(y.1,e.2.1,((qv:Nat):Int))=((y.1,e.2.1,y.2.2):Arc):=by rw[hj.2]
           rw[zAz hj,hyq] at ihj'
           repeat' (first|(apply z14;(refine z0o (z7r (et:=3) (a:=e.2.2) (q:=z8u 0 ks2) (z0:=Value.int .i64 0) (py:=xP e.2.2) (by kernel_rfl) xG (z6m (by kernel_rfl)) rfl rfl rfl xW rfl hget1 hget2 (by decide)) ?_))|(apply z0e;(first|refine z0l (z0j (u:=z1h y.2.1) hix) rfl rfl ?_| refine z0l (z0j (u:=z4k y.2.2) hix) rfl rfl ?_))|(apply z0a;(first|refine z0c (z1t (ys:=es.map xE) rfl (idx he)) rfl rfl ?_| refine z0c (z8t rfl) rfl rfl ?_))|(apply z07;(refine z0l (z8t rfl) rfl rfl ?_))|(apply z1o;(refine z0l (z1f (zbb (by omega) (by omega))) rfl rfl ?_))|(apply z1m;(first|refine z0c (z3g rfl) rfl rfl ?_| refine z4n (g:=zf1) (e.1,e.2.1,((qv:Nat):Int)) rfl ?_))|(apply z0m;(refine zbe ((y.1,e.2.1,y.2.2):Arc) hix hse ?_))|refine z05 ?_|refine fk (fun _=>?_) (fun _=>?_)|(refine z1c (fun hg=>?_) (fun hg=>?_)<;> simp only[hg] <;> (try simp only[zA3,zA5,zA6,zA8] at hg)))
           all_goals try (exfalso;omega)
           all_goals skip
           all_goals exact z02 ihj' rfl rfl
         · rw[zAy hj] at ihj'
           repeat' (first|(apply z14;(refine z0o (z7r (et:=3) (a:=e.2.2) (q:=z8u 0 ks2) (z0:=Value.int .i64 0) (py:=xP e.2.2) (by kernel_rfl) xG (z6m (by kernel_rfl)) rfl rfl rfl xW rfl hget1 hget2 (by decide)) ?_))|(apply z0e;(first|refine z0l (z0j (u:=z1h y.2.1) hix) rfl rfl ?_| refine z0l (z0j (u:=z4k y.2.2) hix) rfl rfl ?_))|(apply z0a;(first|refine z0c (z1t (ys:=es.map xE) rfl (idx he)) rfl rfl ?_| refine z0c (z8t rfl) rfl rfl ?_))|(apply z07;(refine z0l (z8t rfl) rfl rfl ?_))|(apply z1o;(refine z0l (z1f (zbb (by omega) (by omega))) rfl rfl ?_))|(apply z1m;(first|refine z0c (z3g rfl) rfl rfl ?_| refine z4n (g:=zf1) (e.1,e.2.1,((qv:Nat):Int)) rfl ?_))|(apply z0m;(refine zbe ((y.1,e.2.1,y.2.2):Arc) hix hse ?_))|refine z05 ?_|refine fk (fun _=>?_) (fun _=>?_)|(refine z1c (fun hg=>?_) (fun hg=>?_)<;> simp only[hg] <;> (try simp only[zA3,zA5,zA6,zA8] at hg)))
           all_goals try (exfalso;omega)
           all_goals skip
           all_goals exact zD101
     · rw[ze4,zAy hknown,z7z hknown] at ihj'
       rw[z7z hknown] at hln
       rw[zAy hknown] at hget
       have hget1:(zdp (z8u 0 ks2) e.2.2).getD (.lit (.int .i64 0))=z4k 0:=by rw[hget];rfl
       have hget2:(zdp (z8u 0 ks2) e.2.2).isSome=false:=by rw[hget];rfl
       have hput:=zv2 hknown
       dsimp only[xM] at ihj'
       rw[← hput] at ihj'
       rcases y7g arcs with rfl|⟨m,y,rfl⟩
       · rw[ext_nil] at ihj'
         repeat' (first|(apply z14;(refine z0o (z7r (et:=3) (a:=e.2.2) (q:=z8u 0 ks2) (z0:=Value.int .i64 0) (py:=xP e.2.2) (by kernel_rfl) xG (z6m (by kernel_rfl)) rfl rfl rfl xW rfl hget1 hget2 (by decide)) ?_))|(apply z0a;(refine z0c (z1t (ys:=es.map xE) rfl (idx he)) rfl rfl ?_))|(apply z1m;(first|refine z0c (z3g rfl) rfl rfl ?_| refine z4n (g:=xC) e.2.2 rfl ?_| refine z3r (g:=zf1) rfl rfl (e.1,e.2.1,((ks2.length:Nat):Int)) rfl rfl rfl rfl rfl rfl rfl (by decide) (by simp) ?_))|refine z05 ?_|refine fk (fun _=>?_) (fun _=>?_)|(apply z14;(refine zix (et:=3) (a:=e.2.2) (v:=z4k (ks2.length:Nat)) (py:=xP e.2.2) (q:=z8u 0 ks2) (by kernel_rfl) xG rfl rfl xW rfl rfl rfl ?_)))
         all_goals try (exfalso;first|omega|(simp at *;done))
         all_goals refine z2l 61 1000 ?_
         all_goals exact zD101
       · have hy:=j5 y (by simp)
         have hal:((m++[y]).map zf1).length=m.length+1:=by simp
         have hal2:(m++[y]).length=m.length+1:=by simp
         have hix:(m++[y])[(((((m++[y]).length:Nat):Int)-1)).toNat]? =some y:=by
          exact zD112
         have hse:(m++[y]).set (((((m++[y]).length:Nat):Int)-1)).toNat ((y.1,e.2.1,y.2.2):Arc)=m++[(y.1,e.2.1,y.2.2)]:=by
          exact zD112
         rw[zbm] at ihj'
         by_cases hj:y.2.1+1=e.1∧y.2.2=(ks2.length:Nat)
         · have hyq:(y.1,e.2.1,((ks2.length:Nat):Int))=((y.1,e.2.1,y.2.2):Arc):=by rw[hj.2]
           rw[zAz hj,hyq] at ihj'
           repeat' (first|(apply z14;(refine z0o (z7r (et:=3) (a:=e.2.2) (q:=z8u 0 ks2) (z0:=Value.int .i64 0) (py:=xP e.2.2) (by kernel_rfl) xG (z6m (by kernel_rfl)) rfl rfl rfl xW rfl hget1 hget2 (by decide)) ?_))|(apply z0e;(first|refine z0l (z0j (u:=z1h y.2.1) hix) rfl rfl ?_| refine z0l (z0j (u:=z4k y.2.2) hix) rfl rfl ?_))|(apply z0a;(first|refine z0c (z1t (ys:=es.map xE) rfl (idx he)) rfl rfl ?_| refine z0c (z8t rfl) rfl rfl ?_))|(apply z07;(refine z0l (z8t rfl) rfl rfl ?_))|(apply z1o;(refine z0l (z1f (zbb (by omega) (by omega))) rfl rfl ?_))|(apply z1m;(first|refine z0c (z3g rfl) rfl rfl ?_| refine z4n (g:=xC) e.2.2 rfl ?_| refine z4n (g:=zf1) (e.1,e.2.1,((ks2.length:Nat):Int)) rfl ?_))|(apply z0m;(refine zbe ((y.1,e.2.1,y.2.2):Arc) hix hse ?_))|refine z05 ?_|refine fk (fun _=>?_) (fun _=>?_)|(apply z14;(refine zix (et:=3) (a:=e.2.2) (v:=z4k (ks2.length:Nat)) (py:=xP e.2.2) (q:=z8u 0 ks2) (by kernel_rfl) xG rfl rfl xW rfl rfl rfl ?_))|(refine z1c (fun hg=>?_) (fun hg=>?_)<;> simp only[hg] <;> (try simp only[zA3,zA5,zA6,zA8] at hg)))
           all_goals try (exfalso;omega)
           all_goals refine z2l 61 1000 ?_
           all_goals exact z02 ihj' rfl rfl
         · rw[zAy hj] at ihj'
           repeat' (first|(apply z14;(refine z0o (z7r (et:=3) (a:=e.2.2) (q:=z8u 0 ks2) (z0:=Value.int .i64 0) (py:=xP e.2.2) (by kernel_rfl) xG (z6m (by kernel_rfl)) rfl rfl rfl xW rfl hget1 hget2 (by decide)) ?_))|(apply z0e;(first|refine z0l (z0j (u:=z1h y.2.1) hix) rfl rfl ?_| refine z0l (z0j (u:=z4k y.2.2) hix) rfl rfl ?_))|(apply z0a;(first|refine z0c (z1t (ys:=es.map xE) rfl (idx he)) rfl rfl ?_| refine z0c (z8t rfl) rfl rfl ?_))|(apply z07;(refine z0l (z8t rfl) rfl rfl ?_))|(apply z1o;(refine z0l (z1f (zbb (by omega) (by omega))) rfl rfl ?_))|(apply z1m;(first|refine z0c (z3g rfl) rfl rfl ?_| refine z4n (g:=xC) e.2.2 rfl ?_| refine z4n (g:=zf1) (e.1,e.2.1,((ks2.length:Nat):Int)) rfl ?_))|(apply z0m;(refine zbe ((y.1,e.2.1,y.2.2):Arc) hix hse ?_))|refine z05 ?_|refine fk (fun _=>?_) (fun _=>?_)|(apply z14;(refine zix (et:=3) (a:=e.2.2) (v:=z4k (ks2.length:Nat)) (py:=xP e.2.2) (q:=z8u 0 ks2) (by kernel_rfl) xG rfl rfl xW rfl rfl rfl ?_))|(refine z1c (fun hg=>?_) (fun hg=>?_)<;> simp only[hg] <;> (try simp only[zA3,zA5,zA6,zA8] at hg)))
           all_goals try (exfalso;omega)
           all_goals refine z2l 61 1000 ?_
           all_goals exact zD101
   · obtain rfl:j=es.length:=by omega
     rw[zAs,List.foldl_nil] at j6
     rw[← j6] at i6
     simp only at i6
     have hi2:=(zA1.1 j4).1
     refine z0z 1003 rfl ?_
     by_cases hlim:lim.toNat<ks2.length
     · rw[zAz hlim] at i6
       rw[← i6]
       all_goals exact zD90
     · rw[zAy hlim] at i6
       have ih':=ih (i+1,ks2,⟨F++[fb],A++[arcs]⟩) ⟨by simp only;omega,by simp only;omega,by simp only;omega,by simp[i4],by simp[i5],j7,by rw[← i6];simp only;rw[show lim.toNat+1-(i+1)=n by omega]⟩ (by simp only;omega)
       simp only at ih'
       repeat' (first|(apply z0e;(refine z0l (zhe j4 rfl rfl) rfl rfl ?_))|(apply z07;(refine z0l (z1j rfl (by simp only[zA4];omega)) rfl rfl ?_))|(apply z1m;(first|refine z0c (z3g rfl) rfl rfl ?_| refine z4n (g:=ze2) arcs rfl ?_))|(apply z9y;(refine z9u (g:=boc) (by first|exact rfl|exact⟨_,rfl,rfl,rfl⟩) rfl rfl fb rfl rfl rfl rfl rfl rfl rfl (by decide) (by omega) ?_))|(apply z0t;(refine y8b (first:=[]) (cap:=xA) (ps:=[xP k]) hff (by first|exact rfl|exact⟨_,rfl,rfl,rfl⟩) rfl rfl (hb _ _ _) (by decide) ?_))|(apply z15;(refine zwb (by first|exact rfl|exact⟨_,rfl,rfl,rfl⟩) rfl rfl rfl rfl rfl ?_))|refine z05 ?_|refine fk (fun _=>?_) (fun _=>?_))
       all_goals try (exfalso;omega)
       all_goals refine z2l 119 1001 ?_
       all_goals refine z2l 125 1002 ?_
       all_goals exact z02 ih' rfl rfl
 · obtain rfl:i=ks.length:=by omega
   obtain⟨n,hn⟩:∃ n,lim.toNat+1-ks.length=n+1:=⟨lim.toNat-ks.length,by omega⟩
   rw[hn,exL,zAv (zAj _)] at i6
   simp only at i6
   rw[← i6]
   refine z0z 1001 rfl ?_
   refine z0z 1002 rfl ?_
   all_goals exact zD90
end Go.Proofs.YtmcggompdmngmaaGreatDoor
namespace Go.Proofs.YtmcggompdmngmaaGreatDoor
open Go.Ab Go.Ax Go.Rx
set_option maxHeartbeats 20000000
set_option maxRecDepth 100000
attribute [local irreducible] Run Ops Op1 z13 Val Tr z0d z0w NF Rel z2a z2b
section
variable (lv:List (List Rg)) (f l:Nat) (fo:List Nat) (nu:Bool)
abbrev bsC:List (Nm × Blk):=[((1,4),.box [.ptr (0,14) 0]),((1,14),tbx lv f l fo nu)]
theorem y2j (k:Bool × Nat) (hk:k.2<2 ^ 64) (hl:l<2 ^ 64):z0w Tryz.prog 53 [scP k,.ptr (1,4) 0] (bsC lv f l fo nu) [] (B ((k.1&&nu)||decide (k.2 &&& l≠0))):=by
 refine z10 fun H hH=>?_
 have h4:H 1 4=some (.box [.ptr (0,14) 0]):=hH ((1,4),.box [.ptr (0,14) 0]) (by simp)
 have h14:H 1 14=some (tbx lv f l fo nu):=hH ((1,14),tbx lv f l fo nu) (by simp)
 obtain⟨b,S⟩:=k
 have hfin:(!decide (zds .u64 (S:Nat) (l:Nat)=0))=decide (S &&& l≠0):=by
  rw[zwe hk hl,← decide_not]
  exact decide_eq_decide.2 (by rw[Ne,not_congr];exact_mod_cast Iff.rfl)
 simp only[← hfin]
 refine z0b Tryz.func53 (by kernel_rfl) rfl (by simp) ?_
 dsimp only[Tryz.f53]
 cases b <;> cases nu
 all_goals repeat' (first|(apply z0e;(first|refine z4u h14 ?_| refine z4u h4 ?_))|(apply z1o;(refine z0l z4o rfl rfl ?_))|(apply z3h;(refine z0o z6z ?_))|refine z05 ?_|fail)
 all_goals exact z00 Tryz.func53 _ z18 ⟨rfl,rfl⟩
def z8x (N:Nat):Nat→List (List Rg)→List (List Rg)
 | _,[]=>[]
 | k,r::ls=>if N.testBit k=true then r::z8x N (k+1) ls else z8x N (k+1) ls
theorem zq4 (N:Nat) {lv:List (List Rg)} {k:Nat} {r:List Rg} (hr:lv[k]? =some r):z8x N k (lv.drop k)=(if N.testBit k=true then [r] else [])++z8x N (k+1) (lv.drop (k+1)):=by
 obtain⟨h1,h2⟩:=zA1.1 hr
 rw[List.drop_eq_getElem_cons h1,h2,z8x]
 split <;> simp
theorem z7u (N:Nat):∀ (lv:List (List Rg)) (k:Nat),∀ r∈z8x N k lv,r∈lv
 | [],_,r,h=>by simp[z8x] at h
 | x::ls,k,r,h=>by
  rw[z8x] at h
  split at h
  · rcases zAc.1 h with rfl|h
    · simp
    · exact List.mem_cons_of_mem _ (z7u N ls _ r h)
  · exact List.mem_cons_of_mem _ (z7u N ls _ r h)
theorem zfi (N:Nat):∀ (lv:List (List Rg)) (k:Nat),(z8x N k lv).length≤lv.length
 | [],_=>by simp[z8x]
 | x::ls,k=>by
  have:=zfi N ls (k+1)
  rw[z8x];split <;> simp <;> omega
def nxN (f:Nat) (fo:List Nat) (k:Bool × Nat):Nat:=if k.1=true then f else nxF k.2 0 0 fo
def y3j (N:Nat) (lv:List (List Rg)) (c:Int):Nat:=rdF (fun c l=>inR l c) c N 0 0 lv
def cE (N:Nat) (lv:List (List Rg)) (pts:List Int) (i:Nat):Option (Go.Ax.Edge (Bool × Nat)) :=
 if y3j N lv (pts.getD i 0)=0 then none else some (pts.getD i 0,pts.getD (i+1) 0-1,(false,y3j N lv (pts.getD i 0)))
def zhk (N:Nat) (lv:List (List Rg)):List Int:=zbf (z8x N 0 lv)
def zdr (N:Nat) (lv:List (List Rg)):List (Go.Ax.Edge (Bool × Nat)):=(List.range ((zhk N lv).length-1)).filterMap (cE N lv (zhk N lv))
theorem y1z {M:Nat} (hS:zm0 M) (hM:M≤200000000) (k:Bool × Nat) (hk:k.2<2 ^ 64) (hf:f<2 ^ 64) (hfo:fo.length=lv.length) (hl64:lv.length≤64) (hfx:∀ x∈fo,x<2 ^ 64) (hlr:∀ r∈lv,∀ x∈r,0≤x.1∧x.1≤1114111∧0≤x.2∧x.2≤1114111) (hln:∀ r∈lv,r.length≤200000000)
 (hsz:∀ N:Nat,(z74 (z8x N 0 lv)).length≤M) :
 z0w Tryz.prog 54 [scP k,.ptr (1,4) 0] (bsC lv f l fo nu) [] (.d (.slice ((zdr (nxN f fo k) lv).map sed))):=by
 refine z10 fun H hH=>?_
 have h4:H 1 4=some (.box [.ptr (0,14) 0]):=hH ((1,4),.box [.ptr (0,14) 0]) (by simp)
 have h14:H 1 14=some (tbx lv f l fo nu):=hH ((1,14),tbx lv f l fo nu) (by simp)
 obtain⟨b,S⟩:=k
 have hnx:=zkq (X:=14) lv f l fo nu S hk (by omega) hfx b 2
 change z0w Tryz.prog 55 [.ptr (2,14) 0,I .u64 (S:Nat),B b] [((2,14),tbx lv f l fo nu)] [] (I .u64 ((nxN f fo (b,S):Nat):Int)) at hnx
 have hNl:nxN f fo (b,S)<2 ^ 64:=by
  rw[nxN]
  split
  · exact hf
  · exact zsv S fo 0 0 (by decide) hfx
 generalize nxN f fo (b,S)=N at *
 have hrr:∀ r∈z8x N 0 lv,∀ x∈r,0≤x.1∧x.1≤1114111∧0≤x.2∧x.2≤1114111:=fun r hr=>hlr r (z7u N lv 0 r hr)
 have hal:=zfi N lv 0
 have hcuts:=y5e hS (z8x N 0 lv) (hsz N) hM hrr (by omega) (fun r hr=>hln r (z7u N lv 0 r hr))
 have hpr:=zkm hrr
 have hpl:=zw8 (z8x N 0 lv)
 have hpl2:(zbf (z8x N 0 lv)).length≤200000000:=by have:=y13 (Go.Ax.srt (z74 (z8x N 0 lv)));rw[Go.Ax.zpk] at this;have:=hsz N;rw[zbf];omega
 have hEq:zdr N lv=(List.range ((zhk N lv).length-1)).filterMap (cE N lv (zhk N lv)):=rfl
 rw[hEq]
 change z0d Tryz.prog 56 [.d (lvs (z8x N 0 lv))] (.d (.slice ((zhk N lv).map rcc))) at hcuts
 change ∀ z∈zhk N lv,0≤z∧z≤1114112 at hpr
 change 1≤(zhk N lv).length at hpl
 change (zhk N lv).length≤200000000 at hpl2
 generalize zhk N lv=pts at *
 clear hEq
 refine z0b Tryz.func54 (by kernel_rfl) rfl (by simp) ?_
 dsimp only[Tryz.f54]
 repeat' (first|(apply z0i;(first|refine z2r h14 ?_| refine z2r h4 ?_))|(apply z04;(refine z0q hnx (bkN h14) ?_))|(apply z3h;(refine z0o z6z ?_))|refine z05 ?_|fail)
 all_goals try (exfalso;omega)
 refine z1z 5 1001 48 1 rfl rfl rfl ?_
 refine z0n ?_
 refine z02 (z11 (fun q:Nat × List (List Rg)=>⟨99,[(1,.ptr (2,4) 0),(2,.ptr (0,2) 0),(3,.d (.lit z2t)),(4,I .u64 (N:Nat)),(5,.ref (0,1001)),(23,.d (lvs lv)),(24,I .i64 lv.length),(25,I .i64 (q.1:Nat))],[(1001,.row 48 1 (q.2.map fun r=>[rgs r]))],H⟩) (fun q=>q.1≤lv.length∧q.2.length≤q.1∧q.2++z8x N q.1 (lv.drop q.1)=z8x N 0 lv) (fun q=>lv.length-q.1) ?_ (0,[]) ⟨zAf _,zAj _,rfl⟩) rfl rfl
 rintro⟨i,acc⟩ ⟨i1,i2,i3⟩ ih
 simp only at i1 i2 i3 ih ⊢
 by_cases hlt:i<lv.length
 · obtain⟨r,hr⟩:∃ r,lv[i]? =some r:=⟨_,zA0 hlt⟩
   have hbt:=zoz (S:=N) (i:=i) hNl (by omega)
   rw[zq4 N hr] at i3
   by_cases htb:N.testBit i=true
   · rw[zAz htb] at hbt i3
     have ih':=ih (i+1,acc++[r]) ⟨by simp only;omega,by simp;omega,by simp only;rw[← i3,zAl]⟩ (by simp only;omega)
     repeat' (first|(apply z0a;(refine z0c (z1t (ys:=lv.map fun r=>[rgs r]) rfl (idx (g:=fun r=>[rgs r]) hr)) rfl rfl ?_))|(apply z0v;(first|refine z0c (z9j (by omega)) rfl rfl ?_| refine z0c z4o rfl rfl ?_))|(apply z1m;(refine z4n (g:=fun r:List Rg=>[rgs r]) r rfl ?_))|refine z05 ?_|refine fk (fun _=>?_) (fun _=>?_))
     all_goals try (exfalso;omega)
     all_goals refine z2l 38 1001 ?_
     all_goals exact z02 ih' rfl rfl
   · rw[zAy htb] at hbt i3
     have ih':=ih (i+1,acc) ⟨by simp only;omega,by simp only;omega,by simp only;rw[← i3,List.nil_append]⟩ (by simp only;omega)
     repeat' (first|(apply z0a;(refine z0c (z1t (ys:=lv.map fun r=>[rgs r]) rfl (idx (g:=fun r=>[rgs r]) hr)) rfl rfl ?_))|(apply z0v;(first|refine z0c (z9j (by omega)) rfl rfl ?_| refine z0c z4o rfl rfl ?_))|refine z05 ?_|refine fk (fun _=>?_) (fun _=>?_))
     all_goals exact zD11
 · obtain rfl:i=lv.length:=by omega
   rw[zAs,z8x,List.append_nil] at i3
   subst i3
   clear ih
   refine z0z 1001 rfl ?_
   repeat' (first|(apply z04;(refine z1w hcuts ?_))|refine z05 ?_|refine fk (fun _=>?_) (fun _=>?_))
   all_goals try (exfalso;omega)
   refine z1z 8 1002 121 4 rfl rfl rfl ?_
   refine z0n ?_
   refine z02 (z11 (fun q:Nat=>⟨99,[(1,.ptr (2,4) 0),(3,.d (.lit z2t)),(4,I .u64 (N:Nat)),(8,.ref (0,1002)),(9,.d (.slice (pts.map rcc))),(44,I .i64 ((pts.length:Int)-1)),(45,I .i64 (q:Nat))],[(1002,.row 121 4 (((List.range q).filterMap (cE N lv pts)).map sed))],H⟩) (fun q=>q≤pts.length-1) (fun q=>pts.length-1-q) ?_ 0 (zAf _)) rfl rfl
   intro i hi ih
   by_cases hlt2:i<pts.length-1
   · obtain⟨x,hx⟩:∃ x,pts[i]? =some x:=⟨_,zA0 (by omega)⟩
     obtain⟨y,hy⟩:∃ y,pts[i+1]? =some y:=⟨_,zA0 (by omega)⟩
     have hyi:pts[(((i:Nat):Int)+1).toNat]? =some y:=by rw[show (((i:Nat):Int)+1).toNat=i+1 by omega];exact hy
     have hxr:=hpr x (zA2 hx)
     have hyr:=hpr y (zA2 hy)
     have hfl:=z9q (cE N lv pts) (List.range i)
     rw[List.length_range] at hfl
     have ih':=ih (i+1) (by omega) (by omega)
     have hstep:(List.range (i+1)).filterMap (cE N lv pts)=(List.range i).filterMap (cE N lv pts)++(cE N lv pts i).toList:=by
      rw[List.range_succ,List.filterMap_append];simp[List.filterMap_cons];cases cE N lv pts i <;> rfl
     rw[hstep,cE,zd9 hx,zd9 hy] at ih'
     clear ih hstep
     generalize (List.range i).filterMap (cE N lv pts)=out at *
     obtain⟨m,hm⟩:∃ m,y3j N lv x=m:=⟨_,rfl⟩
     have hml:m<2 ^ 64:=by rw[← hm];exact zq2 _ _ _ hl64 (by decide)
     rw[hm] at ih'
     rw[y3j] at hm
     repeat' (first|(apply z0i;(first|refine z2r h14 ?_| refine z2r h4 ?_))|refine z05 ?_|refine fk (fun _=>?_) (fun _=>?_))
     all_goals try (exfalso;first|omega|(simp at *;done))
     refine z0n ?_
     refine z02 (z11 (fun q:Nat × Nat=>⟨99,[(1,.ptr (2,4) 0),(3,.d (.lit z2t)),(4,I .u64 (N:Nat)),(8,.ref (0,1002)),(9,.d (.slice (pts.map rcc))),(10,I .i64 (i:Nat)),(11,.ptr (0,11) 0),(44,I .i64 ((pts.length:Int)-1)),(45,I .i64 (i:Nat)),(52,.d (lvs lv)),(53,I .i64 lv.length),(54,I .i64 (q.1:Nat))],[(1002,.row 121 4 (out.map sed)),(11,.box [B false,I .u64 (q.2:Nat)])],H⟩) (fun q=>q.1≤lv.length∧q.2<2 ^ 64∧rdF (fun c l=>inR l c) x N q.1 q.2 (lv.drop q.1)=m) (fun q=>lv.length-q.1) ?_ (0,0) ⟨zAf _,by decide,hm⟩) rfl rfl
     rintro⟨k,B'⟩ ⟨n1,n2,n3⟩ ihn
     simp only at n1 n2 n3 ihn ⊢
     by_cases hk2:k<lv.length
     · obtain⟨r,hr⟩:∃ r,lv[k]? =some r:=⟨_,zA0 hk2⟩
       have hcl:=zk4 r (by have:=hln r (zA2 hr);omega) x
       rw[zn0 _ _ _ hr] at n3
       have hbt:=zoz (S:=N) (i:=k) hNl (by omega)
       have hsh:=y0n (i:=k) (by omega)
       have hp2:2 ^ k<2 ^ 64:=Nat.pow_lt_pow_right (by decide) (by omega)
       have hor:=zyu n2 hp2
       rw[← hsh] at hor
       rw[zrt] at hcl
       by_cases htb:N.testBit k=true
       · rw[zAz htb] at hbt
         cases hin:inR r x with
         | true =>
          rw[zAz ⟨htb,hin⟩] at n3
          rw[hin] at hcl
          have ihn':=ihn (k+1,B' ||| 2 ^ k) ⟨by simp only;omega,Nat.or_lt_two_pow n2 hp2,n3⟩ (by simp only;omega)
          dsimp only at ihn'
          rw[← hor] at ihn'
          all_goals exact zD36
         | false =>
          rw[zAy (fun h=>by rw[hin] at h;cases h.2)] at n3
          rw[hin] at hcl
          have ihn':=ihn (k+1,B') ⟨by simp only;omega,n2,n3⟩ (by simp only;omega)
          repeat' (first|(apply z0a;(first|refine z0c (z1t (ys:=lv.map fun r=>[rgs r]) rfl (idx (g:=fun r=>[rgs r]) hr)) rfl rfl ?_| refine z0c (z1t (ys:=pts.map rcc) rfl (idx (g:=rcc) hx)) rfl rfl ?_))|(apply z07;(refine z0l (z1t (ys:=pts.map rcc) rfl (idx (g:=rcc) hx)) rfl rfl ?_))|(apply z0v;(first|refine z0c (z9j (by omega)) rfl rfl ?_| refine z0c z4o rfl rfl ?_))|(apply z04;(refine z1w hcl ?_))|refine z05 ?_|refine fk (fun _=>?_) (fun _=>?_))
          all_goals try (exfalso;omega)
          all_goals exact z02 ihn' rfl rfl
       · rw[zAy htb] at hbt
         rw[zAy (fun h=>htb h.1)] at n3
         have ihn':=ihn (k+1,B') ⟨by simp only;omega,n2,n3⟩ (by simp only;omega)
         all_goals exact zD36
     · obtain rfl:k=lv.length:=by omega
       rw[zAs,rdF] at n3
       subst n3
       clear ihn
       by_cases hz:B'=0
       · subst hz
         rw[zAz rfl,Option.toList_none,List.append_nil] at ih'
         repeat' (first|refine z05 ?_|refine fk (fun _=>?_) (fun _=>?_))
         all_goals try (exfalso;first|omega|(simp at *;done))
         all_goals exact z02 ih' rfl rfl
       · have hzi:¬ ((B':Nat):Int)=0:=by omega
         rw[zAy hz,Option.toList_some] at ih'
         repeat' (first|(apply z07;(first|refine z0l (z1t (ys:=pts.map rcc) rfl (idx (g:=rcc) hx)) rfl rfl ?_| refine z0l (z1t (ys:=pts.map rcc) rfl (zoj (g:=rcc) hyi)) rfl rfl ?_))|(apply z1o;(refine z0l (z1e (zbb (by omega) (by omega))) rfl rfl ?_))|(apply z9y;(refine z9u (g:=sed) (by first|exact rfl|exact⟨_,rfl,rfl,rfl⟩) rfl rfl ((x,y-1,(false,B')):Go.Ax.Edge (Bool × Nat)) rfl rfl rfl rfl rfl rfl rfl (by decide) (by omega) ?_))|refine z05 ?_|refine fk (fun _=>?_) (fun _=>?_))
         all_goals try (exfalso;first|omega|(simp at *;done))
         all_goals refine z2l 96 1002 ?_
         all_goals exact z02 ih' rfl rfl
   · obtain rfl:i=pts.length-1:=by omega
     clear ih
     repeat' (first|refine z05 ?_|refine fk (fun _=>?_) (fun _=>?_))
     all_goals try (exfalso;omega)
     all_goals refine z0z 1002 rfl ?_
     all_goals exact z00 Tryz.func54 _ z18 ⟨rfl,rfl⟩
end
theorem zhb {N:Nat} {lv:List (List Rg)} {e:Go.Ax.Edge (Bool × Nat)} (h:e∈zdr N lv):∃ i x y,(zhk N lv)[i]? =some x∧(zhk N lv)[i+1]? =some y∧e=(x,y-1,(false,y3j N lv x))∧y3j N lv x≠0:=by
 rw[zdr,List.mem_filterMap] at h
 obtain⟨i,hi,he⟩:=h
 rw[List.mem_range] at hi
 obtain⟨x,hx⟩:∃ x,(zhk N lv)[i]? =some x:=⟨_,zA0 (by omega)⟩
 obtain⟨y,hy⟩:∃ y,(zhk N lv)[i+1]? =some y:=⟨_,zA0 (by omega)⟩
 rw[cE,zd9 hx,zd9 hy] at he
 split at he
 · cases he
 · rename_i hu
   simp only[zAh] at he
   exact⟨i,x,y,hx,hy,he.symm,hu⟩
theorem zvk {N:Nat} {lv:List (List Rg)} (hl64:lv.length≤64) (hlr:∀ r∈lv,∀ x∈r,0≤x.1∧x.1≤1114111∧0≤x.2∧x.2≤1114111):edE (zdr N lv)∧∀ e∈zdr N lv,e.2.2.2<2 ^ 64:=by
 have hr:=zkm (L:=z8x N 0 lv) fun r h=>hlr r (z7u N lv 0 r h)
 have hlt:=y0r (z8x N 0 lv)
 have hlen:=zs4 (B:=1114112) hlt (fun z hz=>by have:=hr z hz;omega)
 refine⟨⟨?_,fun e he=>?_⟩,fun e he=>?_⟩
 · have:=z9q (cE N lv (zhk N lv)) (List.range ((zhk N lv).length-1))
   rw[List.length_range] at this
   rw[zdr];rw[zhk] at *;omega
 · obtain⟨i,x,y,hx,hy,rfl,_⟩:=zhb he
   have h1:=hr x (zA2 hx)
   have h2:=hr y (zA2 hy)
   have:x<y:=by
    obtain⟨a1,a2⟩:=zA1.1 hx
    obtain⟨b1,b2⟩:=zA1.1 hy
    have:=List.pairwise_iff_getElem.1 hlt i (i+1) a1 b1 (by omega)
    rw[← a2,← b2];exact this
   simp only;omega
 · obtain⟨i,x,y,hx,hy,rfl,_⟩:=zhb he
   simp only;exact zq2 _ _ _ hl64 (by decide)
def zwy (lv:List (List Rg)) (f l:Nat) (fo:List Nat) (nu:Bool):Option Au:=exL (fun k=>(k.1&&nu)||decide (k.2 &&& l≠0)) (fun k=>zdr (nxN f fo k) lv) 256 257 0 [(true,0)] ⟨[],[]⟩
def zry (e:Rx):Option Au:=zwy (bd e tb0).1.lv (bd e tb0).2.f (bd e tb0).2.l (bd e tb0).1.fo (bd e tb0).2.nu
theorem zr4 {M:Nat} (hS:zm0 M) (hM:M≤200000000) (e:Rx) (hf:fit e) (h0:val e=0) (hbd:zgx 92 [.d (Drx e)] tb0 (bd e tb0)) (hsm:(bd e tb0).1.fo.length=(bd e tb0).1.lv.length∧(bd e tb0).1.lv.length≤64∧(∀ x∈(bd e tb0).1.fo,x<2 ^ 64)∧(bd e tb0).2.f<2 ^ 64∧(bd e tb0).2.l<2 ^ 64) (hlr:∀ r∈(bd e tb0).1.lv,∀ x∈r,0≤x.1∧x.1≤1114111∧0≤x.2∧x.2≤1114111) (hln:∀ r∈(bd e tb0).1.lv,r.length≤200000000)
 (hsz:∀ N:Nat,(z74 (z8x N 0 (bd e tb0).1.lv)).length≤M):z0d Tryz.prog 21 [.d (Drx e)] (y7e (zry e)):=by
 refine z1a fun H=>?_
 have hval:=z6c e hf
 have hof:=y9o e hbd
 clear hbd
 rw[h0] at hval
 rw[zry]
 dsimp only[ofB] at hof
 generalize hB:bd e tb0=r1 at *
 obtain⟨t1,p⟩:=r1
 obtain⟨lv,fo⟩:=t1
 obtain⟨hfo,hl64,hfx,pf,pl⟩:=hsm
 simp only at hfo hl64 hfx pf pl hof hlr hln hsz ⊢
 obtain⟨f,l,nu⟩:=p
 simp only at pf pl hof ⊢
 have hex:z0w Tryz.prog 58 [scP (true,0),.fn (.func 53) [] [.ptr (0,4) 0],.fn (.func 54) [] [.ptr (0,4) 0],I .i64 256] [((0,4),.box [.ptr (0,14) 0]),((0,14),tbx lv f l fo nu)] [] (exR (zwy lv f l fo nu)):=z10 fun H hH =>
  znt (.box [.ptr (0,14) 0]) (tbx lv f l fo nu) (fun k=>k.2<2 ^ 64) _ _ (true,0) 256 (by decide) (by decide) (by decide)
   (fun k hk=>y2j lv f l fo nu k hk pl) (fun k hk=>y1z lv f l fo nu hS hM k hk pf hfo hl64 hfx hlr hln hsz) (fun k hk=>zvk hl64 hlr) H (hH ((0,4),.box [.ptr (0,14) 0]) (by simp)) (hH ((0,14),tbx lv f l fo nu) (by simp))
 generalize zwy lv f l fo nu=o at *
 obtain⟨op,mn,mx,rs,ks⟩:=e
 rw[z42] at hval hof ⊢
 cases o with
 | some x =>
  exact zD37
 | none =>
  exact zD37
end Go.Proofs.YtmcggompdmngmaaGreatDoor
