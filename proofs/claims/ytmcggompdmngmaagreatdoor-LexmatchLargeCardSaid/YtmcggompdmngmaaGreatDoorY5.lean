/- A part of the proof: A14 to A31. -/
import Derived.Test.YtmcggompdmngmaaGreatDoorYc
import Derived.Test.YtmcggompdmngmaaGreatDoorY3
import Derived.Test.YtmcggompdmngmaaGreatDoorY4
import Derived.Test.YtmcggompdmngmaaGreatDoorYv
set_option linter.all false
namespace Go.Proofs.YtmcggompdmngmaaGreatDoor
open Go.Ab Go.Ax
set_option maxHeartbeats 20000000
set_option maxRecDepth 100000
attribute [local irreducible] Run Ops Op1 z0u Val Tr z09 z0q NF Rel z1v z1u
namespace XS
abbrev xK:Type:=Bool × Nat
abbrev xC (x:Bool × Nat):List D:=scc x
abbrev xP (x:Bool × Nat):PV:=scP x
abbrev xE (e:Go.Ax.Edge (Bool × Nat)):List D:=sed e
abbrev xM (ks:List (Bool × Nat)):Blk:=.mp ((z8p 0 ks).map fun p=>(zux p.1,p.2))
abbrev xT:TypeId:=110
abbrev xF:FuncId:=53
abbrev xH:FuncId:=54
abbrev xA:List PV:=[.ptr (1,4) 0]
abbrev xB:List PV:=[.ptr (1,4) 0]
theorem xG:zpm Tryz.prog 110 zux:=ycq
theorem xW {a:Bool × Nat}:∀ β w own v,PR β w own (scP a) v→v=zux a:=ycv
theorem xN:type_of% @Tryz.func58:=@Tryz.func58
end XS
open XS in
theorem zow (b1 b2:Blk) (ok:Bool × Nat→Prop) (fin:Bool × Nat→Bool) (edg:Bool × Nat→List (Go.Ax.Edge (Bool × Nat))) (first:Bool × Nat) (lim:Int) (hl0:1≤lim) (hl1:lim≤2000000) (hok0:ok first)
 (hfin:∀ k,ok k→z0q Tryz.prog 53 [scP k,.ptr (1,4) 0] [((1,4),b1),((1,14),b2)] [] (B (fin k))) (hedg:∀ k,ok k→z0q Tryz.prog 54 [scP k,.ptr (1,4) 0] [((1,4),b1),((1,14),b2)] [] (.d (.slice ((edg k).map sed)))) (hE:∀ k,ok k→edE (edg k)∧∀ e∈edg k,ok e.2.2)
 (H:Hf) (hb1:H 0 4=some b1) (hb2:H 0 14=some b2) :
 Ab.Spec Tryz.prog 58 [scP first,.fn (.func 53) [] [.ptr (0,4) 0],.fn (.func 54) [] [.ptr (0,4) 0],I .i64 lim] H (fun r H'=>r=.v (exR (exL fin edg lim.toNat (lim.toNat+1) 0 [first] ⟨[],[]⟩))∧H'=H):=by
 have hb:∀ (n:Nat) (tm:List (Nat × PV)) (hp:Hp),BkE ⟨n,tm,hp,H⟩ [((1,4),b1),((1,14),b2)]:=fun n tm hp=>by simp[BkE,z3m,push,hb1,hb2]
 refine z06 Tryz.func58 (by kernel_rfl) rfl (by simp) ?_
 dsimp only[Tryz.f58]
 repeat' (first|(apply z10;(first|refine zpz (by decide) rfl ?_|refine y4s (et:=3) (a:=first) (v:=z2g 0) (py:=scP first) (q:=([]:List ((Bool × Nat) × D))) (by kernel_rfl) ycq rfl rfl ycv rfl rfl rfl ?_))|(apply z2c;(refine z0h z4x ?_))|(apply y2e;(refine y19 rfl rfl rfl rfl rfl rfl rfl rfl rfl (by decide) ?_))|refine z01 ?_|fail)
 refine z2y 24 1000 ?_
 refine z3j 10 0 1001 4 1 rfl rfl rfl rfl ?_
 refine z3j 10 1 1002 96 1 rfl rfl rfl rfl ?_
 generalize hres:exL fin edg lim.toNat (lim.toNat+1) 0 [first] ⟨[],[]⟩=res
 refine z0d ?_
 refine z00 (z0p (fun q:Nat × List (Bool × Nat) × Au=>⟨128,[(1,.fn (.func 53) [] [.ptr (1,4) 0]),(2,.fn (.func 54) [] [.ptr (1,4) 0]),(3,I .i64 lim),(8,.ptr (0,8) 0),(10,.ptr (0,10) 0),(11,.ref (0,20)),(12,.ref (0,1000)),(13,I .i64 (q.1:Nat))],[(20,mpS q.2.1),(1000,.row 110 2 (q.2.1.map scc)),(10,.box [.ref (0,1001),.ref (0,1002)]),(1001,.row 4 1 (q.2.2.F.map boc)),(1002,.row 96 1 (q.2.2.A.map ze4)),(8,.box [.d (.lit z2w),.d (.lit z2w)])],H⟩) (fun q=>q.1≤q.2.1.length∧1≤q.2.1.length∧q.2.1.length≤lim.toNat∧q.2.2.F.length=q.1∧q.2.2.A.length=q.1∧(∀ x∈q.2.1,ok x)∧exL fin edg lim.toNat (lim.toNat+1-q.1) q.1 q.2.1 q.2.2=res) (fun q=>lim.toNat+1-q.1) ?_ (0,[first],⟨[],[]⟩) ⟨zAf _,zAj _,by simp only[zAn];omega,rfl,rfl,fun x hx=>by rw[zAq] at hx;rw[hx];exact hok0,hres⟩) rfl rfl
 rintro⟨i,ks,⟨F,A⟩⟩ ⟨i1,i2,i3,i4,i5,i7,i6⟩ ih
 simp only at i1 i2 i3 i4 i5 i6 i7 ih ⊢
 by_cases hlt:i<ks.length
 · obtain⟨k,hk⟩:∃ k,ks[i]? =some k:=⟨_,zA0 hlt⟩
   obtain⟨n,hn⟩:∃ n,lim.toNat+1-i=n+1:=⟨lim.toNat-i,by omega⟩
   rw[hn,exL,hk] at i6
   simp only at i6
   have hok:=i7 k (zA2 hk)
   have hff:=hfin k hok
   have hee:=hedg k hok
   obtain⟨⟨hE1,hE2⟩,hE3⟩:=hE k hok
   generalize edg k=es at *
   generalize fin k=fb at *
   repeat' (first|(apply z13;(refine z08 (zj8 hk rfl rfl) rfl rfl ?_))|(apply z04;(refine z08 (z8t rfl) rfl rfl ?_))|(apply z1k;(refine z08 (z4d rfl) rfl rfl ?_))|(apply z03;(refine zr0 (first:=[]) (cap:=xB) (ps:=[xP k]) hee rfl rfl (hb _ _ _) (by decide) ?_))|refine z01 ?_|refine fk (fun _=>?_) (fun _=>?_))
   all_goals try (exfalso;simp only[zA4] at *;omega)
   refine z2v 14 1003 98 3 rfl rfl rfl ?_
   refine z0d ?_
   refine z00 (z0p (fun q:Nat × List xK × List Arc=>⟨128,[(1,.fn (.func xF) [] xA),(2,.fn (.func xH) [] xB),(3,I .i64 lim),(8,.ptr (0,8) 0),(10,.ptr (0,10) 0),(11,.ref (0,20)),(12,.ref (0,1000)),(13,I .i64 (i:Nat)),(14,.ref (0,1003)),(36,.d (.slice (es.map xE))),(37,I .i64 es.length),(38,I .i64 (q.1:Nat))],[(20,xM q.2.1),(1000,.row xT 2 (q.2.1.map xC)),(1003,.row 98 3 (q.2.2.map zf4)),(10,.box [.ref (0,1001),.ref (0,1002)]),(1001,.row 4 1 (F.map boc)),(1002,.row 96 1 (A.map ze4)),(8,.box [.d (.lit z2w),.d (.lit z2w)])],H⟩) (fun q=>q.1≤es.length∧q.2.2.length≤q.1∧q.2.1.length≤ks.length+q.1∧q.2.1[i]? =some k∧(∀ y∈q.2.2,0≤y.2.1∧y.2.1≤1114111)∧(∀ x∈q.2.1,ok x)∧(es.drop q.1).foldl zbn q.2=es.foldl zbn (ks,[])) (fun q=>es.length-q.1) ?_ (0,ks,[]) ⟨zAf _,zAj _,zAj _,hk,by simp,i7,rfl⟩) rfl rfl
   rintro⟨j,ks2,arcs⟩ ⟨j1,j2,j3,j4,j5,j7,j6⟩ ihj
   simp only at j1 j2 j3 j4 j5 j6 j7 ihj ⊢
   by_cases hjl:j<es.length
   · obtain⟨e,he⟩:∃ e,es[j]? =some e:=⟨_,zA0 hjl⟩
     obtain⟨r1,r2,r3⟩:=hE2 e (zA2 he)
     rw[drop_cons he,List.foldl_cons,zbn] at j6
     simp only at j6
     have hal:=zze ks2 e.2.2
     have hln:=y45 arcs e.1 e.2.1 (z5u e.2.2 ks2:Nat)
     have ihj':=ihj (j+1,za3 ks2 e.2.2,ext arcs e.1 e.2.1 (z5u e.2.2 ks2:Nat)) ⟨by simp only;omega,by simp only;omega,by simp only;omega,by simp only;obtain⟨x,hx⟩:=zc6 ks2 e.2.2;rw[hx,zAb (zA1.1 j4).1];exact j4,fun y hy=>by
      rcases ext_mem hy with h|h
      · omega
      · exact j5 y h,fun x hx=>by
      rcases zus hx with h|h
      · rw[h];exact hE3 e (zA2 he)
      · exact j7 x h,j6⟩ (by simp only;omega)
     have hget:=zn9 e.2.2 ks2 0
     clear ihj hal
     by_cases hknown:e.2.2∈ks2
     · rw[za3,zAz hknown] at ihj'
       rw[zAz hknown,Nat.zero_add] at hget
       have hget1:(ze1 (z8p 0 ks2) e.2.2).getD (.lit (.int .i64 0))=z2g (z5u e.2.2 ks2:Nat):=by rw[hget];rfl
       have hget2:(ze1 (z8p 0 ks2) e.2.2).isSome=true:=by rw[hget];rfl
       generalize z5u e.2.2 ks2=qv at *
       rcases y5v arcs with rfl|⟨m,y,rfl⟩
       · rw[ext_nil] at ihj'
         repeat' (first|(apply z10;(refine z0h (z84 (et:=3) (a:=e.2.2) (q:=z8p 0 ks2) (z0:=Value.int .i64 0) (py:=xP e.2.2) (by kernel_rfl) xG (z6n (by kernel_rfl)) rfl rfl rfl xW rfl hget1 hget2 (by decide)) ?_))|(apply z04;(refine z08 (z1f (ys:=es.map xE) rfl (idx he)) rfl rfl ?_))|(apply z1k;(first|refine z08 (z3a rfl) rfl rfl ?_| refine z7d (g:=zf4) rfl rfl (e.1,e.2.1,((qv:Nat):Int)) rfl rfl rfl rfl rfl rfl rfl (by decide) (by simp) ?_))|refine z01 ?_|refine fk (fun _=>?_) (fun _=>?_))
         all_goals try (exfalso;first|omega|(simp at *;done))
         all_goals skip
         all_goals exact zD92
       · have hy:=j5 y (by simp)
         have hal:((m++[y]).map zf4).length=m.length+1:=by simp
         have hal2:(m++[y]).length=m.length+1:=by simp
         have hix:(m++[y])[(((((m++[y]).length:Nat):Int)-1)).toNat]? =some y:=by
          exact zD101
         have hse:(m++[y]).set (((((m++[y]).length:Nat):Int)-1)).toNat ((y.1,e.2.1,y.2.2):Arc)=m++[(y.1,e.2.1,y.2.2)]:=by
          exact zD101
         rw[z9b] at ihj'
         by_cases hj:y.2.1+1=e.1∧y.2.2=(qv:Nat)
         · have hyq:(y.1,e.2.1,((qv:Nat):Int))=((y.1,e.2.1,y.2.2):Arc):=by rw[hj.2]
           rw[zAz hj,hyq] at ihj'
           repeat' (first|(apply z10;(refine z0h (z84 (et:=3) (a:=e.2.2) (q:=z8p 0 ks2) (z0:=Value.int .i64 0) (py:=xP e.2.2) (by kernel_rfl) xG (z6n (by kernel_rfl)) rfl rfl rfl xW rfl hget1 hget2 (by decide)) ?_))|(apply z0c;(first|refine z0f (z0i (u:=z11 y.2.1) hix) rfl rfl ?_| refine z0f (z0i (u:=z2g y.2.2) hix) rfl rfl ?_))|(apply z04;(first|refine z08 (z1f (ys:=es.map xE) rfl (idx he)) rfl rfl ?_| refine z08 (z8t rfl) rfl rfl ?_))|(apply z05;(refine z0f (z8t rfl) rfl rfl ?_))|(apply z1e;(refine z0f (z18 (ze7 (by omega) (by omega))) rfl rfl ?_))|(apply z1k;(first|refine z08 (z3a rfl) rfl rfl ?_| refine z6p (g:=zf4) (e.1,e.2.1,((qv:Nat):Int)) rfl ?_))|(apply z1q;(refine zch ((y.1,e.2.1,y.2.2):Arc) hix hse ?_))|refine z01 ?_|refine fk (fun _=>?_) (fun _=>?_)|(refine z19 (fun hg=>?_) (fun hg=>?_)<;> simp only[hg] <;> (try simp only[zA3,zA5,zA6,zA8] at hg)))
           all_goals try (exfalso;omega)
           all_goals skip
           all_goals exact z00 ihj' rfl rfl
         · rw[zAy hj] at ihj'
           repeat' (first|(apply z10;(refine z0h (z84 (et:=3) (a:=e.2.2) (q:=z8p 0 ks2) (z0:=Value.int .i64 0) (py:=xP e.2.2) (by kernel_rfl) xG (z6n (by kernel_rfl)) rfl rfl rfl xW rfl hget1 hget2 (by decide)) ?_))|(apply z0c;(first|refine z0f (z0i (u:=z11 y.2.1) hix) rfl rfl ?_| refine z0f (z0i (u:=z2g y.2.2) hix) rfl rfl ?_))|(apply z04;(first|refine z08 (z1f (ys:=es.map xE) rfl (idx he)) rfl rfl ?_| refine z08 (z8t rfl) rfl rfl ?_))|(apply z05;(refine z0f (z8t rfl) rfl rfl ?_))|(apply z1e;(refine z0f (z18 (ze7 (by omega) (by omega))) rfl rfl ?_))|(apply z1k;(first|refine z08 (z3a rfl) rfl rfl ?_| refine z6p (g:=zf4) (e.1,e.2.1,((qv:Nat):Int)) rfl ?_))|(apply z1q;(refine zch ((y.1,e.2.1,y.2.2):Arc) hix hse ?_))|refine z01 ?_|refine fk (fun _=>?_) (fun _=>?_)|(refine z19 (fun hg=>?_) (fun hg=>?_)<;> simp only[hg] <;> (try simp only[zA3,zA5,zA6,zA8] at hg)))
           all_goals try (exfalso;omega)
           all_goals skip
           all_goals exact zD92
     · rw[za3,zAy hknown,z7t hknown] at ihj'
       rw[z7t hknown] at hln
       rw[zAy hknown] at hget
       have hget1:(ze1 (z8p 0 ks2) e.2.2).getD (.lit (.int .i64 0))=z2g 0:=by rw[hget];rfl
       have hget2:(ze1 (z8p 0 ks2) e.2.2).isSome=false:=by rw[hget];rfl
       have hput:=zxy hknown
       dsimp only[xM] at ihj'
       rw[← hput] at ihj'
       rcases y5v arcs with rfl|⟨m,y,rfl⟩
       · rw[ext_nil] at ihj'
         repeat' (first|(apply z10;(refine z0h (z84 (et:=3) (a:=e.2.2) (q:=z8p 0 ks2) (z0:=Value.int .i64 0) (py:=xP e.2.2) (by kernel_rfl) xG (z6n (by kernel_rfl)) rfl rfl rfl xW rfl hget1 hget2 (by decide)) ?_))|(apply z04;(refine z08 (z1f (ys:=es.map xE) rfl (idx he)) rfl rfl ?_))|(apply z1k;(first|refine z08 (z3a rfl) rfl rfl ?_| refine z6p (g:=xC) e.2.2 rfl ?_| refine z7d (g:=zf4) rfl rfl (e.1,e.2.1,((ks2.length:Nat):Int)) rfl rfl rfl rfl rfl rfl rfl (by decide) (by simp) ?_))|refine z01 ?_|refine fk (fun _=>?_) (fun _=>?_)|(apply z10;(refine zkk (et:=3) (a:=e.2.2) (v:=z2g (ks2.length:Nat)) (py:=xP e.2.2) (q:=z8p 0 ks2) (by kernel_rfl) xG rfl rfl xW rfl rfl rfl ?_)))
         all_goals try (exfalso;first|omega|(simp at *;done))
         all_goals refine z2y 61 1000 ?_
         all_goals exact zD92
       · have hy:=j5 y (by simp)
         have hal:((m++[y]).map zf4).length=m.length+1:=by simp
         have hal2:(m++[y]).length=m.length+1:=by simp
         have hix:(m++[y])[(((((m++[y]).length:Nat):Int)-1)).toNat]? =some y:=by
          exact zD101
         have hse:(m++[y]).set (((((m++[y]).length:Nat):Int)-1)).toNat ((y.1,e.2.1,y.2.2):Arc)=m++[(y.1,e.2.1,y.2.2)]:=by
          exact zD101
         rw[z9b] at ihj'
         by_cases hj:y.2.1+1=e.1∧y.2.2=(ks2.length:Nat)
         · have hyq:(y.1,e.2.1,((ks2.length:Nat):Int))=((y.1,e.2.1,y.2.2):Arc):=by rw[hj.2]
           rw[zAz hj,hyq] at ihj'
           repeat' (first|(apply z10;(refine z0h (z84 (et:=3) (a:=e.2.2) (q:=z8p 0 ks2) (z0:=Value.int .i64 0) (py:=xP e.2.2) (by kernel_rfl) xG (z6n (by kernel_rfl)) rfl rfl rfl xW rfl hget1 hget2 (by decide)) ?_))|(apply z0c;(first|refine z0f (z0i (u:=z11 y.2.1) hix) rfl rfl ?_| refine z0f (z0i (u:=z2g y.2.2) hix) rfl rfl ?_))|(apply z04;(first|refine z08 (z1f (ys:=es.map xE) rfl (idx he)) rfl rfl ?_| refine z08 (z8t rfl) rfl rfl ?_))|(apply z05;(refine z0f (z8t rfl) rfl rfl ?_))|(apply z1e;(refine z0f (z18 (ze7 (by omega) (by omega))) rfl rfl ?_))|(apply z1k;(first|refine z08 (z3a rfl) rfl rfl ?_| refine z6p (g:=xC) e.2.2 rfl ?_| refine z6p (g:=zf4) (e.1,e.2.1,((ks2.length:Nat):Int)) rfl ?_))|(apply z1q;(refine zch ((y.1,e.2.1,y.2.2):Arc) hix hse ?_))|refine z01 ?_|refine fk (fun _=>?_) (fun _=>?_)|(apply z10;(refine zkk (et:=3) (a:=e.2.2) (v:=z2g (ks2.length:Nat)) (py:=xP e.2.2) (q:=z8p 0 ks2) (by kernel_rfl) xG rfl rfl xW rfl rfl rfl ?_))|(refine z19 (fun hg=>?_) (fun hg=>?_)<;> simp only[hg] <;> (try simp only[zA3,zA5,zA6,zA8] at hg)))
           all_goals try (exfalso;omega)
           all_goals refine z2y 61 1000 ?_
           all_goals exact z00 ihj' rfl rfl
         · rw[zAy hj] at ihj'
           repeat' (first|(apply z10;(refine z0h (z84 (et:=3) (a:=e.2.2) (q:=z8p 0 ks2) (z0:=Value.int .i64 0) (py:=xP e.2.2) (by kernel_rfl) xG (z6n (by kernel_rfl)) rfl rfl rfl xW rfl hget1 hget2 (by decide)) ?_))|(apply z0c;(first|refine z0f (z0i (u:=z11 y.2.1) hix) rfl rfl ?_| refine z0f (z0i (u:=z2g y.2.2) hix) rfl rfl ?_))|(apply z04;(first|refine z08 (z1f (ys:=es.map xE) rfl (idx he)) rfl rfl ?_| refine z08 (z8t rfl) rfl rfl ?_))|(apply z05;(refine z0f (z8t rfl) rfl rfl ?_))|(apply z1e;(refine z0f (z18 (ze7 (by omega) (by omega))) rfl rfl ?_))|(apply z1k;(first|refine z08 (z3a rfl) rfl rfl ?_| refine z6p (g:=xC) e.2.2 rfl ?_| refine z6p (g:=zf4) (e.1,e.2.1,((ks2.length:Nat):Int)) rfl ?_))|(apply z1q;(refine zch ((y.1,e.2.1,y.2.2):Arc) hix hse ?_))|refine z01 ?_|refine fk (fun _=>?_) (fun _=>?_)|(apply z10;(refine zkk (et:=3) (a:=e.2.2) (v:=z2g (ks2.length:Nat)) (py:=xP e.2.2) (q:=z8p 0 ks2) (by kernel_rfl) xG rfl rfl xW rfl rfl rfl ?_))|(refine z19 (fun hg=>?_) (fun hg=>?_)<;> simp only[hg] <;> (try simp only[zA3,zA5,zA6,zA8] at hg)))
           all_goals try (exfalso;omega)
           all_goals refine z2y 61 1000 ?_
           all_goals exact zD92
   · obtain rfl:j=es.length:=by omega
     rw[zAs,List.foldl_nil] at j6
     rw[← j6] at i6
     simp only at i6
     have hi2:=(zA1.1 j4).1
     refine z0z 1003 rfl ?_
     by_cases hlim:lim.toNat<ks2.length
     · rw[zAz hlim] at i6
       rw[← i6]
       all_goals exact zD81
     · rw[zAy hlim] at i6
       have ih':=ih (i+1,ks2,⟨F++[fb],A++[arcs]⟩) ⟨by simp only;omega,by simp only;omega,by simp only;omega,by simp[i4],by simp[i5],j7,by rw[← i6];simp only;rw[show lim.toNat+1-(i+1)=n by omega]⟩ (by simp only;omega)
       simp only at ih'
       repeat' (first|(apply z0c;(refine z0f (zj8 j4 rfl rfl) rfl rfl ?_))|(apply z05;(refine z0f (z1c rfl (by simp only[zA4];omega)) rfl rfl ?_))|(apply z1k;(first|refine z08 (z3a rfl) rfl rfl ?_| refine z6p (g:=ze4) arcs rfl ?_))|(apply z97;(refine z9o (g:=boc) (by first|exact rfl|exact⟨_,rfl,rfl,rfl⟩) rfl rfl fb rfl rfl rfl rfl rfl rfl rfl (by decide) (by omega) ?_))|(apply z0m;(refine ybf (first:=[]) (cap:=xA) (ps:=[xP k]) hff (by first|exact rfl|exact⟨_,rfl,rfl,rfl⟩) rfl rfl (hb _ _ _) (by decide) ?_))|(apply z0w;(refine zyw (by first|exact rfl|exact⟨_,rfl,rfl,rfl⟩) rfl rfl rfl rfl rfl ?_))|refine z01 ?_|refine fk (fun _=>?_) (fun _=>?_))
       all_goals try (exfalso;omega)
       all_goals refine z2y 119 1001 ?_
       all_goals refine z2y 125 1002 ?_
       all_goals exact z00 ih' rfl rfl
 · obtain rfl:i=ks.length:=by omega
   obtain⟨n,hn⟩:∃ n,lim.toNat+1-ks.length=n+1:=⟨lim.toNat-ks.length,by omega⟩
   rw[hn,exL,zAv (zAj _)] at i6
   simp only at i6
   rw[← i6]
   refine z0z 1001 rfl ?_
   refine z0z 1002 rfl ?_
   all_goals exact zD81
end Go.Proofs.YtmcggompdmngmaaGreatDoor
namespace Go.Proofs.YtmcggompdmngmaaGreatDoor
open Go.Ab Go.Ax Go.Rx
set_option maxHeartbeats 20000000
set_option maxRecDepth 100000
attribute [local irreducible] Run Ops Op1 z0u Val Tr z09 z0q NF Rel z1v z1u
section
variable (lv:List (List Rg)) (f l:Nat) (fo:List Nat) (nu:Bool)
abbrev bsC:List (Nm × Blk):=[((1,4),.box [.ptr (0,14) 0]),((1,14),tbx lv f l fo nu)]
theorem y4w (k:Bool × Nat) (hk:k.2<2 ^ 64) (hl:l<2 ^ 64):z0q Tryz.prog 53 [scP k,.ptr (1,4) 0] (bsC lv f l fo nu) [] (B ((k.1&&nu)||decide (k.2 &&& l≠0))):=by
 refine z0v fun H hH=>?_
 have h4:H 1 4=some (.box [.ptr (0,14) 0]):=hH ((1,4),.box [.ptr (0,14) 0]) (by simp)
 have h14:H 1 14=some (tbx lv f l fo nu):=hH ((1,14),tbx lv f l fo nu) (by simp)
 obtain⟨b,S⟩:=k
 have hfin:(!decide (zbo .u64 (S:Nat) (l:Nat)=0))=decide (S &&& l≠0):=by
  rw[zwk hk hl,← decide_not]
  exact decide_eq_decide.2 (by rw[Ne,not_congr];exact_mod_cast Iff.rfl)
 simp only[← hfin]
 refine z06 Tryz.func53 (by kernel_rfl) rfl (by simp) ?_
 dsimp only[Tryz.f53]
 cases b <;> cases nu
 all_goals repeat' (first|(apply z0c;(first|refine z7c h14 ?_| refine z7c h4 ?_))|(apply z1e;(refine z0f z3u rfl rfl ?_))|(apply z2c;(refine z0h z4x ?_))|refine z01 ?_|fail)
 all_goals exact z02 Tryz.func53 _ z1d ⟨rfl,rfl⟩
def z6u (N:Nat):Nat→List (List Rg)→List (List Rg)
 | _,[]=>[]
 | k,r::ls=>if N.testBit k=true then r::z6u N (k+1) ls else z6u N (k+1) ls
theorem zsm (N:Nat) {lv:List (List Rg)} {k:Nat} {r:List Rg} (hr:lv[k]? =some r):z6u N k (lv.drop k)=(if N.testBit k=true then [r] else [])++z6u N (k+1) (lv.drop (k+1)):=by
 obtain⟨h1,h2⟩:=zA1.1 hr
 rw[List.drop_eq_getElem_cons h1,h2,z6u]
 split <;> simp
theorem z6r (N:Nat):∀ (lv:List (List Rg)) (k:Nat),∀ r∈z6u N k lv,r∈lv
 | [],_,r,h=>by simp[z6u] at h
 | x::ls,k,r,h=>by
  rw[z6u] at h
  split at h
  · rcases zAc.1 h with rfl|h
    · simp
    · exact List.mem_cons_of_mem _ (z6r N ls _ r h)
  · exact List.mem_cons_of_mem _ (z6r N ls _ r h)
theorem zh4 (N:Nat):∀ (lv:List (List Rg)) (k:Nat),(z6u N k lv).length≤lv.length
 | [],_=>by simp[z6u]
 | x::ls,k=>by
  have:=zh4 N ls (k+1)
  rw[z6u];split <;> simp <;> omega
def nxN (f:Nat) (fo:List Nat) (k:Bool × Nat):Nat:=if k.1=true then f else nxF k.2 0 0 fo
def ze3 (N:Nat) (lv:List (List Rg)) (c:Int):Nat:=rdF (fun c l=>inR l c) c N 0 0 lv
def cE (N:Nat) (lv:List (List Rg)) (pts:List Int) (i:Nat):Option (Go.Ax.Edge (Bool × Nat)) :=
 if ze3 N lv (pts.getD i 0)=0 then none else some (pts.getD i 0,pts.getD (i+1) 0-1,(false,ze3 N lv (pts.getD i 0)))
def zag (N:Nat) (lv:List (List Rg)):List Int:=zal (z6u N 0 lv)
def z5y (N:Nat) (lv:List (List Rg)):List (Go.Ax.Edge (Bool × Nat)):=(List.range ((zag N lv).length-1)).filterMap (cE N lv (zag N lv))
theorem y1q {M:Nat} (hS:zlq M) (hM:M≤200000000) (k:Bool × Nat) (hk:k.2<2 ^ 64) (hf:f<2 ^ 64) (hfo:fo.length=lv.length) (hl64:lv.length≤64) (hfx:∀ x∈fo,x<2 ^ 64) (hlr:∀ r∈lv,∀ x∈r,0≤x.1∧x.1≤1114111∧0≤x.2∧x.2≤1114111) (hln:∀ r∈lv,r.length≤200000000)
 (hsz:∀ N:Nat,(z4q (z6u N 0 lv)).length≤M) :
 z0q Tryz.prog 54 [scP k,.ptr (1,4) 0] (bsC lv f l fo nu) [] (.d (.slice ((z5y (nxN f fo k) lv).map sed))):=by
 refine z0v fun H hH=>?_
 have h4:H 1 4=some (.box [.ptr (0,14) 0]):=hH ((1,4),.box [.ptr (0,14) 0]) (by simp)
 have h14:H 1 14=some (tbx lv f l fo nu):=hH ((1,14),tbx lv f l fo nu) (by simp)
 obtain⟨b,S⟩:=k
 have hnx:=zmc (X:=14) lv f l fo nu S hk (by omega) hfx b 2
 change z0q Tryz.prog 55 [.ptr (2,14) 0,I .u64 (S:Nat),B b] [((2,14),tbx lv f l fo nu)] [] (I .u64 ((nxN f fo (b,S):Nat):Int)) at hnx
 have hNl:nxN f fo (b,S)<2 ^ 64:=by
  rw[nxN]
  split
  · exact hf
  · exact zsj S fo 0 0 (by decide) hfx
 generalize nxN f fo (b,S)=N at *
 have hrr:∀ r∈z6u N 0 lv,∀ x∈r,0≤x.1∧x.1≤1114111∧0≤x.2∧x.2≤1114111:=fun r hr=>hlr r (z6r N lv 0 r hr)
 have hal:=zh4 N lv 0
 have hcuts:=y7u hS (z6u N 0 lv) (hsz N) hM hrr (by omega) (fun r hr=>hln r (z6r N lv 0 r hr))
 have hpr:=zhb hrr
 have hpl:=zz7 (z6u N 0 lv)
 have hpl2:(zal (z6u N 0 lv)).length≤200000000:=by have:=y23 (Go.Ax.srt (z4q (z6u N 0 lv)));rw[Go.Ax.zti] at this;have:=hsz N;rw[zal];omega
 have hEq:z5y N lv=(List.range ((zag N lv).length-1)).filterMap (cE N lv (zag N lv)):=rfl
 rw[hEq]
 change z09 Tryz.prog 56 [.d (lvs (z6u N 0 lv))] (.d (.slice ((zag N lv).map rcc))) at hcuts
 change ∀ z∈zag N lv,0≤z∧z≤1114112 at hpr
 change 1≤(zag N lv).length at hpl
 change (zag N lv).length≤200000000 at hpl2
 generalize zag N lv=pts at *
 clear hEq
 refine z06 Tryz.func54 (by kernel_rfl) rfl (by simp) ?_
 dsimp only[Tryz.f54]
 repeat' (first|(apply z13;(first|refine zek h14 ?_| refine zek h4 ?_))|(apply z03;(refine z3k hnx (bkN h14) ?_))|(apply z2c;(refine z0h z4x ?_))|refine z01 ?_|fail)
 all_goals try (exfalso;omega)
 refine z2v 5 1001 48 1 rfl rfl rfl ?_
 refine z0d ?_
 refine z00 (z0p (fun q:Nat × List (List Rg)=>⟨99,[(1,.ptr (2,4) 0),(2,.ptr (0,2) 0),(3,.d (.lit z2w)),(4,I .u64 (N:Nat)),(5,.ref (0,1001)),(23,.d (lvs lv)),(24,I .i64 lv.length),(25,I .i64 (q.1:Nat))],[(1001,.row 48 1 (q.2.map fun r=>[rgs r]))],H⟩) (fun q=>q.1≤lv.length∧q.2.length≤q.1∧q.2++z6u N q.1 (lv.drop q.1)=z6u N 0 lv) (fun q=>lv.length-q.1) ?_ (0,[]) ⟨zAf _,zAj _,rfl⟩) rfl rfl
 rintro⟨i,acc⟩ ⟨i1,i2,i3⟩ ih
 simp only at i1 i2 i3 ih ⊢
 by_cases hlt:i<lv.length
 · obtain⟨r,hr⟩:∃ r,lv[i]? =some r:=⟨_,zA0 hlt⟩
   have hbt:=zqd (S:=N) (i:=i) hNl (by omega)
   rw[zsm N hr] at i3
   by_cases htb:N.testBit i=true
   · rw[zAz htb] at hbt i3
     have ih':=ih (i+1,acc++[r]) ⟨by simp only;omega,by simp;omega,by simp only;rw[← i3,zAl]⟩ (by simp only;omega)
     repeat' (first|(apply z04;(refine z08 (z1f (ys:=lv.map fun r=>[rgs r]) rfl (idx (g:=fun r=>[rgs r]) hr)) rfl rfl ?_))|(apply z0o;(first|refine z08 (z8d (by omega)) rfl rfl ?_| refine z08 z3u rfl rfl ?_))|(apply z1k;(refine z6p (g:=fun r:List Rg=>[rgs r]) r rfl ?_))|refine z01 ?_|refine fk (fun _=>?_) (fun _=>?_))
     all_goals try (exfalso;omega)
     all_goals refine z2y 38 1001 ?_
     all_goals exact z00 ih' rfl rfl
   · rw[zAy htb] at hbt i3
     have ih':=ih (i+1,acc) ⟨by simp only;omega,by simp only;omega,by simp only;rw[← i3,List.nil_append]⟩ (by simp only;omega)
     repeat' (first|(apply z04;(refine z08 (z1f (ys:=lv.map fun r=>[rgs r]) rfl (idx (g:=fun r=>[rgs r]) hr)) rfl rfl ?_))|(apply z0o;(first|refine z08 (z8d (by omega)) rfl rfl ?_| refine z08 z3u rfl rfl ?_))|refine z01 ?_|refine fk (fun _=>?_) (fun _=>?_))
     all_goals exact zD8
 · obtain rfl:i=lv.length:=by omega
   rw[zAs,z6u,List.append_nil] at i3
   subst i3
   clear ih
   refine z0z 1001 rfl ?_
   repeat' (first|(apply z03;(refine z1n hcuts ?_))|refine z01 ?_|refine fk (fun _=>?_) (fun _=>?_))
   all_goals try (exfalso;omega)
   refine z2v 8 1002 121 4 rfl rfl rfl ?_
   refine z0d ?_
   refine z00 (z0p (fun q:Nat=>⟨99,[(1,.ptr (2,4) 0),(3,.d (.lit z2w)),(4,I .u64 (N:Nat)),(8,.ref (0,1002)),(9,.d (.slice (pts.map rcc))),(44,I .i64 ((pts.length:Int)-1)),(45,I .i64 (q:Nat))],[(1002,.row 121 4 (((List.range q).filterMap (cE N lv pts)).map sed))],H⟩) (fun q=>q≤pts.length-1) (fun q=>pts.length-1-q) ?_ 0 (zAf _)) rfl rfl
   intro i hi ih
   by_cases hlt2:i<pts.length-1
   · obtain⟨x,hx⟩:∃ x,pts[i]? =some x:=⟨_,zA0 (by omega)⟩
     obtain⟨y,hy⟩:∃ y,pts[i+1]? =some y:=⟨_,zA0 (by omega)⟩
     have hyi:pts[(((i:Nat):Int)+1).toNat]? =some y:=by rw[show (((i:Nat):Int)+1).toNat=i+1 by omega];exact hy
     have hxr:=hpr x (zA2 hx)
     have hyr:=hpr y (zA2 hy)
     have hfl:=z9c (cE N lv pts) (List.range i)
     rw[List.length_range] at hfl
     have ih':=ih (i+1) (by omega) (by omega)
     have hstep:(List.range (i+1)).filterMap (cE N lv pts)=(List.range i).filterMap (cE N lv pts)++(cE N lv pts i).toList:=by
      rw[List.range_succ,List.filterMap_append];simp[List.filterMap_cons];cases cE N lv pts i <;> rfl
     rw[hstep,cE,zdp hx,zdp hy] at ih'
     clear ih hstep
     generalize (List.range i).filterMap (cE N lv pts)=out at *
     obtain⟨m,hm⟩:∃ m,ze3 N lv x=m:=⟨_,rfl⟩
     have hml:m<2 ^ 64:=by rw[← hm];exact zu8 _ _ _ hl64 (by decide)
     rw[hm] at ih'
     rw[ze3] at hm
     repeat' (first|(apply z13;(first|refine zek h14 ?_| refine zek h4 ?_))|refine z01 ?_|refine fk (fun _=>?_) (fun _=>?_))
     all_goals try (exfalso;first|omega|(simp at *;done))
     refine z0d ?_
     refine z00 (z0p (fun q:Nat × Nat=>⟨99,[(1,.ptr (2,4) 0),(3,.d (.lit z2w)),(4,I .u64 (N:Nat)),(8,.ref (0,1002)),(9,.d (.slice (pts.map rcc))),(10,I .i64 (i:Nat)),(11,.ptr (0,11) 0),(44,I .i64 ((pts.length:Int)-1)),(45,I .i64 (i:Nat)),(52,.d (lvs lv)),(53,I .i64 lv.length),(54,I .i64 (q.1:Nat))],[(1002,.row 121 4 (out.map sed)),(11,.box [B false,I .u64 (q.2:Nat)])],H⟩) (fun q=>q.1≤lv.length∧q.2<2 ^ 64∧rdF (fun c l=>inR l c) x N q.1 q.2 (lv.drop q.1)=m) (fun q=>lv.length-q.1) ?_ (0,0) ⟨zAf _,by decide,hm⟩) rfl rfl
     rintro⟨k,B'⟩ ⟨n1,n2,n3⟩ ihn
     simp only at n1 n2 n3 ihn ⊢
     by_cases hk2:k<lv.length
     · obtain⟨r,hr⟩:∃ r,lv[k]? =some r:=⟨_,zA0 hk2⟩
       have hcl:=zkq r (by have:=hln r (zA2 hr);omega) x
       rw[zn0 _ _ _ hr] at n3
       have hbt:=zqd (S:=N) (i:=k) hNl (by omega)
       have hsh:=y2g (i:=k) (by omega)
       have hp2:2 ^ k<2 ^ 64:=Nat.pow_lt_pow_right (by decide) (by omega)
       have hor:=y00 n2 hp2
       rw[← hsh] at hor
       rw[zq5] at hcl
       by_cases htb:N.testBit k=true
       · rw[zAz htb] at hbt
         cases hin:inR r x with
         | true =>
          rw[zAz ⟨htb,hin⟩] at n3
          rw[hin] at hcl
          have ihn':=ihn (k+1,B' ||| 2 ^ k) ⟨by simp only;omega,Nat.or_lt_two_pow n2 hp2,n3⟩ (by simp only;omega)
          dsimp only at ihn'
          rw[← hor] at ihn'
          all_goals exact zD28
         | false =>
          rw[zAy (fun h=>by rw[hin] at h;cases h.2)] at n3
          rw[hin] at hcl
          have ihn':=ihn (k+1,B') ⟨by simp only;omega,n2,n3⟩ (by simp only;omega)
          repeat' (first|(apply z04;(first|refine z08 (z1f (ys:=lv.map fun r=>[rgs r]) rfl (idx (g:=fun r=>[rgs r]) hr)) rfl rfl ?_| refine z08 (z1f (ys:=pts.map rcc) rfl (idx (g:=rcc) hx)) rfl rfl ?_))|(apply z05;(refine z0f (z1f (ys:=pts.map rcc) rfl (idx (g:=rcc) hx)) rfl rfl ?_))|(apply z0o;(first|refine z08 (z8d (by omega)) rfl rfl ?_| refine z08 z3u rfl rfl ?_))|(apply z03;(refine z1n hcl ?_))|refine z01 ?_|refine fk (fun _=>?_) (fun _=>?_))
          all_goals try (exfalso;omega)
          all_goals exact z00 ihn' rfl rfl
       · rw[zAy htb] at hbt
         rw[zAy (fun h=>htb h.1)] at n3
         have ihn':=ihn (k+1,B') ⟨by simp only;omega,n2,n3⟩ (by simp only;omega)
         all_goals exact zD28
     · obtain rfl:k=lv.length:=by omega
       rw[zAs,rdF] at n3
       subst n3
       clear ihn
       by_cases hz:B'=0
       · subst hz
         rw[zAz rfl,Option.toList_none,List.append_nil] at ih'
         repeat' (first|refine z01 ?_|refine fk (fun _=>?_) (fun _=>?_))
         all_goals try (exfalso;first|omega|(simp at *;done))
         all_goals exact z00 ih' rfl rfl
       · have hzi:¬ ((B':Nat):Int)=0:=by omega
         rw[zAy hz,Option.toList_some] at ih'
         repeat' (first|(apply z05;(first|refine z0f (z1f (ys:=pts.map rcc) rfl (idx (g:=rcc) hx)) rfl rfl ?_| refine z0f (z1f (ys:=pts.map rcc) rfl (ztb (g:=rcc) hyi)) rfl rfl ?_))|(apply z1e;(refine z0f (z1a (ze7 (by omega) (by omega))) rfl rfl ?_))|(apply z97;(refine z9o (g:=sed) (by first|exact rfl|exact⟨_,rfl,rfl,rfl⟩) rfl rfl ((x,y-1,(false,B')):Go.Ax.Edge (Bool × Nat)) rfl rfl rfl rfl rfl rfl rfl (by decide) (by omega) ?_))|refine z01 ?_|refine fk (fun _=>?_) (fun _=>?_))
         all_goals try (exfalso;first|omega|(simp at *;done))
         all_goals refine z2y 96 1002 ?_
         all_goals exact z00 ih' rfl rfl
   · obtain rfl:i=pts.length-1:=by omega
     clear ih
     repeat' (first|refine z01 ?_|refine fk (fun _=>?_) (fun _=>?_))
     all_goals try (exfalso;omega)
     all_goals refine z0z 1002 rfl ?_
     all_goals exact z02 Tryz.func54 _ z1d ⟨rfl,rfl⟩
end
theorem zig {N:Nat} {lv:List (List Rg)} {e:Go.Ax.Edge (Bool × Nat)} (h:e∈z5y N lv):∃ i x y,(zag N lv)[i]? =some x∧(zag N lv)[i+1]? =some y∧e=(x,y-1,(false,ze3 N lv x))∧ze3 N lv x≠0:=by
 rw[z5y,List.mem_filterMap] at h
 obtain⟨i,hi,he⟩:=h
 rw[List.mem_range] at hi
 obtain⟨x,hx⟩:∃ x,(zag N lv)[i]? =some x:=⟨_,zA0 (by omega)⟩
 obtain⟨y,hy⟩:∃ y,(zag N lv)[i+1]? =some y:=⟨_,zA0 (by omega)⟩
 rw[cE,zdp hx,zdp hy] at he
 split at he
 · cases he
 · rename_i hu
   simp only[zAh] at he
   exact⟨i,x,y,hx,hy,he.symm,hu⟩
theorem zxb {N:Nat} {lv:List (List Rg)} (hl64:lv.length≤64) (hlr:∀ r∈lv,∀ x∈r,0≤x.1∧x.1≤1114111∧0≤x.2∧x.2≤1114111):edE (z5y N lv)∧∀ e∈z5y N lv,e.2.2.2<2 ^ 64:=by
 have hr:=zhb (L:=z6u N 0 lv) fun r h=>hlr r (z6r N lv 0 r h)
 have hlt:=y4f (z6u N 0 lv)
 have hlen:=zuh (B:=1114112) hlt (fun z hz=>by have:=hr z hz;omega)
 refine⟨⟨?_,fun e he=>?_⟩,fun e he=>?_⟩
 · have:=z9c (cE N lv (zag N lv)) (List.range ((zag N lv).length-1))
   rw[List.length_range] at this
   rw[z5y];rw[zag] at *;omega
 · obtain⟨i,x,y,hx,hy,rfl,_⟩:=zig he
   have h1:=hr x (zA2 hx)
   have h2:=hr y (zA2 hy)
   have:x<y:=by
    obtain⟨a1,a2⟩:=zA1.1 hx
    obtain⟨b1,b2⟩:=zA1.1 hy
    have:=List.pairwise_iff_getElem.1 hlt i (i+1) a1 b1 (by omega)
    rw[← a2,← b2];exact this
   simp only;omega
 · obtain⟨i,x,y,hx,hy,rfl,_⟩:=zig he
   simp only;exact zu8 _ _ _ hl64 (by decide)
def zqq (lv:List (List Rg)) (f l:Nat) (fo:List Nat) (nu:Bool):Option Au:=exL (fun k=>(k.1&&nu)||decide (k.2 &&& l≠0)) (fun k=>z5y (nxN f fo k) lv) 256 257 0 [(true,0)] ⟨[],[]⟩
def zh1 (e:Rx):Option Au:=zqq (bd e tb0).1.lv (bd e tb0).2.f (bd e tb0).2.l (bd e tb0).1.fo (bd e tb0).2.nu
theorem zqx {M:Nat} (hS:zlq M) (hM:M≤200000000) (e:Rx) (hf:fit e) (h0:val e=0) (hbd:zhi 92 [.d (Drx e)] tb0 (bd e tb0)) (hsm:(bd e tb0).1.fo.length=(bd e tb0).1.lv.length∧(bd e tb0).1.lv.length≤64∧(∀ x∈(bd e tb0).1.fo,x<2 ^ 64)∧(bd e tb0).2.f<2 ^ 64∧(bd e tb0).2.l<2 ^ 64) (hlr:∀ r∈(bd e tb0).1.lv,∀ x∈r,0≤x.1∧x.1≤1114111∧0≤x.2∧x.2≤1114111) (hln:∀ r∈(bd e tb0).1.lv,r.length≤200000000)
 (hsz:∀ N:Nat,(z4q (z6u N 0 (bd e tb0).1.lv)).length≤M):z09 Tryz.prog 21 [.d (Drx e)] (y5u (zh1 e)):=by
 refine z0t fun H=>?_
 have hval:=z61 e hf
 have hof:=yd4 e hbd
 clear hbd
 rw[h0] at hval
 rw[zh1]
 dsimp only[ofB] at hof
 generalize hB:bd e tb0=r1 at *
 obtain⟨t1,p⟩:=r1
 obtain⟨lv,fo⟩:=t1
 obtain⟨hfo,hl64,hfx,pf,pl⟩:=hsm
 simp only at hfo hl64 hfx pf pl hof hlr hln hsz ⊢
 obtain⟨f,l,nu⟩:=p
 simp only at pf pl hof ⊢
 have hex:z0q Tryz.prog 58 [scP (true,0),.fn (.func 53) [] [.ptr (0,4) 0],.fn (.func 54) [] [.ptr (0,4) 0],I .i64 256] [((0,4),.box [.ptr (0,14) 0]),((0,14),tbx lv f l fo nu)] [] (exR (zqq lv f l fo nu)):=z0v fun H hH =>
  zow (.box [.ptr (0,14) 0]) (tbx lv f l fo nu) (fun k=>k.2<2 ^ 64) _ _ (true,0) 256 (by decide) (by decide) (by decide)
   (fun k hk=>y4w lv f l fo nu k hk pl) (fun k hk=>y1q lv f l fo nu hS hM k hk pf hfo hl64 hfx hlr hln hsz) (fun k hk=>zxb hl64 hlr) H (hH ((0,4),.box [.ptr (0,14) 0]) (by simp)) (hH ((0,14),tbx lv f l fo nu) (by simp))
 generalize zqq lv f l fo nu=o at *
 obtain⟨op,mn,mx,rs,ks⟩:=e
 rw[z2m] at hval hof ⊢
 cases o with
 | some x =>
  exact zD29
 | none =>
  exact zD29
end Go.Proofs.YtmcggompdmngmaaGreatDoor
