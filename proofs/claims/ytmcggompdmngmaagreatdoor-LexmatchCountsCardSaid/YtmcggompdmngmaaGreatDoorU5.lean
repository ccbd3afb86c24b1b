/- A part of the proof: A14 to A31. -/
import Derived.Test.YtmcggompdmngmaaGreatDoorUc
import Derived.Test.YtmcggompdmngmaaGreatDoorU3
import Derived.Test.YtmcggompdmngmaaGreatDoorU4
import Derived.Test.YtmcggompdmngmaaGreatDoorUv
set_option linter.all false
namespace Go.Proofs.YtmcggompdmngmaaGreatDoor
open Go.Ab Go.Ax
set_option maxHeartbeats 20000000
set_option maxRecDepth 100000
attribute [local irreducible] Run Ops Op1 z15 Val Tr z0d z0y NF Rel z2a z29
namespace XS
abbrev xK:Type:=Bool × Nat
abbrev xC (x:Bool × Nat):List D:=scc x
abbrev xP (x:Bool × Nat):PV:=scP x
abbrev xE (e:Go.Ax.Edge (Bool × Nat)):List D:=sed e
abbrev xM (ks:List (Bool × Nat)):Blk:=.mp ((z97 0 ks).map fun p=>(zv2 p.1,p.2))
abbrev xT:TypeId:=110
abbrev xF:FuncId:=53
abbrev xH:FuncId:=54
abbrev xA:List PV:=[.ptr (1,4) 0]
abbrev xB:List PV:=[.ptr (1,4) 0]
theorem xG:zpu Tryz.prog 110 zv2:=yaw
theorem xW {a:Bool × Nat}:∀ β w own v,PR β w own (scP a) v→v=zv2 a:=yav
theorem xN:type_of% @Tryz.func58:=@Tryz.func58
end XS
open XS in
theorem zp5 (b1 b2:Blk) (ok:Bool × Nat→Prop) (fin:Bool × Nat→Bool) (edg:Bool × Nat→List (Go.Ax.Edge (Bool × Nat))) (first:Bool × Nat) (lim:Int) (hl0:1≤lim) (hl1:lim≤2000000) (hok0:ok first)
 (hfin:∀ k,ok k→z0y Tryz.prog 53 [scP k,.ptr (1,4) 0] [((1,4),b1),((1,14),b2)] [] (B (fin k))) (hedg:∀ k,ok k→z0y Tryz.prog 54 [scP k,.ptr (1,4) 0] [((1,4),b1),((1,14),b2)] [] (.d (.slice ((edg k).map sed)))) (hE:∀ k,ok k→edE (edg k)∧∀ e∈edg k,ok e.2.2)
 (H:Hf) (hb1:H 0 4=some b1) (hb2:H 0 14=some b2) :
 Ab.Spec Tryz.prog 58 [scP first,.fn (.func 53) [] [.ptr (0,4) 0],.fn (.func 54) [] [.ptr (0,4) 0],I .i64 lim] H (fun r H'=>r=.v (exR (exL fin edg lim.toNat (lim.toNat+1) 0 [first] ⟨[],[]⟩))∧H'=H):=by
 have hb:∀ (n:Nat) (tm:List (Nat × PV)) (hp:Hp),BkE ⟨n,tm,hp,H⟩ [((1,4),b1),((1,14),b2)]:=fun n tm hp=>by simp[BkE,z3t,push,hb1,hb2]
 refine z0a Tryz.func58 (by kernel_rfl) rfl (by simp) ?_
 dsimp only[Tryz.f58]
 repeat' (first|(apply z16;(first|refine ze4 (by decide) rfl ?_|refine y2i (et:=3) (a:=first) (v:=z4g 0) (py:=scP first) (q:=([]:List ((Bool × Nat) × D))) (by kernel_rfl) yaw rfl rfl yav rfl rfl rfl ?_))|(apply z1v;(refine z0e z4a ?_))|(apply y3r;(refine y0r rfl rfl rfl rfl rfl rfl rfl rfl rfl (by decide) ?_))|refine z05 ?_|fail)
 refine z2g 24 1000 ?_
 refine z3m 10 0 1001 4 1 rfl rfl rfl rfl ?_
 refine z3m 10 1 1002 96 1 rfl rfl rfl rfl ?_
 generalize hres:exL fin edg lim.toNat (lim.toNat+1) 0 [first] ⟨[],[]⟩=res
 refine z0j ?_
 refine z01 (z0z (fun q:Nat × List (Bool × Nat) × Au=>⟨128,[(1,.fn (.func 53) [] [.ptr (1,4) 0]),(2,.fn (.func 54) [] [.ptr (1,4) 0]),(3,I .i64 lim),(8,.ptr (0,8) 0),(10,.ptr (0,10) 0),(11,.ref (0,20)),(12,.ref (0,1000)),(13,I .i64 (q.1:Nat))],[(20,mpS q.2.1),(1000,.row 110 2 (q.2.1.map scc)),(10,.box [.ref (0,1001),.ref (0,1002)]),(1001,.row 4 1 (q.2.2.F.map boc)),(1002,.row 96 1 (q.2.2.A.map z6w)),(8,.box [.d (.lit z2s),.d (.lit z2s)])],H⟩) (fun q=>q.1≤q.2.1.length∧1≤q.2.1.length∧q.2.1.length≤lim.toNat∧q.2.2.F.length=q.1∧q.2.2.A.length=q.1∧(∀ x∈q.2.1,ok x)∧exL fin edg lim.toNat (lim.toNat+1-q.1) q.1 q.2.1 q.2.2=res) (fun q=>lim.toNat+1-q.1) ?_ (0,[first],⟨[],[]⟩) ⟨zAf _,zAj _,by simp only[zAn];omega,rfl,rfl,fun x hx=>by rw[zAq] at hx;rw[hx];exact hok0,hres⟩) rfl rfl
 rintro⟨i,ks,⟨F,A⟩⟩ ⟨i1,i2,i3,i4,i5,i7,i6⟩ ih
 simp only at i1 i2 i3 i4 i5 i6 i7 ih ⊢
 by_cases hlt:i<ks.length
 · obtain⟨k,hk⟩:∃ k,ks[i]? =some k:=⟨_,zA0 hlt⟩
   obtain⟨n,hn⟩:∃ n,lim.toNat+1-i=n+1:=⟨lim.toNat-i,by omega⟩
   rw[hn,exL,hk] at i6
   simp only at i6
   have hok:=i7 k (zA2 hk)
   have hff:=hfin k hok
   have hee:=hedg k hok
   obtain⟨⟨hE1,hE2⟩,hE3⟩:=hE k hok
   generalize edg k=es at *
   generalize fin k=fb at *
   repeat' (first|(apply z0f;(refine z0b (zjb hk rfl rfl) rfl rfl ?_))|(apply z06;(refine z0b (z8z rfl) rfl rfl ?_))|(apply z1q;(refine z0b (z5s rfl) rfl rfl ?_))|(apply z03;(refine zr2 (first:=[]) (cap:=xB) (ps:=[xP k]) hee rfl rfl (hb _ _ _) (by decide) ?_))|refine z05 ?_|refine fk (fun _=>?_) (fun _=>?_))
   all_goals try (exfalso;simp only[zA4] at *;omega)
   refine z1t 14 1003 98 3 rfl rfl rfl ?_
   refine z0j ?_
   refine z01 (z0z (fun q:Nat × List xK × List Arc=>⟨128,[(1,.fn (.func xF) [] xA),(2,.fn (.func xH) [] xB),(3,I .i64 lim),(8,.ptr (0,8) 0),(10,.ptr (0,10) 0),(11,.ref (0,20)),(12,.ref (0,1000)),(13,I .i64 (i:Nat)),(14,.ref (0,1003)),(36,.d (.slice (es.map xE))),(37,I .i64 es.length),(38,I .i64 (q.1:Nat))],[(20,xM q.2.1),(1000,.row xT 2 (q.2.1.map xC)),(1003,.row 98 3 (q.2.2.map z8m)),(10,.box [.ref (0,1001),.ref (0,1002)]),(1001,.row 4 1 (F.map boc)),(1002,.row 96 1 (A.map z6w)),(8,.box [.d (.lit z2s),.d (.lit z2s)])],H⟩) (fun q=>q.1≤es.length∧q.2.2.length≤q.1∧q.2.1.length≤ks.length+q.1∧q.2.1[i]? =some k∧(∀ y∈q.2.2,0≤y.2.1∧y.2.1≤1114111)∧(∀ x∈q.2.1,ok x)∧(es.drop q.1).foldl zoy q.2=es.foldl zoy (ks,[])) (fun q=>es.length-q.1) ?_ (0,ks,[]) ⟨zAf _,zAj _,zAj _,hk,by simp,i7,rfl⟩) rfl rfl
   rintro⟨j,ks2,arcs⟩ ⟨j1,j2,j3,j4,j5,j7,j6⟩ ihj
   simp only at j1 j2 j3 j4 j5 j6 j7 ihj ⊢
   by_cases hjl:j<es.length
   · obtain⟨e,he⟩:∃ e,es[j]? =some e:=⟨_,zA0 hjl⟩
     obtain⟨r1,r2,r3⟩:=hE2 e (zA2 he)
     rw[drop_cons he,List.foldl_cons,zoy] at j6
     simp only at j6
     have hal:=zx7 ks2 e.2.2
     have hln:=y2h arcs e.1 e.2.1 (z9e e.2.2 ks2:Nat)
     have ihj':=ihj (j+1,z6z ks2 e.2.2,ext arcs e.1 e.2.1 (z9e e.2.2 ks2:Nat)) ⟨by simp only;omega,by simp only;omega,by simp only;omega,by simp only;obtain⟨x,hx⟩:=zhq ks2 e.2.2;rw[hx,zAb (zA1.1 j4).1];exact j4,fun y hy=>by
      rcases ext_mem hy with h|h
      · omega
      · exact j5 y h,fun x hx=>by
      rcases zq3 hx with h|h
      · rw[h];exact hE3 e (zA2 he)
      · exact j7 x h,j6⟩ (by simp only;omega)
     have hget:=znd e.2.2 ks2 0
     clear ihj hal
     by_cases hknown:e.2.2∈ks2
     · rw[z6z,zAz hknown] at ihj'
       rw[zAz hknown,Nat.zero_add] at hget
       have hget1:(zeg (z97 0 ks2) e.2.2).getD (.lit (.int .i64 0))=z4g (z9e e.2.2 ks2:Nat):=by rw[hget];rfl
       have hget2:(zeg (z97 0 ks2) e.2.2).isSome=true:=by rw[hget];rfl
       generalize z9e e.2.2 ks2=qv at *
       rcases y8h arcs with rfl|⟨m,y,rfl⟩
       · rw[ext_nil] at ihj'
         repeat' (first|(apply z16;(refine z0e (z7z (et:=3) (a:=e.2.2) (q:=z97 0 ks2) (z0:=Value.int .i64 0) (py:=xP e.2.2) (by kernel_rfl) xG (z6p (by kernel_rfl)) rfl rfl rfl xW rfl hget1 hget2 (by decide)) ?_))|(apply z06;(refine z0b (z1a (ys:=es.map xE) rfl (idx he)) rfl rfl ?_))|(apply z1q;(first|refine z0b (z3g rfl) rfl rfl ?_| refine z5n (g:=z8m) rfl rfl (e.1,e.2.1,((qv:Nat):Int)) rfl rfl rfl rfl rfl rfl rfl (by decide) (by simp) ?_))|refine z05 ?_|refine fk (fun _=>?_) (fun _=>?_))
         all_goals try (exfalso;first|omega|(simp at *;done))
         all_goals skip
         all_goals exact zD123
       · have hy:=j5 y (by simp)
         have hal:((m++[y]).map z8m).length=m.length+1:=by simp
         have hal2:(m++[y]).length=m.length+1:=by simp
         have hix:(m++[y])[(((((m++[y]).length:Nat):Int)-1)).toNat]? =some y:=by
          exact zD135
         have hse:(m++[y]).set (((((m++[y]).length:Nat):Int)-1)).toNat ((y.1,e.2.1,y.2.2):Arc)=m++[(y.1,e.2.1,y.2.2)]:=by
          exact zD135
         rw[zcj] at ihj'
         by_cases hj:y.2.1+1=e.1∧y.2.2=(qv:Nat)
         · have hyq:(y.1,e.2.1,((qv:Nat):Int))=((y.1,e.2.1,y.2.2):Arc):=by rw[hj.2]
           rw[zAz hj,hyq] at ihj'
           repeat' (first|(apply z16;(refine z0e (z7z (et:=3) (a:=e.2.2) (q:=z97 0 ks2) (z0:=Value.int .i64 0) (py:=xP e.2.2) (by kernel_rfl) xG (z6p (by kernel_rfl)) rfl rfl rfl xW rfl hget1 hget2 (by decide)) ?_))|(apply z0g;(first|refine z0m (z0i (u:=z1k y.2.1) hix) rfl rfl ?_| refine z0m (z0i (u:=z4g y.2.2) hix) rfl rfl ?_))|(apply z06;(first|refine z0b (z1a (ys:=es.map xE) rfl (idx he)) rfl rfl ?_| refine z0b (z8z rfl) rfl rfl ?_))|(apply z08;(refine z0m (z8z rfl) rfl rfl ?_))|(apply z1l;(refine z0m (z1g (zak (by omega) (by omega))) rfl rfl ?_))|(apply z1q;(first|refine z0b (z3g rfl) rfl rfl ?_| refine z4b (g:=z8m) (e.1,e.2.1,((qv:Nat):Int)) rfl ?_))|(apply z0n;(refine zb5 ((y.1,e.2.1,y.2.2):Arc) hix hse ?_))|refine z05 ?_|refine fk (fun _=>?_) (fun _=>?_)|(refine z1d (fun hg=>?_) (fun hg=>?_)<;> simp only[hg] <;> (try simp only[zA3,zA5,zA6,zA8] at hg)))
           all_goals try (exfalso;omega)
           all_goals skip
           all_goals exact z01 ihj' rfl rfl
         · rw[zAy hj] at ihj'
           repeat' (first|(apply z16;(refine z0e (z7z (et:=3) (a:=e.2.2) (q:=z97 0 ks2) (z0:=Value.int .i64 0) (py:=xP e.2.2) (by kernel_rfl) xG (z6p (by kernel_rfl)) rfl rfl rfl xW rfl hget1 hget2 (by decide)) ?_))|(apply z0g;(first|refine z0m (z0i (u:=z1k y.2.1) hix) rfl rfl ?_| refine z0m (z0i (u:=z4g y.2.2) hix) rfl rfl ?_))|(apply z06;(first|refine z0b (z1a (ys:=es.map xE) rfl (idx he)) rfl rfl ?_| refine z0b (z8z rfl) rfl rfl ?_))|(apply z08;(refine z0m (z8z rfl) rfl rfl ?_))|(apply z1l;(refine z0m (z1g (zak (by omega) (by omega))) rfl rfl ?_))|(apply z1q;(first|refine z0b (z3g rfl) rfl rfl ?_| refine z4b (g:=z8m) (e.1,e.2.1,((qv:Nat):Int)) rfl ?_))|(apply z0n;(refine zb5 ((y.1,e.2.1,y.2.2):Arc) hix hse ?_))|refine z05 ?_|refine fk (fun _=>?_) (fun _=>?_)|(refine z1d (fun hg=>?_) (fun hg=>?_)<;> simp only[hg] <;> (try simp only[zA3,zA5,zA6,zA8] at hg)))
           all_goals try (exfalso;omega)
           all_goals skip
           all_goals exact zD123
     · rw[z6z,zAy hknown,z81 hknown] at ihj'
       rw[z81 hknown] at hln
       rw[zAy hknown] at hget
       have hget1:(zeg (z97 0 ks2) e.2.2).getD (.lit (.int .i64 0))=z4g 0:=by rw[hget];rfl
       have hget2:(zeg (z97 0 ks2) e.2.2).isSome=false:=by rw[hget];rfl
       have hput:=zy3 hknown
       dsimp only[xM] at ihj'
       rw[← hput] at ihj'
       rcases y8h arcs with rfl|⟨m,y,rfl⟩
       · rw[ext_nil] at ihj'
         repeat' (first|(apply z16;(refine z0e (z7z (et:=3) (a:=e.2.2) (q:=z97 0 ks2) (z0:=Value.int .i64 0) (py:=xP e.2.2) (by kernel_rfl) xG (z6p (by kernel_rfl)) rfl rfl rfl xW rfl hget1 hget2 (by decide)) ?_))|(apply z06;(refine z0b (z1a (ys:=es.map xE) rfl (idx he)) rfl rfl ?_))|(apply z1q;(first|refine z0b (z3g rfl) rfl rfl ?_| refine z4b (g:=xC) e.2.2 rfl ?_| refine z5n (g:=z8m) rfl rfl (e.1,e.2.1,((ks2.length:Nat):Int)) rfl rfl rfl rfl rfl rfl rfl (by decide) (by simp) ?_))|refine z05 ?_|refine fk (fun _=>?_) (fun _=>?_)|(apply z16;(refine zkd (et:=3) (a:=e.2.2) (v:=z4g (ks2.length:Nat)) (py:=xP e.2.2) (q:=z97 0 ks2) (by kernel_rfl) xG rfl rfl xW rfl rfl rfl ?_)))
         all_goals try (exfalso;first|omega|(simp at *;done))
         all_goals refine z2g 61 1000 ?_
         all_goals exact zD123
       · have hy:=j5 y (by simp)
         have hal:((m++[y]).map z8m).length=m.length+1:=by simp
         have hal2:(m++[y]).length=m.length+1:=by simp
         have hix:(m++[y])[(((((m++[y]).length:Nat):Int)-1)).toNat]? =some y:=by
          exact zD135
         have hse:(m++[y]).set (((((m++[y]).length:Nat):Int)-1)).toNat ((y.1,e.2.1,y.2.2):Arc)=m++[(y.1,e.2.1,y.2.2)]:=by
          exact zD135
         rw[zcj] at ihj'
         by_cases hj:y.2.1+1=e.1∧y.2.2=(ks2.length:Nat)
         · have hyq:(y.1,e.2.1,((ks2.length:Nat):Int))=((y.1,e.2.1,y.2.2):Arc):=by rw[hj.2]
           rw[zAz hj,hyq] at ihj'
           repeat' (first|(apply z16;(refine z0e (z7z (et:=3) (a:=e.2.2) (q:=z97 0 ks2) (z0:=Value.int .i64 0) (py:=xP e.2.2) (by kernel_rfl) xG (z6p (by kernel_rfl)) rfl rfl rfl xW rfl hget1 hget2 (by decide)) ?_))|(apply z0g;(first|refine z0m (z0i (u:=z1k y.2.1) hix) rfl rfl ?_| refine z0m (z0i (u:=z4g y.2.2) hix) rfl rfl ?_))|(apply z06;(first|refine z0b (z1a (ys:=es.map xE) rfl (idx he)) rfl rfl ?_| refine z0b (z8z rfl) rfl rfl ?_))|(apply z08;(refine z0m (z8z rfl) rfl rfl ?_))|(apply z1l;(refine z0m (z1g (zak (by omega) (by omega))) rfl rfl ?_))|(apply z1q;(first|refine z0b (z3g rfl) rfl rfl ?_| refine z4b (g:=xC) e.2.2 rfl ?_| refine z4b (g:=z8m) (e.1,e.2.1,((ks2.length:Nat):Int)) rfl ?_))|(apply z0n;(refine zb5 ((y.1,e.2.1,y.2.2):Arc) hix hse ?_))|refine z05 ?_|refine fk (fun _=>?_) (fun _=>?_)|(apply z16;(refine zkd (et:=3) (a:=e.2.2) (v:=z4g (ks2.length:Nat)) (py:=xP e.2.2) (q:=z97 0 ks2) (by kernel_rfl) xG rfl rfl xW rfl rfl rfl ?_))|(refine z1d (fun hg=>?_) (fun hg=>?_)<;> simp only[hg] <;> (try simp only[zA3,zA5,zA6,zA8] at hg)))
           all_goals try (exfalso;omega)
           all_goals refine z2g 61 1000 ?_
           all_goals exact z01 ihj' rfl rfl
         · rw[zAy hj] at ihj'
           repeat' (first|(apply z16;(refine z0e (z7z (et:=3) (a:=e.2.2) (q:=z97 0 ks2) (z0:=Value.int .i64 0) (py:=xP e.2.2) (by kernel_rfl) xG (z6p (by kernel_rfl)) rfl rfl rfl xW rfl hget1 hget2 (by decide)) ?_))|(apply z0g;(first|refine z0m (z0i (u:=z1k y.2.1) hix) rfl rfl ?_| refine z0m (z0i (u:=z4g y.2.2) hix) rfl rfl ?_))|(apply z06;(first|refine z0b (z1a (ys:=es.map xE) rfl (idx he)) rfl rfl ?_| refine z0b (z8z rfl) rfl rfl ?_))|(apply z08;(refine z0m (z8z rfl) rfl rfl ?_))|(apply z1l;(refine z0m (z1g (zak (by omega) (by omega))) rfl rfl ?_))|(apply z1q;(first|refine z0b (z3g rfl) rfl rfl ?_| refine z4b (g:=xC) e.2.2 rfl ?_| refine z4b (g:=z8m) (e.1,e.2.1,((ks2.length:Nat):Int)) rfl ?_))|(apply z0n;(refine zb5 ((y.1,e.2.1,y.2.2):Arc) hix hse ?_))|refine z05 ?_|refine fk (fun _=>?_) (fun _=>?_)|(apply z16;(refine zkd (et:=3) (a:=e.2.2) (v:=z4g (ks2.length:Nat)) (py:=xP e.2.2) (q:=z97 0 ks2) (by kernel_rfl) xG rfl rfl xW rfl rfl rfl ?_))|(refine z1d (fun hg=>?_) (fun hg=>?_)<;> simp only[hg] <;> (try simp only[zA3,zA5,zA6,zA8] at hg)))
           all_goals try (exfalso;omega)
           all_goals refine z2g 61 1000 ?_
           all_goals exact zD123
   · obtain rfl:j=es.length:=by omega
     rw[zAs,List.foldl_nil] at j6
     rw[← j6] at i6
     simp only at i6
     have hi2:=(zA1.1 j4).1
     refine z10 1003 rfl ?_
     by_cases hlim:lim.toNat<ks2.length
     · rw[zAz hlim] at i6
       rw[← i6]
       all_goals exact zD110
     · rw[zAy hlim] at i6
       have ih':=ih (i+1,ks2,⟨F++[fb],A++[arcs]⟩) ⟨by simp only;omega,by simp only;omega,by simp only;omega,by simp[i4],by simp[i5],j7,by rw[← i6];simp only;rw[show lim.toNat+1-(i+1)=n by omega]⟩ (by simp only;omega)
       simp only at ih'
       repeat' (first|(apply z0g;(refine z0m (zjb j4 rfl rfl) rfl rfl ?_))|(apply z08;(refine z0m (z1c rfl (by simp only[zA4];omega)) rfl rfl ?_))|(apply z1q;(first|refine z0b (z3g rfl) rfl rfl ?_| refine z4b (g:=z6w) arcs rfl ?_))|(apply za7;(refine za1 (g:=boc) (by first|exact rfl|exact⟨_,rfl,rfl,rfl⟩) rfl rfl fb rfl rfl rfl rfl rfl rfl rfl (by decide) (by omega) ?_))|(apply z0v;(refine y9a (first:=[]) (cap:=xA) (ps:=[xP k]) hff (by first|exact rfl|exact⟨_,rfl,rfl,rfl⟩) rfl rfl (hb _ _ _) (by decide) ?_))|(apply z18;(refine zx5 (by first|exact rfl|exact⟨_,rfl,rfl,rfl⟩) rfl rfl rfl rfl rfl ?_))|refine z05 ?_|refine fk (fun _=>?_) (fun _=>?_))
       all_goals try (exfalso;omega)
       all_goals refine z2g 119 1001 ?_
       all_goals refine z2g 125 1002 ?_
       all_goals exact z01 ih' rfl rfl
 · obtain rfl:i=ks.length:=by omega
   obtain⟨n,hn⟩:∃ n,lim.toNat+1-ks.length=n+1:=⟨lim.toNat-ks.length,by omega⟩
   rw[hn,exL,zAv (zAj _)] at i6
   simp only at i6
   rw[← i6]
   refine z10 1001 rfl ?_
   refine z10 1002 rfl ?_
   all_goals exact zD110
end Go.Proofs.YtmcggompdmngmaaGreatDoor
namespace Go.Proofs.YtmcggompdmngmaaGreatDoor
open Go.Ab Go.Ax Go.Rx
set_option maxHeartbeats 20000000
set_option maxRecDepth 100000
attribute [local irreducible] Run Ops Op1 z15 Val Tr z0d z0y NF Rel z2a z29
section
variable (lv:List (List Rg)) (f l:Nat) (fo:List Nat) (nu:Bool)
abbrev bsC:List (Nm × Blk):=[((1,4),.box [.ptr (0,14) 0]),((1,14),tbx lv f l fo nu)]
theorem y19 (k:Bool × Nat) (hk:k.2<2 ^ 64) (hl:l<2 ^ 64):z0y Tryz.prog 53 [scP k,.ptr (1,4) 0] (bsC lv f l fo nu) [] (B ((k.1&&nu)||decide (k.2 &&& l≠0))):=by
 refine z11 fun H hH=>?_
 have h4:H 1 4=some (.box [.ptr (0,14) 0]):=hH ((1,4),.box [.ptr (0,14) 0]) (by simp)
 have h14:H 1 14=some (tbx lv f l fo nu):=hH ((1,14),tbx lv f l fo nu) (by simp)
 obtain⟨b,S⟩:=k
 have hfin:(!decide (zek .u64 (S:Nat) (l:Nat)=0))=decide (S &&& l≠0):=by
  rw[zyr hk hl,← decide_not]
  exact decide_eq_decide.2 (by rw[Ne,not_congr];exact_mod_cast Iff.rfl)
 simp only[← hfin]
 refine z0a Tryz.func53 (by kernel_rfl) rfl (by simp) ?_
 dsimp only[Tryz.f53]
 cases b <;> cases nu
 all_goals repeat' (first|(apply z0g;(first|refine z52 h14 ?_| refine z52 h4 ?_))|(apply z1l;(refine z0m z4n rfl rfl ?_))|(apply z1v;(refine z0e z4a ?_))|refine z05 ?_|fail)
 all_goals exact z00 Tryz.func53 _ z13 ⟨rfl,rfl⟩
def z9c (N:Nat):Nat→List (List Rg)→List (List Rg)
 | _,[]=>[]
 | k,r::ls=>if N.testBit k=true then r::z9c N (k+1) ls else z9c N (k+1) ls
theorem zq7 (N:Nat) {lv:List (List Rg)} {k:Nat} {r:List Rg} (hr:lv[k]? =some r):z9c N k (lv.drop k)=(if N.testBit k=true then [r] else [])++z9c N (k+1) (lv.drop (k+1)):=by
 obtain⟨h1,h2⟩:=zA1.1 hr
 rw[List.drop_eq_getElem_cons h1,h2,z9c]
 split <;> simp
theorem z8c (N:Nat):∀ (lv:List (List Rg)) (k:Nat),∀ r∈z9c N k lv,r∈lv
 | [],_,r,h=>by simp[z9c] at h
 | x::ls,k,r,h=>by
  rw[z9c] at h
  split at h
  · rcases zAc.1 h with rfl|h
    · simp
    · exact List.mem_cons_of_mem _ (z8c N ls _ r h)
  · exact List.mem_cons_of_mem _ (z8c N ls _ r h)
theorem zgj (N:Nat):∀ (lv:List (List Rg)) (k:Nat),(z9c N k lv).length≤lv.length
 | [],_=>by simp[z9c]
 | x::ls,k=>by
  have:=zgj N ls (k+1)
  rw[z9c];split <;> simp <;> omega
def nxN (f:Nat) (fo:List Nat) (k:Bool × Nat):Nat:=if k.1=true then f else nxF k.2 0 0 fo
def y4j (N:Nat) (lv:List (List Rg)) (c:Int):Nat:=rdF (fun c l=>inR l c) c N 0 0 lv
def cE (N:Nat) (lv:List (List Rg)) (pts:List Int) (i:Nat):Option (Go.Ax.Edge (Bool × Nat)) :=
 if y4j N lv (pts.getD i 0)=0 then none else some (pts.getD i 0,pts.getD (i+1) 0-1,(false,y4j N lv (pts.getD i 0)))
def zif (N:Nat) (lv:List (List Rg)):List Int:=zc0 (z9c N 0 lv)
def zei (N:Nat) (lv:List (List Rg)):List (Go.Ax.Edge (Bool × Nat)):=(List.range ((zif N lv).length-1)).filterMap (cE N lv (zif N lv))
theorem y0z {M:Nat} (hS:zn9 M) (hM:M≤200000000) (k:Bool × Nat) (hk:k.2<2 ^ 64) (hf:f<2 ^ 64) (hfo:fo.length=lv.length) (hl64:lv.length≤64) (hfx:∀ x∈fo,x<2 ^ 64) (hlr:∀ r∈lv,∀ x∈r,0≤x.1∧x.1≤1114111∧0≤x.2∧x.2≤1114111) (hln:∀ r∈lv,r.length≤200000000)
 (hsz:∀ N:Nat,(z7r (z9c N 0 lv)).length≤M) :
 z0y Tryz.prog 54 [scP k,.ptr (1,4) 0] (bsC lv f l fo nu) [] (.d (.slice ((zei (nxN f fo k) lv).map sed))):=by
 refine z11 fun H hH=>?_
 have h4:H 1 4=some (.box [.ptr (0,14) 0]):=hH ((1,4),.box [.ptr (0,14) 0]) (by simp)
 have h14:H 1 14=some (tbx lv f l fo nu):=hH ((1,14),tbx lv f l fo nu) (by simp)
 obtain⟨b,S⟩:=k
 have hnx:=zmk (X:=14) lv f l fo nu S hk (by omega) hfx b 2
 change z0y Tryz.prog 55 [.ptr (2,14) 0,I .u64 (S:Nat),B b] [((2,14),tbx lv f l fo nu)] [] (I .u64 ((nxN f fo (b,S):Nat):Int)) at hnx
 have hNl:nxN f fo (b,S)<2 ^ 64:=by
  rw[nxN]
  split
  · exact hf
  · exact zsn S fo 0 0 (by decide) hfx
 generalize nxN f fo (b,S)=N at *
 have hrr:∀ r∈z9c N 0 lv,∀ x∈r,0≤x.1∧x.1≤1114111∧0≤x.2∧x.2≤1114111:=fun r hr=>hlr r (z8c N lv 0 r hr)
 have hal:=zgj N lv 0
 have hcuts:=y7i hS (z9c N 0 lv) (hsz N) hM hrr (by omega) (fun r hr=>hln r (z8c N lv 0 r hr))
 have hpr:=zo5 hrr
 have hpl:=zy6 (z9c N 0 lv)
 have hpl2:(zc0 (z9c N 0 lv)).length≤200000000:=by have:=y2b (Go.Ax.srt (z7r (z9c N 0 lv)));rw[Go.Ax.zrm] at this;have:=hsz N;rw[zc0];omega
 have hEq:zei N lv=(List.range ((zif N lv).length-1)).filterMap (cE N lv (zif N lv)):=rfl
 rw[hEq]
 change z0d Tryz.prog 56 [.d (lvs (z9c N 0 lv))] (.d (.slice ((zif N lv).map rcc))) at hcuts
 change ∀ z∈zif N lv,0≤z∧z≤1114112 at hpr
 change 1≤(zif N lv).length at hpl
 change (zif N lv).length≤200000000 at hpl2
 generalize zif N lv=pts at *
 clear hEq
 refine z0a Tryz.func54 (by kernel_rfl) rfl (by simp) ?_
 dsimp only[Tryz.f54]
 repeat' (first|(apply z0f;(first|refine z2q h14 ?_| refine z2q h4 ?_))|(apply z03;(refine z0p hnx (bkN h14) ?_))|(apply z1v;(refine z0e z4a ?_))|refine z05 ?_|fail)
 all_goals try (exfalso;omega)
 refine z1t 5 1001 48 1 rfl rfl rfl ?_
 refine z0j ?_
 refine z01 (z0z (fun q:Nat × List (List Rg)=>⟨99,[(1,.ptr (2,4) 0),(2,.ptr (0,2) 0),(3,.d (.lit z2s)),(4,I .u64 (N:Nat)),(5,.ref (0,1001)),(23,.d (lvs lv)),(24,I .i64 lv.length),(25,I .i64 (q.1:Nat))],[(1001,.row 48 1 (q.2.map fun r=>[rgs r]))],H⟩) (fun q=>q.1≤lv.length∧q.2.length≤q.1∧q.2++z9c N q.1 (lv.drop q.1)=z9c N 0 lv) (fun q=>lv.length-q.1) ?_ (0,[]) ⟨zAf _,zAj _,rfl⟩) rfl rfl
 rintro⟨i,acc⟩ ⟨i1,i2,i3⟩ ih
 simp only at i1 i2 i3 ih ⊢
 by_cases hlt:i<lv.length
 · obtain⟨r,hr⟩:∃ r,lv[i]? =some r:=⟨_,zA0 hlt⟩
   have hbt:=zsr (S:=N) (i:=i) hNl (by omega)
   rw[zq7 N hr] at i3
   by_cases htb:N.testBit i=true
   · rw[zAz htb] at hbt i3
     have ih':=ih (i+1,acc++[r]) ⟨by simp only;omega,by simp;omega,by simp only;rw[← i3,zAl]⟩ (by simp only;omega)
     repeat' (first|(apply z06;(refine z0b (z1a (ys:=lv.map fun r=>[rgs r]) rfl (idx (g:=fun r=>[rgs r]) hr)) rfl rfl ?_))|(apply z0x;(first|refine z0b (zac (by omega)) rfl rfl ?_| refine z0b z4n rfl rfl ?_))|(apply z1q;(refine z4b (g:=fun r:List Rg=>[rgs r]) r rfl ?_))|refine z05 ?_|refine fk (fun _=>?_) (fun _=>?_))
     all_goals try (exfalso;omega)
     all_goals refine z2g 38 1001 ?_
     all_goals exact z01 ih' rfl rfl
   · rw[zAy htb] at hbt i3
     have ih':=ih (i+1,acc) ⟨by simp only;omega,by simp only;omega,by simp only;rw[← i3,List.nil_append]⟩ (by simp only;omega)
     repeat' (first|(apply z06;(refine z0b (z1a (ys:=lv.map fun r=>[rgs r]) rfl (idx (g:=fun r=>[rgs r]) hr)) rfl rfl ?_))|(apply z0x;(first|refine z0b (zac (by omega)) rfl rfl ?_| refine z0b z4n rfl rfl ?_))|refine z05 ?_|refine fk (fun _=>?_) (fun _=>?_))
     all_goals exact zD10
 · obtain rfl:i=lv.length:=by omega
   rw[zAs,z9c,List.append_nil] at i3
   subst i3
   clear ih
   refine z10 1001 rfl ?_
   repeat' (first|(apply z03;(refine z1i hcuts ?_))|refine z05 ?_|refine fk (fun _=>?_) (fun _=>?_))
   all_goals try (exfalso;omega)
   refine z1t 8 1002 121 4 rfl rfl rfl ?_
   refine z0j ?_
   refine z01 (z0z (fun q:Nat=>⟨99,[(1,.ptr (2,4) 0),(3,.d (.lit z2s)),(4,I .u64 (N:Nat)),(8,.ref (0,1002)),(9,.d (.slice (pts.map rcc))),(44,I .i64 ((pts.length:Int)-1)),(45,I .i64 (q:Nat))],[(1002,.row 121 4 (((List.range q).filterMap (cE N lv pts)).map sed))],H⟩) (fun q=>q≤pts.length-1) (fun q=>pts.length-1-q) ?_ 0 (zAf _)) rfl rfl
   intro i hi ih
   by_cases hlt2:i<pts.length-1
   · obtain⟨x,hx⟩:∃ x,pts[i]? =some x:=⟨_,zA0 (by omega)⟩
     obtain⟨y,hy⟩:∃ y,pts[i+1]? =some y:=⟨_,zA0 (by omega)⟩
     have hyi:pts[(((i:Nat):Int)+1).toNat]? =some y:=by rw[show (((i:Nat):Int)+1).toNat=i+1 by omega];exact hy
     have hxr:=hpr x (zA2 hx)
     have hyr:=hpr y (zA2 hy)
     have hfl:=za0 (cE N lv pts) (List.range i)
     rw[List.length_range] at hfl
     have ih':=ih (i+1) (by omega) (by omega)
     have hstep:(List.range (i+1)).filterMap (cE N lv pts)=(List.range i).filterMap (cE N lv pts)++(cE N lv pts i).toList:=by
      rw[List.range_succ,List.filterMap_append];simp[List.filterMap_cons];cases cE N lv pts i <;> rfl
     rw[hstep,cE,zco hx,zco hy] at ih'
     clear ih hstep
     generalize (List.range i).filterMap (cE N lv pts)=out at *
     obtain⟨m,hm⟩:∃ m,y4j N lv x=m:=⟨_,rfl⟩
     have hml:m<2 ^ 64:=by rw[← hm];exact zuk _ _ _ hl64 (by decide)
     rw[hm] at ih'
     rw[y4j] at hm
     repeat' (first|(apply z0f;(first|refine z2q h14 ?_| refine z2q h4 ?_))|refine z05 ?_|refine fk (fun _=>?_) (fun _=>?_))
     all_goals try (exfalso;first|omega|(simp at *;done))
     refine z0j ?_
     refine z01 (z0z (fun q:Nat × Nat=>⟨99,[(1,.ptr (2,4) 0),(3,.d (.lit z2s)),(4,I .u64 (N:Nat)),(8,.ref (0,1002)),(9,.d (.slice (pts.map rcc))),(10,I .i64 (i:Nat)),(11,.ptr (0,11) 0),(44,I .i64 ((pts.length:Int)-1)),(45,I .i64 (i:Nat)),(52,.d (lvs lv)),(53,I .i64 lv.length),(54,I .i64 (q.1:Nat))],[(1002,.row 121 4 (out.map sed)),(11,.box [B false,I .u64 (q.2:Nat)])],H⟩) (fun q=>q.1≤lv.length∧q.2<2 ^ 64∧rdF (fun c l=>inR l c) x N q.1 q.2 (lv.drop q.1)=m) (fun q=>lv.length-q.1) ?_ (0,0) ⟨zAf _,by decide,hm⟩) rfl rfl
     rintro⟨k,B'⟩ ⟨n1,n2,n3⟩ ihn
     simp only at n1 n2 n3 ihn ⊢
     by_cases hk2:k<lv.length
     · obtain⟨r,hr⟩:∃ r,lv[k]? =some r:=⟨_,zA0 hk2⟩
       have hcl:=zl3 r (by have:=hln r (zA2 hr);omega) x
       rw[zn3 _ _ _ hr] at n3
       have hbt:=zsr (S:=N) (i:=k) hNl (by omega)
       have hsh:=y1v (i:=k) (by omega)
       have hp2:2 ^ k<2 ^ 64:=Nat.pow_lt_pow_right (by decide) (by omega)
       have hor:=y08 n2 hp2
       rw[← hsh] at hor
       rw[zsx] at hcl
       by_cases htb:N.testBit k=true
       · rw[zAz htb] at hbt
         cases hin:inR r x with
         | true =>
          rw[zAz ⟨htb,hin⟩] at n3
          rw[hin] at hcl
          have ihn':=ihn (k+1,B' ||| 2 ^ k) ⟨by simp only;omega,Nat.or_lt_two_pow n2 hp2,n3⟩ (by simp only;omega)
          dsimp only at ihn'
          rw[← hor] at ihn'
          all_goals exact zD39
         | false =>
          rw[zAy (fun h=>by rw[hin] at h;cases h.2)] at n3
          rw[hin] at hcl
          have ihn':=ihn (k+1,B') ⟨by simp only;omega,n2,n3⟩ (by simp only;omega)
          repeat' (first|(apply z06;(first|refine z0b (z1a (ys:=lv.map fun r=>[rgs r]) rfl (idx (g:=fun r=>[rgs r]) hr)) rfl rfl ?_| refine z0b (z1a (ys:=pts.map rcc) rfl (idx (g:=rcc) hx)) rfl rfl ?_))|(apply z08;(refine z0m (z1a (ys:=pts.map rcc) rfl (idx (g:=rcc) hx)) rfl rfl ?_))|(apply z0x;(first|refine z0b (zac (by omega)) rfl rfl ?_| refine z0b z4n rfl rfl ?_))|(apply z03;(refine z1i hcl ?_))|refine z05 ?_|refine fk (fun _=>?_) (fun _=>?_))
          all_goals try (exfalso;omega)
          all_goals exact z01 ihn' rfl rfl
       · rw[zAy htb] at hbt
         rw[zAy (fun h=>htb h.1)] at n3
         have ihn':=ihn (k+1,B') ⟨by simp only;omega,n2,n3⟩ (by simp only;omega)
         all_goals exact zD39
     · obtain rfl:k=lv.length:=by omega
       rw[zAs,rdF] at n3
       subst n3
       clear ihn
       by_cases hz:B'=0
       · subst hz
         rw[zAz rfl,Option.toList_none,List.append_nil] at ih'
         repeat' (first|refine z05 ?_|refine fk (fun _=>?_) (fun _=>?_))
         all_goals try (exfalso;first|omega|(simp at *;done))
         all_goals exact z01 ih' rfl rfl
       · have hzi:¬ ((B':Nat):Int)=0:=by omega
         rw[zAy hz,Option.toList_some] at ih'
         repeat' (first|(apply z08;(first|refine z0m (z1a (ys:=pts.map rcc) rfl (idx (g:=rcc) hx)) rfl rfl ?_| refine z0m (z1a (ys:=pts.map rcc) rfl (zel (g:=rcc) hyi)) rfl rfl ?_))|(apply z1l;(refine z0m (z1h (zak (by omega) (by omega))) rfl rfl ?_))|(apply za7;(refine za1 (g:=sed) (by first|exact rfl|exact⟨_,rfl,rfl,rfl⟩) rfl rfl ((x,y-1,(false,B')):Go.Ax.Edge (Bool × Nat)) rfl rfl rfl rfl rfl rfl rfl (by decide) (by omega) ?_))|refine z05 ?_|refine fk (fun _=>?_) (fun _=>?_))
         all_goals try (exfalso;first|omega|(simp at *;done))
         all_goals refine z2g 96 1002 ?_
         all_goals exact z01 ih' rfl rfl
   · obtain rfl:i=pts.length-1:=by omega
     clear ih
     repeat' (first|refine z05 ?_|refine fk (fun _=>?_) (fun _=>?_))
     all_goals try (exfalso;omega)
     all_goals refine z10 1002 rfl ?_
     all_goals exact z00 Tryz.func54 _ z13 ⟨rfl,rfl⟩
end
theorem zir {N:Nat} {lv:List (List Rg)} {e:Go.Ax.Edge (Bool × Nat)} (h:e∈zei N lv):∃ i x y,(zif N lv)[i]? =some x∧(zif N lv)[i+1]? =some y∧e=(x,y-1,(false,y4j N lv x))∧y4j N lv x≠0:=by
 rw[zei,List.mem_filterMap] at h
 obtain⟨i,hi,he⟩:=h
 rw[List.mem_range] at hi
 obtain⟨x,hx⟩:∃ x,(zif N lv)[i]? =some x:=⟨_,zA0 (by omega)⟩
 obtain⟨y,hy⟩:∃ y,(zif N lv)[i+1]? =some y:=⟨_,zA0 (by omega)⟩
 rw[cE,zco hx,zco hy] at he
 split at he
 · cases he
 · rename_i hu
   simp only[zAh] at he
   exact⟨i,x,y,hx,hy,he.symm,hu⟩
theorem zyc {N:Nat} {lv:List (List Rg)} (hl64:lv.length≤64) (hlr:∀ r∈lv,∀ x∈r,0≤x.1∧x.1≤1114111∧0≤x.2∧x.2≤1114111):edE (zei N lv)∧∀ e∈zei N lv,e.2.2.2<2 ^ 64:=by
 have hr:=zo5 (L:=z9c N 0 lv) fun r h=>hlr r (z8c N lv 0 r h)
 have hlt:=y26 (z9c N 0 lv)
 have hlen:=zur (B:=1114112) hlt (fun z hz=>by have:=hr z hz;omega)
 refine⟨⟨?_,fun e he=>?_⟩,fun e he=>?_⟩
 · have:=za0 (cE N lv (zif N lv)) (List.range ((zif N lv).length-1))
   rw[List.length_range] at this
   rw[zei];rw[zif] at *;omega
 · obtain⟨i,x,y,hx,hy,rfl,_⟩:=zir he
   have h1:=hr x (zA2 hx)
   have h2:=hr y (zA2 hy)
   have:x<y:=by
    obtain⟨a1,a2⟩:=zA1.1 hx
    obtain⟨b1,b2⟩:=zA1.1 hy
    have:=List.pairwise_iff_getElem.1 hlt i (i+1) a1 b1 (by omega)
    rw[← a2,← b2];exact this
   simp only;omega
 · obtain⟨i,x,y,hx,hy,rfl,_⟩:=zir he
   simp only;exact zuk _ _ _ hl64 (by decide)
def zxq (lv:List (List Rg)) (f l:Nat) (fo:List Nat) (nu:Bool):Option Au:=exL (fun k=>(k.1&&nu)||decide (k.2 &&& l≠0)) (fun k=>zei (nxN f fo k) lv) 256 257 0 [(true,0)] ⟨[],[]⟩
def zry (e:Rx):Option Au:=zxq (bd e tb0).1.lv (bd e tb0).2.f (bd e tb0).2.l (bd e tb0).1.fo (bd e tb0).2.nu
theorem zrr {M:Nat} (hS:zn9 M) (hM:M≤200000000) (e:Rx) (hf:fit e) (h0:val e=0) (hbd:zhr 92 [.d (Drx e)] tb0 (bd e tb0)) (hsm:(bd e tb0).1.fo.length=(bd e tb0).1.lv.length∧(bd e tb0).1.lv.length≤64∧(∀ x∈(bd e tb0).1.fo,x<2 ^ 64)∧(bd e tb0).2.f<2 ^ 64∧(bd e tb0).2.l<2 ^ 64) (hlr:∀ r∈(bd e tb0).1.lv,∀ x∈r,0≤x.1∧x.1≤1114111∧0≤x.2∧x.2≤1114111) (hln:∀ r∈(bd e tb0).1.lv,r.length≤200000000)
 (hsz:∀ N:Nat,(z7r (z9c N 0 (bd e tb0).1.lv)).length≤M):z0d Tryz.prog 21 [.d (Drx e)] (y88 (zry e)):=by
 refine z14 fun H=>?_
 have hval:=z86 e hf
 have hof:=yam e hbd
 clear hbd
 rw[h0] at hval
 rw[zry]
 dsimp only[ofB] at hof
 generalize hB:bd e tb0=r1 at *
 obtain⟨t1,p⟩:=r1
 obtain⟨lv,fo⟩:=t1
 obtain⟨hfo,hl64,hfx,pf,pl⟩:=hsm
 simp only at hfo hl64 hfx pf pl hof hlr hln hsz ⊢
 obtain⟨f,l,nu⟩:=p
 simp only at pf pl hof ⊢
 have hex:z0y Tryz.prog 58 [scP (true,0),.fn (.func 53) [] [.ptr (0,4) 0],.fn (.func 54) [] [.ptr (0,4) 0],I .i64 256] [((0,4),.box [.ptr (0,14) 0]),((0,14),tbx lv f l fo nu)] [] (exR (zxq lv f l fo nu)):=z11 fun H hH =>
  zp5 (.box [.ptr (0,14) 0]) (tbx lv f l fo nu) (fun k=>k.2<2 ^ 64) _ _ (true,0) 256 (by decide) (by decide) (by decide)
   (fun k hk=>y19 lv f l fo nu k hk pl) (fun k hk=>y0z lv f l fo nu hS hM k hk pf hfo hl64 hfx hlr hln hsz) (fun k hk=>zyc hl64 hlr) H (hH ((0,4),.box [.ptr (0,14) 0]) (by simp)) (hH ((0,14),tbx lv f l fo nu) (by simp))
 generalize zxq lv f l fo nu=o at *
 obtain⟨op,mn,mx,rs,ks⟩:=e
 rw[z4c] at hval hof ⊢
 cases o with
 | some x =>
  exact zD41
 | none =>
  exact zD41
end Go.Proofs.YtmcggompdmngmaaGreatDoor
