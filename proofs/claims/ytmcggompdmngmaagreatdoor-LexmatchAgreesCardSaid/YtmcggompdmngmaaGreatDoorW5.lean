/- A part of the proof: A14 to A31. -/
import Derived.Test.YtmcggompdmngmaaGreatDoorWc
import Derived.Test.YtmcggompdmngmaaGreatDoorW3
import Derived.Test.YtmcggompdmngmaaGreatDoorW4
import Derived.Test.YtmcggompdmngmaaGreatDoorWv
set_option linter.all false
namespace Go.Proofs.YtmcggompdmngmaaGreatDoor
open Go.Ab Go.Ax
set_option maxHeartbeats 20000000
set_option maxRecDepth 100000
attribute [local irreducible] Run Ops Op1 z14 Val Tr z0d z0w NF Rel z1z z27
namespace XS
abbrev xK:Type:=Bool × Nat
abbrev xC (x:Bool × Nat):List D:=scc x
abbrev xP (x:Bool × Nat):PV:=scP x
abbrev xE (e:Go.Ax.Edge (Bool × Nat)):List D:=sed e
abbrev xM (ks:List (Bool × Nat)):Blk:=.mp ((z8q 0 ks).map fun p=>(zuo p.1,p.2))
abbrev xT:TypeId:=110
abbrev xF:FuncId:=53
abbrev xH:FuncId:=54
abbrev xA:List PV:=[.ptr (1,4) 0]
abbrev xB:List PV:=[.ptr (1,4) 0]
theorem xG:zpe Tryz.prog 110 zuo:=yb2
theorem xW {a:Bool × Nat}:∀ β w own v,PR β w own (scP a) v→v=zuo a:=ybf
theorem xN:type_of% @Tryz.func58:=@Tryz.func58
end XS
open XS in
theorem zp0 (b1 b2:Blk) (ok:Bool × Nat→Prop) (fin:Bool × Nat→Bool) (edg:Bool × Nat→List (Go.Ax.Edge (Bool × Nat))) (first:Bool × Nat) (lim:Int) (hl0:1≤lim) (hl1:lim≤2000000) (hok0:ok first)
 (hfin:∀ k,ok k→z0w Tryz.prog 53 [scP k,.ptr (1,4) 0] [((1,4),b1),((1,14),b2)] [] (B (fin k))) (hedg:∀ k,ok k→z0w Tryz.prog 54 [scP k,.ptr (1,4) 0] [((1,4),b1),((1,14),b2)] [] (.d (.slice ((edg k).map sed)))) (hE:∀ k,ok k→edE (edg k)∧∀ e∈edg k,ok e.2.2)
 (H:Hf) (hb1:H 0 4=some b1) (hb2:H 0 14=some b2) :
 Ab.Spec Tryz.prog 58 [scP first,.fn (.func 53) [] [.ptr (0,4) 0],.fn (.func 54) [] [.ptr (0,4) 0],I .i64 lim] H (fun r H'=>r=.v (exR (exL fin edg lim.toNat (lim.toNat+1) 0 [first] ⟨[],[]⟩))∧H'=H):=by
 have hb:∀ (n:Nat) (tm:List (Nat × PV)) (hp:Hp),BkE ⟨n,tm,hp,H⟩ [((1,4),b1),((1,14),b2)]:=fun n tm hp=>by simp[BkE,z3m,push,hb1,hb2]
 refine z08 Tryz.func58 (by kernel_rfl) rfl (by simp) ?_
 dsimp only[Tryz.f58]
 repeat' (first|(apply z1b;(first|refine zra (by decide) rfl ?_|refine y17 (et:=3) (a:=first) (v:=z4n 0) (py:=scP first) (q:=([]:List ((Bool × Nat) × D))) (by kernel_rfl) yb2 rfl rfl ybf rfl rfl rfl ?_))|(apply z2n;(refine z0j z5k ?_))|(apply y2y;(refine y03 rfl rfl rfl rfl rfl rfl rfl rfl rfl (by decide) ?_))|refine z05 ?_|fail)
 refine z2i 24 1000 ?_
 refine z3n 10 0 1001 4 1 rfl rfl rfl rfl ?_
 refine z3n 10 1 1002 96 1 rfl rfl rfl rfl ?_
 generalize hres:exL fin edg lim.toNat (lim.toNat+1) 0 [first] ⟨[],[]⟩=res
 refine z0l ?_
 refine z01 (z0x (fun q:Nat × List (Bool × Nat) × Au=>⟨128,[(1,.fn (.func 53) [] [.ptr (1,4) 0]),(2,.fn (.func 54) [] [.ptr (1,4) 0]),(3,I .i64 lim),(8,.ptr (0,8) 0),(10,.ptr (0,10) 0),(11,.ref (0,20)),(12,.ref (0,1000)),(13,I .i64 (q.1:Nat))],[(20,mpS q.2.1),(1000,.row 110 2 (q.2.1.map scc)),(10,.box [.ref (0,1001),.ref (0,1002)]),(1001,.row 4 1 (q.2.2.F.map boc)),(1002,.row 96 1 (q.2.2.A.map zeh)),(8,.box [.d (.lit z2w),.d (.lit z2w)])],H⟩) (fun q=>q.1≤q.2.1.length∧1≤q.2.1.length∧q.2.1.length≤lim.toNat∧q.2.2.F.length=q.1∧q.2.2.A.length=q.1∧(∀ x∈q.2.1,ok x)∧exL fin edg lim.toNat (lim.toNat+1-q.1) q.1 q.2.1 q.2.2=res) (fun q=>lim.toNat+1-q.1) ?_ (0,[first],⟨[],[]⟩) ⟨zAf _,zAj _,by simp only[zAn];omega,rfl,rfl,fun x hx=>by rw[zAq] at hx;rw[hx];exact hok0,hres⟩) rfl rfl
 rintro⟨i,ks,⟨F,A⟩⟩ ⟨i1,i2,i3,i4,i5,i7,i6⟩ ih
 simp only at i1 i2 i3 i4 i5 i6 i7 ih ⊢
 by_cases hlt:i<ks.length
 · obtain⟨k,hk⟩:∃ k,ks[i]? =some k:=⟨_,zA0 hlt⟩
   obtain⟨n,hn⟩:∃ n,lim.toNat+1-i=n+1:=⟨lim.toNat-i,by omega⟩
   rw[hn,exL,hk] at i6
   simp only at i6
   have hok:=i7 k (zA2 hk)
   have hff:=hfin k hok
   have hee:=hedg k hok
   obtain⟨⟨hE1,hE2⟩,hE3⟩:=hE k hok
   generalize edg k=es at *
   generalize fin k=fb at *
   repeat' (first|(apply z0i;(refine z0c (zih hk rfl rfl) rfl rfl ?_))|(apply z09;(refine z0c (z8r rfl) rfl rfl ?_))|(apply z1q;(refine z0c (z6f rfl) rfl rfl ?_))|(apply z03;(refine zre (first:=[]) (cap:=xB) (ps:=[xP k]) hee rfl rfl (hb _ _ _) (by decide) ?_))|refine z05 ?_|refine fk (fun _=>?_) (fun _=>?_))
   all_goals try (exfalso;simp only[zA4] at *;omega)
   refine z1t 14 1003 98 3 rfl rfl rfl ?_
   refine z0l ?_
   refine z01 (z0x (fun q:Nat × List xK × List Arc=>⟨128,[(1,.fn (.func xF) [] xA),(2,.fn (.func xH) [] xB),(3,I .i64 lim),(8,.ptr (0,8) 0),(10,.ptr (0,10) 0),(11,.ref (0,20)),(12,.ref (0,1000)),(13,I .i64 (i:Nat)),(14,.ref (0,1003)),(36,.d (.slice (es.map xE))),(37,I .i64 es.length),(38,I .i64 (q.1:Nat))],[(20,xM q.2.1),(1000,.row xT 2 (q.2.1.map xC)),(1003,.row 98 3 (q.2.2.map zfk)),(10,.box [.ref (0,1001),.ref (0,1002)]),(1001,.row 4 1 (F.map boc)),(1002,.row 96 1 (A.map zeh)),(8,.box [.d (.lit z2w),.d (.lit z2w)])],H⟩) (fun q=>q.1≤es.length∧q.2.2.length≤q.1∧q.2.1.length≤ks.length+q.1∧q.2.1[i]? =some k∧(∀ y∈q.2.2,0≤y.2.1∧y.2.1≤1114111)∧(∀ x∈q.2.1,ok x)∧(es.drop q.1).foldl zbs q.2=es.foldl zbs (ks,[])) (fun q=>es.length-q.1) ?_ (0,ks,[]) ⟨zAf _,zAj _,zAj _,hk,by simp,i7,rfl⟩) rfl rfl
   rintro⟨j,ks2,arcs⟩ ⟨j1,j2,j3,j4,j5,j7,j6⟩ ihj
   simp only at j1 j2 j3 j4 j5 j6 j7 ihj ⊢
   by_cases hjl:j<es.length
   · obtain⟨e,he⟩:∃ e,es[j]? =some e:=⟨_,zA0 hjl⟩
     obtain⟨r1,r2,r3⟩:=hE2 e (zA2 he)
     rw[drop_cons he,List.foldl_cons,zbs] at j6
     simp only at j6
     have hal:=zw4 ks2 e.2.2
     have hln:=y4g arcs e.1 e.2.1 (z63 e.2.2 ks2:Nat)
     have ihj':=ihj (j+1,zac ks2 e.2.2,ext arcs e.1 e.2.1 (z63 e.2.2 ks2:Nat)) ⟨by simp only;omega,by simp only;omega,by simp only;omega,by simp only;obtain⟨x,hx⟩:=zc7 ks2 e.2.2;rw[hx,zAb (zA1.1 j4).1];exact j4,fun y hy=>by
      rcases ext_mem hy with h|h
      · omega
      · exact j5 y h,fun x hx=>by
      rcases zq1 hx with h|h
      · rw[h];exact hE3 e (zA2 he)
      · exact j7 x h,j6⟩ (by simp only;omega)
     have hget:=zlf e.2.2 ks2 0
     clear ihj hal
     by_cases hknown:e.2.2∈ks2
     · rw[zac,zAz hknown] at ihj'
       rw[zAz hknown,Nat.zero_add] at hget
       have hget1:(zeb (z8q 0 ks2) e.2.2).getD (.lit (.int .i64 0))=z4n (z63 e.2.2 ks2:Nat):=by rw[hget];rfl
       have hget2:(zeb (z8q 0 ks2) e.2.2).isSome=true:=by rw[hget];rfl
       generalize z63 e.2.2 ks2=qv at *
       rcases y4y arcs with rfl|⟨m,y,rfl⟩
       · rw[ext_nil] at ihj'
         repeat' (first|(apply z1b;(refine z0j (z8c (et:=3) (a:=e.2.2) (q:=z8q 0 ks2) (z0:=Value.int .i64 0) (py:=xP e.2.2) (by kernel_rfl) xG (z6y (by kernel_rfl)) rfl rfl rfl xW rfl hget1 hget2 (by decide)) ?_))|(apply z09;(refine z0c (z1n (ys:=es.map xE) rfl (idx he)) rfl rfl ?_))|(apply z1q;(first|refine z0c (z3j rfl) rfl rfl ?_| refine z6h (g:=zfk) rfl rfl (e.1,e.2.1,((qv:Nat):Int)) rfl rfl rfl rfl rfl rfl rfl (by decide) (by simp) ?_))|refine z05 ?_|refine fk (fun _=>?_) (fun _=>?_))
         all_goals try (exfalso;first|omega|(simp at *;done))
         all_goals skip
         all_goals exact zD108
       · have hy:=j5 y (by simp)
         have hal:((m++[y]).map zfk).length=m.length+1:=by simp
         have hal2:(m++[y]).length=m.length+1:=by simp
         have hix:(m++[y])[(((((m++[y]).length:Nat):Int)-1)).toNat]? =some y:=by
          exact zD119
         have hse:(m++[y]).set (((((m++[y]).length:Nat):Int)-1)).toNat ((y.1,e.2.1,y.2.2):Arc)=m++[(y.1,e.2.1,y.2.2)]:=by
          exact zD119
         rw[z9s] at ihj'
         by_cases hj:y.2.1+1=e.1∧y.2.2=(qv:Nat)
         · have hyq:(y.1,e.2.1,((qv:Nat):Int))=((y.1,e.2.1,y.2.2):Arc):=by rw[hj.2]
           rw[zAz hj,hyq] at ihj'
           repeat' (first|(apply z1b;(refine z0j (z8c (et:=3) (a:=e.2.2) (q:=z8q 0 ks2) (z0:=Value.int .i64 0) (py:=xP e.2.2) (by kernel_rfl) xG (z6y (by kernel_rfl)) rfl rfl rfl xW rfl hget1 hget2 (by decide)) ?_))|(apply z0e;(first|refine z0k (z0m (u:=z1j y.2.1) hix) rfl rfl ?_| refine z0k (z0m (u:=z4n y.2.2) hix) rfl rfl ?_))|(apply z09;(first|refine z0c (z1n (ys:=es.map xE) rfl (idx he)) rfl rfl ?_| refine z0c (z8r rfl) rfl rfl ?_))|(apply z06;(refine z0k (z8r rfl) rfl rfl ?_))|(apply z1l;(refine z0k (z1f (zab (by omega) (by omega))) rfl rfl ?_))|(apply z1q;(first|refine z0c (z3j rfl) rfl rfl ?_| refine z47 (g:=zfk) (e.1,e.2.1,((qv:Nat):Int)) rfl ?_))|(apply z0o;(refine zdw ((y.1,e.2.1,y.2.2):Arc) hix hse ?_))|refine z05 ?_|refine fk (fun _=>?_) (fun _=>?_)|(refine z16 (fun hg=>?_) (fun hg=>?_)<;> simp only[hg] <;> (try simp only[zA3,zA5,zA6,zA8] at hg)))
           all_goals try (exfalso;omega)
           all_goals skip
           all_goals exact z01 ihj' rfl rfl
         · rw[zAy hj] at ihj'
           repeat' (first|(apply z1b;(refine z0j (z8c (et:=3) (a:=e.2.2) (q:=z8q 0 ks2) (z0:=Value.int .i64 0) (py:=xP e.2.2) (by kernel_rfl) xG (z6y (by kernel_rfl)) rfl rfl rfl xW rfl hget1 hget2 (by decide)) ?_))|(apply z0e;(first|refine z0k (z0m (u:=z1j y.2.1) hix) rfl rfl ?_| refine z0k (z0m (u:=z4n y.2.2) hix) rfl rfl ?_))|(apply z09;(first|refine z0c (z1n (ys:=es.map xE) rfl (idx he)) rfl rfl ?_| refine z0c (z8r rfl) rfl rfl ?_))|(apply z06;(refine z0k (z8r rfl) rfl rfl ?_))|(apply z1l;(refine z0k (z1f (zab (by omega) (by omega))) rfl rfl ?_))|(apply z1q;(first|refine z0c (z3j rfl) rfl rfl ?_| refine z47 (g:=zfk) (e.1,e.2.1,((qv:Nat):Int)) rfl ?_))|(apply z0o;(refine zdw ((y.1,e.2.1,y.2.2):Arc) hix hse ?_))|refine z05 ?_|refine fk (fun _=>?_) (fun _=>?_)|(refine z16 (fun hg=>?_) (fun hg=>?_)<;> simp only[hg] <;> (try simp only[zA3,zA5,zA6,zA8] at hg)))
           all_goals try (exfalso;omega)
           all_goals skip
           all_goals exact zD108
     · rw[zac,zAy hknown,z88 hknown] at ihj'
       rw[z88 hknown] at hln
       rw[zAy hknown] at hget
       have hget1:(zeb (z8q 0 ks2) e.2.2).getD (.lit (.int .i64 0))=z4n 0:=by rw[hget];rfl
       have hget2:(zeb (z8q 0 ks2) e.2.2).isSome=false:=by rw[hget];rfl
       have hput:=zvq hknown
       dsimp only[xM] at ihj'
       rw[← hput] at ihj'
       rcases y4y arcs with rfl|⟨m,y,rfl⟩
       · rw[ext_nil] at ihj'
         repeat' (first|(apply z1b;(refine z0j (z8c (et:=3) (a:=e.2.2) (q:=z8q 0 ks2) (z0:=Value.int .i64 0) (py:=xP e.2.2) (by kernel_rfl) xG (z6y (by kernel_rfl)) rfl rfl rfl xW rfl hget1 hget2 (by decide)) ?_))|(apply z09;(refine z0c (z1n (ys:=es.map xE) rfl (idx he)) rfl rfl ?_))|(apply z1q;(first|refine z0c (z3j rfl) rfl rfl ?_| refine z47 (g:=xC) e.2.2 rfl ?_| refine z6h (g:=zfk) rfl rfl (e.1,e.2.1,((ks2.length:Nat):Int)) rfl rfl rfl rfl rfl rfl rfl (by decide) (by simp) ?_))|refine z05 ?_|refine fk (fun _=>?_) (fun _=>?_)|(apply z1b;(refine zjp (et:=3) (a:=e.2.2) (v:=z4n (ks2.length:Nat)) (py:=xP e.2.2) (q:=z8q 0 ks2) (by kernel_rfl) xG rfl rfl xW rfl rfl rfl ?_)))
         all_goals try (exfalso;first|omega|(simp at *;done))
         all_goals refine z2i 61 1000 ?_
         all_goals exact zD108
       · have hy:=j5 y (by simp)
         have hal:((m++[y]).map zfk).length=m.length+1:=by simp
         have hal2:(m++[y]).length=m.length+1:=by simp
         have hix:(m++[y])[(((((m++[y]).length:Nat):Int)-1)).toNat]? =some y:=by
          exact zD119
         have hse:(m++[y]).set (((((m++[y]).length:Nat):Int)-1)).toNat ((y.1,e.2.1,y.2.2):Arc)=m++[(y.1,e.2.1,y.2.2)]:=by
          exact zD119
         rw[z9s] at ihj'
         by_cases hj:y.2.1+1=e.1∧y.2.2=(ks2.length:Nat)
         · have hyq:(y.1,e.2.1,((ks2.length:Nat):Int))=((y.1,e.2.1,y.2.2):Arc):=by rw[hj.2]
           rw[zAz hj,hyq] at ihj'
           repeat' (first|(apply z1b;(refine z0j (z8c (et:=3) (a:=e.2.2) (q:=z8q 0 ks2) (z0:=Value.int .i64 0) (py:=xP e.2.2) (by kernel_rfl) xG (z6y (by kernel_rfl)) rfl rfl rfl xW rfl hget1 hget2 (by decide)) ?_))|(apply z0e;(first|refine z0k (z0m (u:=z1j y.2.1) hix) rfl rfl ?_| refine z0k (z0m (u:=z4n y.2.2) hix) rfl rfl ?_))|(apply z09;(first|refine z0c (z1n (ys:=es.map xE) rfl (idx he)) rfl rfl ?_| refine z0c (z8r rfl) rfl rfl ?_))|(apply z06;(refine z0k (z8r rfl) rfl rfl ?_))|(apply z1l;(refine z0k (z1f (zab (by omega) (by omega))) rfl rfl ?_))|(apply z1q;(first|refine z0c (z3j rfl) rfl rfl ?_| refine z47 (g:=xC) e.2.2 rfl ?_| refine z47 (g:=zfk) (e.1,e.2.1,((ks2.length:Nat):Int)) rfl ?_))|(apply z0o;(refine zdw ((y.1,e.2.1,y.2.2):Arc) hix hse ?_))|refine z05 ?_|refine fk (fun _=>?_) (fun _=>?_)|(apply z1b;(refine zjp (et:=3) (a:=e.2.2) (v:=z4n (ks2.length:Nat)) (py:=xP e.2.2) (q:=z8q 0 ks2) (by kernel_rfl) xG rfl rfl xW rfl rfl rfl ?_))|(refine z16 (fun hg=>?_) (fun hg=>?_)<;> simp only[hg] <;> (try simp only[zA3,zA5,zA6,zA8] at hg)))
           all_goals try (exfalso;omega)
           all_goals refine z2i 61 1000 ?_
           all_goals exact z01 ihj' rfl rfl
         · rw[zAy hj] at ihj'
           repeat' (first|(apply z1b;(refine z0j (z8c (et:=3) (a:=e.2.2) (q:=z8q 0 ks2) (z0:=Value.int .i64 0) (py:=xP e.2.2) (by kernel_rfl) xG (z6y (by kernel_rfl)) rfl rfl rfl xW rfl hget1 hget2 (by decide)) ?_))|(apply z0e;(first|refine z0k (z0m (u:=z1j y.2.1) hix) rfl rfl ?_| refine z0k (z0m (u:=z4n y.2.2) hix) rfl rfl ?_))|(apply z09;(first|refine z0c (z1n (ys:=es.map xE) rfl (idx he)) rfl rfl ?_| refine z0c (z8r rfl) rfl rfl ?_))|(apply z06;(refine z0k (z8r rfl) rfl rfl ?_))|(apply z1l;(refine z0k (z1f (zab (by omega) (by omega))) rfl rfl ?_))|(apply z1q;(first|refine z0c (z3j rfl) rfl rfl ?_| refine z47 (g:=xC) e.2.2 rfl ?_| refine z47 (g:=zfk) (e.1,e.2.1,((ks2.length:Nat):Int)) rfl ?_))|(apply z0o;(refine zdw ((y.1,e.2.1,y.2.2):Arc) hix hse ?_))|refine z05 ?_|refine fk (fun _=>?_) (fun _=>?_)|(apply z1b;(refine zjp (et:=3) (a:=e.2.2) (v:=z4n (ks2.length:Nat)) (py:=xP e.2.2) (q:=z8q 0 ks2) (by kernel_rfl) xG rfl rfl xW rfl rfl rfl ?_))|(refine z16 (fun hg=>?_) (fun hg=>?_)<;> simp only[hg] <;> (try simp only[zA3,zA5,zA6,zA8] at hg)))
           all_goals try (exfalso;omega)
           all_goals refine z2i 61 1000 ?_
           all_goals exact zD108
   · obtain rfl:j=es.length:=by omega
     rw[zAs,List.foldl_nil] at j6
     rw[← j6] at i6
     simp only at i6
     have hi2:=(zA1.1 j4).1
     refine z13 1003 rfl ?_
     by_cases hlim:lim.toNat<ks2.length
     · rw[zAz hlim] at i6
       rw[← i6]
       all_goals exact zD96
     · rw[zAy hlim] at i6
       have ih':=ih (i+1,ks2,⟨F++[fb],A++[arcs]⟩) ⟨by simp only;omega,by simp only;omega,by simp only;omega,by simp[i4],by simp[i5],j7,by rw[← i6];simp only;rw[show lim.toNat+1-(i+1)=n by omega]⟩ (by simp only;omega)
       simp only at ih'
       repeat' (first|(apply z0e;(refine z0k (zih j4 rfl rfl) rfl rfl ?_))|(apply z06;(refine z0k (z1m rfl (by simp only[zA4];omega)) rfl rfl ?_))|(apply z1q;(first|refine z0c (z3j rfl) rfl rfl ?_| refine z47 (g:=zeh) arcs rfl ?_))|(apply z9a;(refine za6 (g:=boc) (by first|exact rfl|exact⟨_,rfl,rfl,rfl⟩) rfl rfl fb rfl rfl rfl rfl rfl rfl rfl (by decide) (by omega) ?_))|(apply z0p;(refine ya2 (first:=[]) (cap:=xA) (ps:=[xP k]) hff (by first|exact rfl|exact⟨_,rfl,rfl,rfl⟩) rfl rfl (hb _ _ _) (by decide) ?_))|(apply z15;(refine zuy (by first|exact rfl|exact⟨_,rfl,rfl,rfl⟩) rfl rfl rfl rfl rfl ?_))|refine z05 ?_|refine fk (fun _=>?_) (fun _=>?_))
       all_goals try (exfalso;omega)
       all_goals refine z2i 119 1001 ?_
       all_goals refine z2i 125 1002 ?_
       all_goals exact z01 ih' rfl rfl
 · obtain rfl:i=ks.length:=by omega
   obtain⟨n,hn⟩:∃ n,lim.toNat+1-ks.length=n+1:=⟨lim.toNat-ks.length,by omega⟩
   rw[hn,exL,zAv (zAj _)] at i6
   simp only at i6
   rw[← i6]
   refine z13 1001 rfl ?_
   refine z13 1002 rfl ?_
   all_goals exact zD96
end Go.Proofs.YtmcggompdmngmaaGreatDoor
namespace Go.Proofs.YtmcggompdmngmaaGreatDoor
open Go.Ab Go.Ax Go.Rx
set_option maxHeartbeats 20000000
set_option maxRecDepth 100000
attribute [local irreducible] Run Ops Op1 z14 Val Tr z0d z0w NF Rel z1z z27
section
variable (lv:List (List Rg)) (f l:Nat) (fo:List Nat) (nu:Bool)
abbrev bsC:List (Nm × Blk):=[((1,4),.box [.ptr (0,14) 0]),((1,14),tbx lv f l fo nu)]
theorem y3e (k:Bool × Nat) (hk:k.2<2 ^ 64) (hl:l<2 ^ 64):z0w Tryz.prog 53 [scP k,.ptr (1,4) 0] (bsC lv f l fo nu) [] (B ((k.1&&nu)||decide (k.2 &&& l≠0))):=by
 refine z10 fun H hH=>?_
 have h4:H 1 4=some (.box [.ptr (0,14) 0]):=hH ((1,4),.box [.ptr (0,14) 0]) (by simp)
 have h14:H 1 14=some (tbx lv f l fo nu):=hH ((1,14),tbx lv f l fo nu) (by simp)
 obtain⟨b,S⟩:=k
 have hfin:(!decide (zef .u64 (S:Nat) (l:Nat)=0))=decide (S &&& l≠0):=by
  rw[zw0 hk hl,← decide_not]
  exact decide_eq_decide.2 (by rw[Ne,not_congr];exact_mod_cast Iff.rfl)
 simp only[← hfin]
 refine z08 Tryz.func53 (by kernel_rfl) rfl (by simp) ?_
 dsimp only[Tryz.f53]
 cases b <;> cases nu
 all_goals repeat' (first|(apply z0e;(first|refine z4c h14 ?_| refine z4c h4 ?_))|(apply z1l;(refine z0k z4k rfl rfl ?_))|(apply z2n;(refine z0j z5k ?_))|refine z05 ?_|fail)
 all_goals exact z00 Tryz.func53 _ z11 ⟨rfl,rfl⟩
def z73 (N:Nat):Nat→List (List Rg)→List (List Rg)
 | _,[]=>[]
 | k,r::ls=>if N.testBit k=true then r::z73 N (k+1) ls else z73 N (k+1) ls
theorem ztn (N:Nat) {lv:List (List Rg)} {k:Nat} {r:List Rg} (hr:lv[k]? =some r):z73 N k (lv.drop k)=(if N.testBit k=true then [r] else [])++z73 N (k+1) (lv.drop (k+1)):=by
 obtain⟨h1,h2⟩:=zA1.1 hr
 rw[List.drop_eq_getElem_cons h1,h2,z73]
 split <;> simp
theorem z6p (N:Nat):∀ (lv:List (List Rg)) (k:Nat),∀ r∈z73 N k lv,r∈lv
 | [],_,r,h=>by simp[z73] at h
 | x::ls,k,r,h=>by
  rw[z73] at h
  split at h
  · rcases zAc.1 h with rfl|h
    · simp
    · exact List.mem_cons_of_mem _ (z6p N ls _ r h)
  · exact List.mem_cons_of_mem _ (z6p N ls _ r h)
theorem zfu (N:Nat):∀ (lv:List (List Rg)) (k:Nat),(z73 N k lv).length≤lv.length
 | [],_=>by simp[z73]
 | x::ls,k=>by
  have:=zfu N ls (k+1)
  rw[z73];split <;> simp <;> omega
def nxN (f:Nat) (fo:List Nat) (k:Bool × Nat):Nat:=if k.1=true then f else nxF k.2 0 0 fo
def zfb (N:Nat) (lv:List (List Rg)) (c:Int):Nat:=rdF (fun c l=>inR l c) c N 0 0 lv
def cE (N:Nat) (lv:List (List Rg)) (pts:List Int) (i:Nat):Option (Go.Ax.Edge (Bool × Nat)) :=
 if zfb N lv (pts.getD i 0)=0 then none else some (pts.getD i 0,pts.getD (i+1) 0-1,(false,zfb N lv (pts.getD i 0)))
def zae (N:Nat) (lv:List (List Rg)):List Int:=zav (z73 N 0 lv)
def z7e (N:Nat) (lv:List (List Rg)):List (Go.Ax.Edge (Bool × Nat)):=(List.range ((zae N lv).length-1)).filterMap (cE N lv (zae N lv))
theorem y2l {M:Nat} (hS:znw M) (hM:M≤200000000) (k:Bool × Nat) (hk:k.2<2 ^ 64) (hf:f<2 ^ 64) (hfo:fo.length=lv.length) (hl64:lv.length≤64) (hfx:∀ x∈fo,x<2 ^ 64) (hlr:∀ r∈lv,∀ x∈r,0≤x.1∧x.1≤1114111∧0≤x.2∧x.2≤1114111) (hln:∀ r∈lv,r.length≤200000000)
 (hsz:∀ N:Nat,(z4w (z73 N 0 lv)).length≤M) :
 z0w Tryz.prog 54 [scP k,.ptr (1,4) 0] (bsC lv f l fo nu) [] (.d (.slice ((z7e (nxN f fo k) lv).map sed))):=by
 refine z10 fun H hH=>?_
 have h4:H 1 4=some (.box [.ptr (0,14) 0]):=hH ((1,4),.box [.ptr (0,14) 0]) (by simp)
 have h14:H 1 14=some (tbx lv f l fo nu):=hH ((1,14),tbx lv f l fo nu) (by simp)
 obtain⟨b,S⟩:=k
 have hnx:=zn4 (X:=14) lv f l fo nu S hk (by omega) hfx b 2
 change z0w Tryz.prog 55 [.ptr (2,14) 0,I .u64 (S:Nat),B b] [((2,14),tbx lv f l fo nu)] [] (I .u64 ((nxN f fo (b,S):Nat):Int)) at hnx
 have hNl:nxN f fo (b,S)<2 ^ 64:=by
  rw[nxN]
  split
  · exact hf
  · exact zpj S fo 0 0 (by decide) hfx
 generalize nxN f fo (b,S)=N at *
 have hrr:∀ r∈z73 N 0 lv,∀ x∈r,0≤x.1∧x.1≤1114111∧0≤x.2∧x.2≤1114111:=fun r hr=>hlr r (z6p N lv 0 r hr)
 have hal:=zfu N lv 0
 have hcuts:=y6v hS (z73 N 0 lv) (hsz N) hM hrr (by omega) (fun r hr=>hln r (z6p N lv 0 r hr))
 have hpr:=zgb hrr
 have hpl:=zy7 (z73 N 0 lv)
 have hpl2:(zav (z73 N 0 lv)).length≤200000000:=by have:=y29 (Go.Ax.srt (z4w (z73 N 0 lv)));rw[Go.Ax.zt3] at this;have:=hsz N;rw[zav];omega
 have hEq:z7e N lv=(List.range ((zae N lv).length-1)).filterMap (cE N lv (zae N lv)):=rfl
 rw[hEq]
 change z0d Tryz.prog 56 [.d (lvs (z73 N 0 lv))] (.d (.slice ((zae N lv).map rcc))) at hcuts
 change ∀ z∈zae N lv,0≤z∧z≤1114112 at hpr
 change 1≤(zae N lv).length at hpl
 change (zae N lv).length≤200000000 at hpl2
 generalize zae N lv=pts at *
 clear hEq
 refine z08 Tryz.func54 (by kernel_rfl) rfl (by simp) ?_
 dsimp only[Tryz.f54]
 repeat' (first|(apply z0i;(first|refine z2r h14 ?_| refine z2r h4 ?_))|(apply z03;(refine z0s hnx (bkN h14) ?_))|(apply z2n;(refine z0j z5k ?_))|refine z05 ?_|fail)
 all_goals try (exfalso;omega)
 refine z1t 5 1001 48 1 rfl rfl rfl ?_
 refine z0l ?_
 refine z01 (z0x (fun q:Nat × List (List Rg)=>⟨99,[(1,.ptr (2,4) 0),(2,.ptr (0,2) 0),(3,.d (.lit z2w)),(4,I .u64 (N:Nat)),(5,.ref (0,1001)),(23,.d (lvs lv)),(24,I .i64 lv.length),(25,I .i64 (q.1:Nat))],[(1001,.row 48 1 (q.2.map fun r=>[rgs r]))],H⟩) (fun q=>q.1≤lv.length∧q.2.length≤q.1∧q.2++z73 N q.1 (lv.drop q.1)=z73 N 0 lv) (fun q=>lv.length-q.1) ?_ (0,[]) ⟨zAf _,zAj _,rfl⟩) rfl rfl
 rintro⟨i,acc⟩ ⟨i1,i2,i3⟩ ih
 simp only at i1 i2 i3 ih ⊢
 by_cases hlt:i<lv.length
 · obtain⟨r,hr⟩:∃ r,lv[i]? =some r:=⟨_,zA0 hlt⟩
   have hbt:=zto (S:=N) (i:=i) hNl (by omega)
   rw[ztn N hr] at i3
   by_cases htb:N.testBit i=true
   · rw[zAz htb] at hbt i3
     have ih':=ih (i+1,acc++[r]) ⟨by simp only;omega,by simp;omega,by simp only;rw[← i3,zAl]⟩ (by simp only;omega)
     repeat' (first|(apply z09;(refine z0c (z1n (ys:=lv.map fun r=>[rgs r]) rfl (idx (g:=fun r=>[rgs r]) hr)) rfl rfl ?_))|(apply z0v;(first|refine z0c (z9n (by omega)) rfl rfl ?_| refine z0c z4k rfl rfl ?_))|(apply z1q;(refine z47 (g:=fun r:List Rg=>[rgs r]) r rfl ?_))|refine z05 ?_|refine fk (fun _=>?_) (fun _=>?_))
     all_goals try (exfalso;omega)
     all_goals refine z2i 38 1001 ?_
     all_goals exact z01 ih' rfl rfl
   · rw[zAy htb] at hbt i3
     have ih':=ih (i+1,acc) ⟨by simp only;omega,by simp only;omega,by simp only;rw[← i3,List.nil_append]⟩ (by simp only;omega)
     repeat' (first|(apply z09;(refine z0c (z1n (ys:=lv.map fun r=>[rgs r]) rfl (idx (g:=fun r=>[rgs r]) hr)) rfl rfl ?_))|(apply z0v;(first|refine z0c (z9n (by omega)) rfl rfl ?_| refine z0c z4k rfl rfl ?_))|refine z05 ?_|refine fk (fun _=>?_) (fun _=>?_))
     all_goals exact zD12
 · obtain rfl:i=lv.length:=by omega
   rw[zAs,z73,List.append_nil] at i3
   subst i3
   clear ih
   refine z13 1001 rfl ?_
   repeat' (first|(apply z03;(refine z1i hcuts ?_))|refine z05 ?_|refine fk (fun _=>?_) (fun _=>?_))
   all_goals try (exfalso;omega)
   refine z1t 8 1002 121 4 rfl rfl rfl ?_
   refine z0l ?_
   refine z01 (z0x (fun q:Nat=>⟨99,[(1,.ptr (2,4) 0),(3,.d (.lit z2w)),(4,I .u64 (N:Nat)),(8,.ref (0,1002)),(9,.d (.slice (pts.map rcc))),(44,I .i64 ((pts.length:Int)-1)),(45,I .i64 (q:Nat))],[(1002,.row 121 4 (((List.range q).filterMap (cE N lv pts)).map sed))],H⟩) (fun q=>q≤pts.length-1) (fun q=>pts.length-1-q) ?_ 0 (zAf _)) rfl rfl
   intro i hi ih
   by_cases hlt2:i<pts.length-1
   · obtain⟨x,hx⟩:∃ x,pts[i]? =some x:=⟨_,zA0 (by omega)⟩
     obtain⟨y,hy⟩:∃ y,pts[i+1]? =some y:=⟨_,zA0 (by omega)⟩
     have hyi:pts[(((i:Nat):Int)+1).toNat]? =some y:=by rw[show (((i:Nat):Int)+1).toNat=i+1 by omega];exact hy
     have hxr:=hpr x (zA2 hx)
     have hyr:=hpr y (zA2 hy)
     have hfl:=z97 (cE N lv pts) (List.range i)
     rw[List.length_range] at hfl
     have ih':=ih (i+1) (by omega) (by omega)
     have hstep:(List.range (i+1)).filterMap (cE N lv pts)=(List.range i).filterMap (cE N lv pts)++(cE N lv pts i).toList:=by
      rw[List.range_succ,List.filterMap_append];simp[List.filterMap_cons];cases cE N lv pts i <;> rfl
     rw[hstep,cE,zdg hx,zdg hy] at ih'
     clear ih hstep
     generalize (List.range i).filterMap (cE N lv pts)=out at *
     obtain⟨m,hm⟩:∃ m,zfb N lv x=m:=⟨_,rfl⟩
     have hml:m<2 ^ 64:=by rw[← hm];exact zrl _ _ _ hl64 (by decide)
     rw[hm] at ih'
     rw[zfb] at hm
     repeat' (first|(apply z0i;(first|refine z2r h14 ?_| refine z2r h4 ?_))|refine z05 ?_|refine fk (fun _=>?_) (fun _=>?_))
     all_goals try (exfalso;first|omega|(simp at *;done))
     refine z0l ?_
     refine z01 (z0x (fun q:Nat × Nat=>⟨99,[(1,.ptr (2,4) 0),(3,.d (.lit z2w)),(4,I .u64 (N:Nat)),(8,.ref (0,1002)),(9,.d (.slice (pts.map rcc))),(10,I .i64 (i:Nat)),(11,.ptr (0,11) 0),(44,I .i64 ((pts.length:Int)-1)),(45,I .i64 (i:Nat)),(52,.d (lvs lv)),(53,I .i64 lv.length),(54,I .i64 (q.1:Nat))],[(1002,.row 121 4 (out.map sed)),(11,.box [B false,I .u64 (q.2:Nat)])],H⟩) (fun q=>q.1≤lv.length∧q.2<2 ^ 64∧rdF (fun c l=>inR l c) x N q.1 q.2 (lv.drop q.1)=m) (fun q=>lv.length-q.1) ?_ (0,0) ⟨zAf _,by decide,hm⟩) rfl rfl
     rintro⟨k,B'⟩ ⟨n1,n2,n3⟩ ihn
     simp only at n1 n2 n3 ihn ⊢
     by_cases hk2:k<lv.length
     · obtain⟨r,hr⟩:∃ r,lv[k]? =some r:=⟨_,zA0 hk2⟩
       have hcl:=zl6 r (by have:=hln r (zA2 hr);omega) x
       rw[zlu _ _ _ hr] at n3
       have hbt:=zto (S:=N) (i:=k) hNl (by omega)
       have hsh:=y30 (i:=k) (by omega)
       have hp2:2 ^ k<2 ^ 64:=Nat.pow_lt_pow_right (by decide) (by omega)
       have hor:=zyt n2 hp2
       rw[← hsh] at hor
       rw[zs1] at hcl
       by_cases htb:N.testBit k=true
       · rw[zAz htb] at hbt
         cases hin:inR r x with
         | true =>
          rw[zAz ⟨htb,hin⟩] at n3
          rw[hin] at hcl
          have ihn':=ihn (k+1,B' ||| 2 ^ k) ⟨by simp only;omega,Nat.or_lt_two_pow n2 hp2,n3⟩ (by simp only;omega)
          dsimp only at ihn'
          rw[← hor] at ihn'
          all_goals exact zD38
         | false =>
          rw[zAy (fun h=>by rw[hin] at h;cases h.2)] at n3
          rw[hin] at hcl
          have ihn':=ihn (k+1,B') ⟨by simp only;omega,n2,n3⟩ (by simp only;omega)
          repeat' (first|(apply z09;(first|refine z0c (z1n (ys:=lv.map fun r=>[rgs r]) rfl (idx (g:=fun r=>[rgs r]) hr)) rfl rfl ?_| refine z0c (z1n (ys:=pts.map rcc) rfl (idx (g:=rcc) hx)) rfl rfl ?_))|(apply z06;(refine z0k (z1n (ys:=pts.map rcc) rfl (idx (g:=rcc) hx)) rfl rfl ?_))|(apply z0v;(first|refine z0c (z9n (by omega)) rfl rfl ?_| refine z0c z4k rfl rfl ?_))|(apply z03;(refine z1i hcl ?_))|refine z05 ?_|refine fk (fun _=>?_) (fun _=>?_))
          all_goals try (exfalso;omega)
          all_goals exact z01 ihn' rfl rfl
       · rw[zAy htb] at hbt
         rw[zAy (fun h=>htb h.1)] at n3
         have ihn':=ihn (k+1,B') ⟨by simp only;omega,n2,n3⟩ (by simp only;omega)
         all_goals exact zD38
     · obtain rfl:k=lv.length:=by omega
       rw[zAs,rdF] at n3
       subst n3
       clear ihn
       by_cases hz:B'=0
       · subst hz
         rw[zAz rfl,Option.toList_none,List.append_nil] at ih'
         repeat' (first|refine z05 ?_|refine fk (fun _=>?_) (fun _=>?_))
         all_goals try (exfalso;first|omega|(simp at *;done))
         all_goals exact z01 ih' rfl rfl
       · have hzi:¬ ((B':Nat):Int)=0:=by omega
         rw[zAy hz,Option.toList_some] at ih'
         repeat' (first|(apply z06;(first|refine z0k (z1n (ys:=pts.map rcc) rfl (idx (g:=rcc) hx)) rfl rfl ?_| refine z0k (z1n (ys:=pts.map rcc) rfl (zhv (g:=rcc) hyi)) rfl rfl ?_))|(apply z1l;(refine z0k (z1e (zab (by omega) (by omega))) rfl rfl ?_))|(apply z9a;(refine za6 (g:=sed) (by first|exact rfl|exact⟨_,rfl,rfl,rfl⟩) rfl rfl ((x,y-1,(false,B')):Go.Ax.Edge (Bool × Nat)) rfl rfl rfl rfl rfl rfl rfl (by decide) (by omega) ?_))|refine z05 ?_|refine fk (fun _=>?_) (fun _=>?_))
         all_goals try (exfalso;first|omega|(simp at *;done))
         all_goals refine z2i 96 1002 ?_
         all_goals exact z01 ih' rfl rfl
   · obtain rfl:i=pts.length-1:=by omega
     clear ih
     repeat' (first|refine z05 ?_|refine fk (fun _=>?_) (fun _=>?_))
     all_goals try (exfalso;omega)
     all_goals refine z13 1002 rfl ?_
     all_goals exact z00 Tryz.func54 _ z11 ⟨rfl,rfl⟩
end
theorem zi2 {N:Nat} {lv:List (List Rg)} {e:Go.Ax.Edge (Bool × Nat)} (h:e∈z7e N lv):∃ i x y,(zae N lv)[i]? =some x∧(zae N lv)[i+1]? =some y∧e=(x,y-1,(false,zfb N lv x))∧zfb N lv x≠0:=by
 rw[z7e,List.mem_filterMap] at h
 obtain⟨i,hi,he⟩:=h
 rw[List.mem_range] at hi
 obtain⟨x,hx⟩:∃ x,(zae N lv)[i]? =some x:=⟨_,zA0 (by omega)⟩
 obtain⟨y,hy⟩:∃ y,(zae N lv)[i+1]? =some y:=⟨_,zA0 (by omega)⟩
 rw[cE,zdg hx,zdg hy] at he
 split at he
 · cases he
 · rename_i hu
   simp only[zAh] at he
   exact⟨i,x,y,hx,hy,he.symm,hu⟩
theorem zyj {N:Nat} {lv:List (List Rg)} (hl64:lv.length≤64) (hlr:∀ r∈lv,∀ x∈r,0≤x.1∧x.1≤1114111∧0≤x.2∧x.2≤1114111):edE (z7e N lv)∧∀ e∈z7e N lv,e.2.2.2<2 ^ 64:=by
 have hr:=zgb (L:=z73 N 0 lv) fun r h=>hlr r (z6p N lv 0 r h)
 have hlt:=y0r (z73 N 0 lv)
 have hlen:=ztm (B:=1114112) hlt (fun z hz=>by have:=hr z hz;omega)
 refine⟨⟨?_,fun e he=>?_⟩,fun e he=>?_⟩
 · have:=z97 (cE N lv (zae N lv)) (List.range ((zae N lv).length-1))
   rw[List.length_range] at this
   rw[z7e];rw[zae] at *;omega
 · obtain⟨i,x,y,hx,hy,rfl,_⟩:=zi2 he
   have h1:=hr x (zA2 hx)
   have h2:=hr y (zA2 hy)
   have:x<y:=by
    obtain⟨a1,a2⟩:=zA1.1 hx
    obtain⟨b1,b2⟩:=zA1.1 hy
    have:=List.pairwise_iff_getElem.1 hlt i (i+1) a1 b1 (by omega)
    rw[← a2,← b2];exact this
   simp only;omega
 · obtain⟨i,x,y,hx,hy,rfl,_⟩:=zi2 he
   simp only;exact zrl _ _ _ hl64 (by decide)
def zrr (lv:List (List Rg)) (f l:Nat) (fo:List Nat) (nu:Bool):Option Au:=exL (fun k=>(k.1&&nu)||decide (k.2 &&& l≠0)) (fun k=>z7e (nxN f fo k) lv) 256 257 0 [(true,0)] ⟨[],[]⟩
def zd7 (e:Rx):Option Au:=zrr (bd e tb0).1.lv (bd e tb0).2.f (bd e tb0).2.l (bd e tb0).1.fo (bd e tb0).2.nu
theorem zsv {M:Nat} (hS:znw M) (hM:M≤200000000) (e:Rx) (hf:fit e) (h0:val e=0) (hbd:zhu 92 [.d (Drx e)] tb0 (bd e tb0)) (hsm:(bd e tb0).1.fo.length=(bd e tb0).1.lv.length∧(bd e tb0).1.lv.length≤64∧(∀ x∈(bd e tb0).1.fo,x<2 ^ 64)∧(bd e tb0).2.f<2 ^ 64∧(bd e tb0).2.l<2 ^ 64) (hlr:∀ r∈(bd e tb0).1.lv,∀ x∈r,0≤x.1∧x.1≤1114111∧0≤x.2∧x.2≤1114111) (hln:∀ r∈(bd e tb0).1.lv,r.length≤200000000)
 (hsz:∀ N:Nat,(z4w (z73 N 0 (bd e tb0).1.lv)).length≤M):z0d Tryz.prog 21 [.d (Drx e)] (y4q (zd7 e)):=by
 refine z0y fun H=>?_
 have hval:=z6a e hf
 have hof:=yba e hbd
 clear hbd
 rw[h0] at hval
 rw[zd7]
 dsimp only[ofB] at hof
 generalize hB:bd e tb0=r1 at *
 obtain⟨t1,p⟩:=r1
 obtain⟨lv,fo⟩:=t1
 obtain⟨hfo,hl64,hfx,pf,pl⟩:=hsm
 simp only at hfo hl64 hfx pf pl hof hlr hln hsz ⊢
 obtain⟨f,l,nu⟩:=p
 simp only at pf pl hof ⊢
 have hex:z0w Tryz.prog 58 [scP (true,0),.fn (.func 53) [] [.ptr (0,4) 0],.fn (.func 54) [] [.ptr (0,4) 0],I .i64 256] [((0,4),.box [.ptr (0,14) 0]),((0,14),tbx lv f l fo nu)] [] (exR (zrr lv f l fo nu)):=z10 fun H hH =>
  zp0 (.box [.ptr (0,14) 0]) (tbx lv f l fo nu) (fun k=>k.2<2 ^ 64) _ _ (true,0) 256 (by decide) (by decide) (by decide)
   (fun k hk=>y3e lv f l fo nu k hk pl) (fun k hk=>y2l lv f l fo nu hS hM k hk pf hfo hl64 hfx hlr hln hsz) (fun k hk=>zyj hl64 hlr) H (hH ((0,4),.box [.ptr (0,14) 0]) (by simp)) (hH ((0,14),tbx lv f l fo nu) (by simp))
 generalize zrr lv f l fo nu=o at *
 obtain⟨op,mn,mx,rs,ks⟩:=e
 rw[z2h] at hval hof ⊢
 cases o with
 | some x =>
  exact zD39
 | none =>
  exact zD39
end Go.Proofs.YtmcggompdmngmaaGreatDoor
