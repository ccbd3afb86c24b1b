/- A part of the proof: A13, A24, A25, A26, A15, A16. -/
import Derived.Test.YthdfkabdoidjfaaGreatDoorQ2
import Derived.Test.YthdfkabdoidjfaaGreatDoorQ1
import Derived.Test.YthdfkabdoidjfaaGreatDoorQc
set_option linter.all false
set_option linter.unusedVariables false
set_option linter.unusedSimpArgs false
namespace Go.Proofs.YthdfkabdoidjfaaGreatDoor
open Go.Ab Go.Ax
set_option maxHeartbeats 20000000
set_option maxRecDepth 100000
attribute [local irreducible] Run Ops Op1 z1t Val Tr z11 z1s NF Rel z43 z42
theorem zkl (b1 b2 b3 b4:Blk) (ok:Int→Prop) (fin:Int→Bool) (edg:Int→List (Go.Ax.Edge (Int))) (first:Int) (lim:Int) (hl0:1≤lim) (hl1:lim≤2000000) (hok0:ok first)
 (hfin:∀ k,ok k→z1s Tryz.prog 79 [I .i64 k,.ptr (1,2) 0,.ptr (1,8) 0] [((1,2),b1),((1,8),b2),((1,6),b3),((1,29),b4)] [] (B (fin k))) (hedg:∀ k,ok k→z1s Tryz.prog 80 [I .i64 k,.ptr (1,2) 0,.ptr (1,8) 0,.ptr (1,6) 0] [((1,2),b1),((1,8),b2),((1,6),b3),((1,29),b4)] [] (.d (za6 (edg k)))) (hE:∀ k,ok k→edE (edg k)∧∀ e∈edg k,ok e.2.2)
 (H:Hf) (hb1:H 0 2=some b1) (hb2:H 0 8=some b2) (hb3:H 0 6=some b3) (hb4:H 0 29=some b4) :
 Ab.Spec Tryz.prog 82 [I .i64 first,.fn (.func 79) [] [.ptr (0,2) 0,.ptr (0,8) 0],.fn (.func 80) [] [.ptr (0,2) 0,.ptr (0,8) 0,.ptr (0,6) 0],I .i64 lim] H (fun r H'=>r=.v (exR (exL fin edg lim.toNat (lim.toNat+1) 0 [first] ⟨[],[]⟩))∧H'=H):=by
 have hb:∀ (n:Nat) (tm:List (Nat × PV)) (hp:Hp),BkE ⟨n,tm,hp,H⟩ [((1,2),b1),((1,8),b2),((1,6),b3),((1,29),b4)]:=fun n tm hp=>by simp[BkE,z45,push,hb1,hb2,hb3,hb4]
 refine z0j Tryz.func82 (by kernel_rfl) rfl (by simp) ?_
 dsimp only[Tryz.f82]
 repeat' (first|(apply z07;(first|refine za0 (by decide) rfl ?_|refine zdb (et:=3) (a:=first) (v:=z2o 0) (py:=I .i64 first) (q:=([]:List ((Int) × D))) (by kernel_rfl) zb9 rfl rfl zc1 rfl rfl rfl ?_|refine z0o ?_| (apply z0e;(refine z05 z2e ?_))|(apply z1v;(refine zcp rfl rfl rfl rfl rfl rfl rfl rfl rfl (by decide) ?_))))|(apply z09;(first|refine z0n ?_|apply z0a))|(apply z08;(first|apply z0b|apply z00|apply z01)))
 refine z1w 24 1000 ?_
 refine z3t 10 0 1001 4 1 rfl rfl rfl rfl ?_
 refine z3t 10 1 1002 39 1 rfl rfl rfl rfl ?_
 generalize hres:exL fin edg lim.toNat (lim.toNat+1) 0 [first] ⟨[],[]⟩=res
 refine z1g ?_
 refine z0f (z2i (fun q:Nat × List (Int) × Au=>⟨128,[(1,.fn (.func 79) [] [.ptr (1,2) 0,.ptr (1,8) 0]),(2,.fn (.func 80) [] [.ptr (1,2) 0,.ptr (1,8) 0,.ptr (1,6) 0]),(3,I .i64 lim),(8,.ptr (0,8) 0),(10,.ptr (0,10) 0),(11,.ref (0,20)),(12,.ref (0,1000)),(13,I .i64 (q.1:Nat))],[(20,mpI q.2.1),(1000,.row 3 1 (q.2.1.map icc)),(10,.box [.ref (0,1001),.ref (0,1002)]),(1001,.row 4 1 (q.2.2.F.map boc)),(1002,.row 39 1 (q.2.2.A.map z4v)),(8,.box [.d (.lit z3h),.d (.lit z3h)])],H⟩) (fun q=>q.1≤q.2.1.length∧1≤q.2.1.length∧q.2.1.length≤lim.toNat∧q.2.2.F.length=q.1∧q.2.2.A.length=q.1∧(∀ x∈q.2.1,ok x)∧exL fin edg lim.toNat (lim.toNat+1-q.1) q.1 q.2.1 q.2.2=res) (fun q=>lim.toNat+1-q.1) ?_ (0,[first],⟨[],[]⟩) ⟨Nat.zero_le _,Nat.le_refl _,by simp only[List.length_singleton];omega,rfl,rfl,fun x hx=>by rw[List.mem_singleton] at hx;rw[hx];exact hok0,hres⟩) rfl rfl
 rintro⟨i,ks,⟨F,A⟩⟩ ⟨i1,i2,i3,i4,i5,i7,i6⟩ ih
 simp only at i1 i2 i3 i4 i5 i6 i7 ih ⊢
 by_cases hlt:i<ks.length
 · obtain⟨k,hk⟩:∃ k,ks[i]? =some k:=⟨_,List.getElem?_eq_getElem hlt⟩
   obtain⟨n,hn⟩:∃ n,lim.toNat+1-i=n+1:=⟨lim.toNat-i,by omega⟩
   rw[hn,exL,hk] at i6
   simp only at i6
   have hok:=i7 k (List.mem_of_getElem? hk)
   have hff:=hfin k hok
   have hee:=hedg k hok
   obtain⟨⟨hE1,hE2⟩,hE3⟩:=hE k hok
   generalize edg k=es at *
   generalize fin k=fb at *
   repeat' (first|(apply z07;(first|refine z0o ?_| (apply z06;(refine z02 (z2c (u:=z2o k) hk) rfl rfl ?_))|(apply z0g;(refine z02 (z3b rfl) rfl rfl ?_))|(apply z10;(first|refine z02 (za3 rfl) rfl rfl ?_| refine z02 (z1f rfl) rfl rfl ?_))|(apply z0t;(refine zpj (first:=[]) (cap:=[.ptr (1,2) 0,.ptr (1,8) 0,.ptr (1,6) 0]) (ps:=[I .i64 k]) hee rfl rfl (hb _ _ _) (by decide) ?_))))|(apply z09;(first|refine z0n ?_|apply z0a))|(apply z08;(first|apply z0b|apply z00|apply z04|apply z01|refine z0h (fun _=>?_) (fun _=>?_)| refine z0m ?_)))
   all_goals try (exfalso;simp only[List.length_map] at *;omega)
   refine z2f 14 1003 38 3 rfl rfl rfl ?_
   refine z1g ?_
   refine z0f (z2i (fun q:Nat × List (Int) × List Arc=>⟨128,[(1,.fn (.func 79) [] [.ptr (1,2) 0,.ptr (1,8) 0]),(2,.fn (.func 80) [] [.ptr (1,2) 0,.ptr (1,8) 0,.ptr (1,6) 0]),(3,I .i64 lim),(8,.ptr (0,8) 0),(10,.ptr (0,10) 0),(11,.ref (0,20)),(12,.ref (0,1000)),(13,I .i64 (i:Nat)),(14,.ref (0,1003)),(36,.d (.slice (es.map z2r))),(37,I .i64 es.length),(38,I .i64 (q.1:Nat))],[(20,mpI q.2.1),(1000,.row 3 1 (q.2.1.map icc)),(1003,.row 38 3 (q.2.2.map z2r)),(10,.box [.ref (0,1001),.ref (0,1002)]),(1001,.row 4 1 (F.map boc)),(1002,.row 39 1 (A.map z4v)),(8,.box [.d (.lit z3h),.d (.lit z3h)])],H⟩) (fun q=>q.1≤es.length∧q.2.2.length≤q.1∧q.2.1.length≤ks.length+q.1∧q.2.1[i]? =some k∧(∀ y∈q.2.2,0≤y.2.1∧y.2.1≤1114111)∧(∀ x∈q.2.1,ok x)∧(es.drop q.1).foldl z5n q.2=es.foldl z5n (ks,[])) (fun q=>es.length-q.1) ?_ (0,ks,[]) ⟨Nat.zero_le _,Nat.le_refl _,Nat.le_refl _,hk,by simp,i7,rfl⟩) rfl rfl
   rintro⟨j,ks2,arcs⟩ ⟨j1,j2,j3,j4,j5,j7,j6⟩ ihj
   simp only at j1 j2 j3 j4 j5 j6 j7 ihj ⊢
   by_cases hjl:j<es.length
   · obtain⟨e,he⟩:∃ e,es[j]? =some e:=⟨_,List.getElem?_eq_getElem hjl⟩
     obtain⟨r1,r2,r3⟩:=hE2 e (List.mem_of_getElem? he)
     rw[drop_cons he,List.foldl_cons,z5n] at j6
     simp only at j6
     have hal:=zao ks2 e.2.2
     have hln:=z9s arcs e.1 e.2.1 (z3y e.2.2 ks2:Nat)
     have ihj':=ihj (j+1,z6n ks2 e.2.2,ext arcs e.1 e.2.1 (z3y e.2.2 ks2:Nat)) ⟨by simp only;omega,by simp only;omega,by simp only;omega,by simp only;obtain⟨x,hx⟩:=z7o ks2 e.2.2;rw[hx,List.getElem?_append_left (List.getElem?_eq_some_iff.1 j4).1];exact j4,fun y hy=>by
      rcases ext_mem hy with h|h
      · omega
      · exact j5 y h,fun x hx=>by
      rcases z8z hx with h|h
      · rw[h];exact hE3 e (List.mem_of_getElem? he)
      · exact j7 x h,j6⟩ (by simp only;omega)
     have hget:=z7n e.2.2 ks2 0
     clear ihj hal
     by_cases hknown:e.2.2∈ks2
     · rw[z6n,if_pos hknown] at ihj'
       rw[if_pos hknown,Nat.zero_add] at hget
       have hget1:(z55 (z3d 0 ks2) e.2.2).getD (.lit (.int .i64 0))=z2o (z3y e.2.2 ks2:Nat):=by rw[hget];rfl
       have hget2:(z55 (z3d 0 ks2) e.2.2).isSome=true:=by rw[hget];rfl
       generalize z3y e.2.2 ks2=qv at *
       rcases zgh arcs with rfl|⟨m,y,rfl⟩
       · rw[ext_nil] at ihj'
         repeat' (first|(apply z07;(first|refine z05 (z4k (et:=3) (a:=e.2.2) (q:=z3d 0 ks2) (z0:=Value.int .i64 0) (py:=I .i64 e.2.2) zb9 (z25 (by kernel_rfl)) rfl rfl rfl zc1 rfl hget1 hget2) ?_|refine z0o ?_| (apply z06;(first|refine z02 z1c rfl rfl ?_| refine z02 z1u rfl rfl ?_))|(apply z0d;(refine z02 z0i rfl rfl ?_))|(apply z0g;(refine z02 (z1x (ys:=es.map z2r) rfl (idx he)) rfl rfl ?_))|(apply z0y;(refine z02 (z0v z1e) rfl rfl ?_))|(apply z10;(first|refine z02 (z1d rfl) rfl rfl ?_| refine z4w (g:=z2r) rfl rfl (e.1,e.2.1,((qv:Nat):Int)) rfl rfl rfl rfl rfl rfl rfl (by decide) (by simp) ?_))|(apply z0c;(refine z1r ?_))|(apply z0e;(refine z05 z2e ?_))|(apply z0z;(refine z3p ?_))|(apply z1v;(refine z2b rfl ?_))))|(apply z09;(first|refine z0n ?_|apply z0a))|(apply z08;(first|apply z0b|apply z00|refine z14 ?_| apply z04|apply z01|apply z38|apply z03|refine z0h (fun _=>?_) (fun _=>?_)| refine z0m ?_))|(apply z34;(first|(apply z1a;refine z1q mix ?_)|refine z36 ?_| refine z3a ?_| (apply z0s;(refine z0l z1c rfl rfl ?_))|(apply z0p;(refine z0l z0i rfl rfl ?_)))))
         all_goals try (exfalso;first|omega|(simp at *;done))
         all_goals skip
         all_goals refine z1w 103 1003 ?_
         all_goals exact z0f ihj' rfl rfl
       · have hy:=j5 y (by simp)
         have hal:((m++[y]).map z2r).length=m.length+1:=by simp
         have hal2:(m++[y]).length=m.length+1:=by simp
         have hix:(m++[y])[(((((m++[y]).length:Nat):Int)-1)).toNat]? =some y:=by
          rw[hal2,show (((m.length+1:Nat):Int)-1).toNat=m.length by omega];simp
         have hse:(m++[y]).set (((((m++[y]).length:Nat):Int)-1)).toNat ((y.1,e.2.1,y.2.2):Arc)=m++[(y.1,e.2.1,y.2.2)]:=by
          rw[hal2,show (((m.length+1:Nat):Int)-1).toNat=m.length by omega];simp
         rw[z3u] at ihj'
         by_cases hj:y.2.1+1=e.1∧y.2.2=(qv:Nat)
         · have hyq:(y.1,e.2.1,((qv:Nat):Int))=((y.1,e.2.1,y.2.2):Arc):=by rw[hj.2]
           rw[if_pos hj,hyq] at ihj'
           repeat' (first|(apply z07;(first|refine z05 (z4k (et:=3) (a:=e.2.2) (q:=z3d 0 ks2) (z0:=Value.int .i64 0) (py:=I .i64 e.2.2) zb9 (z25 (by kernel_rfl)) rfl rfl rfl zc1 rfl hget1 hget2) ?_|refine z0o ?_| (apply z06;(first|refine z02 z1c rfl rfl ?_| refine z02 z1u rfl rfl ?_))|(apply z0d;(first|refine z02 z0i rfl rfl ?_| refine z02 z3n rfl rfl ?_))|(apply z0g;(first|refine z02 (z1x (ys:=es.map z2r) rfl (idx he)) rfl rfl ?_| refine z02 (z3b rfl) rfl rfl ?_))|(apply z0y;(first|refine z02 (z0v z1e) rfl rfl ?_| refine z02 (z1y z1e) rfl rfl ?_))|(apply z10;(first|refine z02 (z1d rfl) rfl rfl ?_| refine z30 (g:=z2r) (e.1,e.2.1,((qv:Nat):Int)) rfl ?_))|(apply z0c;(first|refine z4g ((y.1,e.2.1,y.2.2):Arc) hix hse ?_| refine z1r ?_))|(apply z0e;(refine z05 z2e ?_))|(apply z0z;(refine z3p ?_))|(apply z1v;(refine z2b rfl ?_))))|(apply z09;(first|refine z0n ?_|apply z0a))|(apply z08;(first|apply z0b|apply z00|refine z14 ?_| apply z04|apply z01|apply z38|apply z03|refine z0h (fun _=>?_) (fun _=>?_)| refine z0m ?_))|(apply z34;(first|(apply z1a;refine z1q mix ?_)|refine z36 ?_| refine z3a ?_| (apply z0s;(first|refine z0l (z2c (u:=z5p y.2.1) hix) rfl rfl ?_| refine z0l (z2c (u:=z2o y.2.2) hix) rfl rfl ?_| refine z0l z1c rfl rfl ?_))|(apply z0p;(first|refine z0l z0i rfl rfl ?_| refine z0l z3n rfl rfl ?_))|(apply z15;(refine z0l (z3b rfl) rfl rfl ?_))|(apply z1z;(first|refine z0l (z0v (zal (by omega) (by omega))) rfl rfl ?_| refine z0l (z1y z1e) rfl rfl ?_))|(refine z1o rfl rfl (fun hg=>?_) (fun hg=>?_) <;> simp only[hg] <;> (try simp only[decide_eq_true_eq,decide_eq_false_iff_not,Bool.not_eq_true',Bool.not_eq_false'] at hg)))))
           all_goals try (exfalso;omega)
           all_goals skip
           all_goals exact z0f ihj' rfl rfl
         · rw[if_neg hj] at ihj'
           repeat' (first|(apply z07;(first|refine z05 (z4k (et:=3) (a:=e.2.2) (q:=z3d 0 ks2) (z0:=Value.int .i64 0) (py:=I .i64 e.2.2) zb9 (z25 (by kernel_rfl)) rfl rfl rfl zc1 rfl hget1 hget2) ?_|refine z0o ?_| (apply z06;(first|refine z02 z1c rfl rfl ?_| refine z02 z1u rfl rfl ?_))|(apply z0d;(first|refine z02 z0i rfl rfl ?_| refine z02 z3n rfl rfl ?_))|(apply z0g;(first|refine z02 (z1x (ys:=es.map z2r) rfl (idx he)) rfl rfl ?_| refine z02 (z3b rfl) rfl rfl ?_))|(apply z0y;(first|refine z02 (z0v z1e) rfl rfl ?_| refine z02 (z1y z1e) rfl rfl ?_))|(apply z10;(first|refine z02 (z1d rfl) rfl rfl ?_| refine z30 (g:=z2r) (e.1,e.2.1,((qv:Nat):Int)) rfl ?_))|(apply z0c;(first|refine z4g ((y.1,e.2.1,y.2.2):Arc) hix hse ?_| refine z1r ?_))|(apply z0e;(refine z05 z2e ?_))|(apply z0z;(refine z3p ?_))|(apply z1v;(refine z2b rfl ?_))))|(apply z09;(first|refine z0n ?_|apply z0a))|(apply z08;(first|apply z0b|apply z00|refine z14 ?_| apply z04|apply z01|apply z38|apply z03|refine z0h (fun _=>?_) (fun _=>?_)| refine z0m ?_))|(apply z34;(first|(apply z1a;refine z1q mix ?_)|refine z36 ?_| refine z3a ?_| (apply z0s;(first|refine z0l (z2c (u:=z5p y.2.1) hix) rfl rfl ?_| refine z0l (z2c (u:=z2o y.2.2) hix) rfl rfl ?_| refine z0l z1c rfl rfl ?_))|(apply z0p;(first|refine z0l z0i rfl rfl ?_| refine z0l z3n rfl rfl ?_))|(apply z15;(refine z0l (z3b rfl) rfl rfl ?_))|(apply z1z;(first|refine z0l (z0v (zal (by omega) (by omega))) rfl rfl ?_| refine z0l (z1y z1e) rfl rfl ?_))|(refine z1o rfl rfl (fun hg=>?_) (fun hg=>?_) <;> simp only[hg] <;> (try simp only[decide_eq_true_eq,decide_eq_false_iff_not,Bool.not_eq_true',Bool.not_eq_false'] at hg)))))
           all_goals try (exfalso;omega)
           all_goals skip
           all_goals refine z1w 103 1003 ?_
           all_goals exact z0f ihj' rfl rfl
     · rw[z6n,if_neg hknown,z3o hknown] at ihj'
       rw[z3o hknown] at hln
       rw[if_neg hknown] at hget
       have hget1:(z55 (z3d 0 ks2) e.2.2).getD (.lit (.int .i64 0))=z2o 0:=by rw[hget];rfl
       have hget2:(z55 (z3d 0 ks2) e.2.2).isSome=false:=by rw[hget];rfl
       have hput:=z8s hknown
       dsimp only[mpI] at ihj'
       rw[← hput] at ihj'
       rcases zgh arcs with rfl|⟨m,y,rfl⟩
       · rw[ext_nil] at ihj'
         repeat' (first|(apply z07;(first|refine z05 (z4k (et:=3) (a:=e.2.2) (q:=z3d 0 ks2) (z0:=Value.int .i64 0) (py:=I .i64 e.2.2) zb9 (z25 (by kernel_rfl)) rfl rfl rfl zc1 rfl hget1 hget2) ?_|refine z0o ?_| (apply z06;(first|refine z02 z1c rfl rfl ?_| refine z02 z1u rfl rfl ?_))|(apply z0d;(refine z02 z0i rfl rfl ?_))|(apply z0g;(refine z02 (z1x (ys:=es.map z2r) rfl (idx he)) rfl rfl ?_))|(apply z0y;(refine z02 (z0v z1e) rfl rfl ?_))|(apply z10;(first|refine z02 (z1d rfl) rfl rfl ?_| refine z30 (g:=icc) e.2.2 rfl ?_| refine z4w (g:=z2r) rfl rfl (e.1,e.2.1,((ks2.length:Nat):Int)) rfl rfl rfl rfl rfl rfl rfl (by decide) (by simp) ?_))|(apply z0c;(refine z1r ?_))|(apply z0e;(refine z05 z2e ?_))|(apply z0z;(refine z3p ?_))|(apply z1v;(refine z2b rfl ?_))|refine z4b (et:=3) (a:=e.2.2) (v:=z2o (ks2.length:Nat)) (py:=I .i64 e.2.2) (q:=z3d 0 ks2) (by kernel_rfl) zb9 rfl rfl zc1 rfl rfl rfl ?_))|(apply z09;(first|refine z0n ?_|apply z0a))|(apply z08;(first|apply z0b|apply z00|refine z1i ?_| refine z14 ?_| apply z04|apply z01|apply z38|apply z03|refine z0h (fun _=>?_) (fun _=>?_)| refine z0m ?_))|(apply z34;(first|(apply z1a;refine z1q mix ?_)|refine z36 ?_| refine z3a ?_| (apply z0s;(refine z0l z1c rfl rfl ?_))|(apply z0p;(refine z0l z0i rfl rfl ?_)))))
         all_goals try (exfalso;first|omega|(simp at *;done))
         all_goals refine z1w 61 1000 ?_
         all_goals refine z1w 103 1003 ?_
         all_goals exact z0f ihj' rfl rfl
       · have hy:=j5 y (by simp)
         have hal:((m++[y]).map z2r).length=m.length+1:=by simp
         have hal2:(m++[y]).length=m.length+1:=by simp
         have hix:(m++[y])[(((((m++[y]).length:Nat):Int)-1)).toNat]? =some y:=by
          rw[hal2,show (((m.length+1:Nat):Int)-1).toNat=m.length by omega];simp
         have hse:(m++[y]).set (((((m++[y]).length:Nat):Int)-1)).toNat ((y.1,e.2.1,y.2.2):Arc)=m++[(y.1,e.2.1,y.2.2)]:=by
          rw[hal2,show (((m.length+1:Nat):Int)-1).toNat=m.length by omega];simp
         rw[z3u] at ihj'
         by_cases hj:y.2.1+1=e.1∧y.2.2=(ks2.length:Nat)
         · have hyq:(y.1,e.2.1,((ks2.length:Nat):Int))=((y.1,e.2.1,y.2.2):Arc):=by rw[hj.2]
           rw[if_pos hj,hyq] at ihj'
           repeat' (first|(apply z07;(first|refine z05 (z4k (et:=3) (a:=e.2.2) (q:=z3d 0 ks2) (z0:=Value.int .i64 0) (py:=I .i64 e.2.2) zb9 (z25 (by kernel_rfl)) rfl rfl rfl zc1 rfl hget1 hget2) ?_|refine z0o ?_| (apply z06;(first|refine z02 z1c rfl rfl ?_| refine z02 z1u rfl rfl ?_))|(apply z0d;(first|refine z02 z0i rfl rfl ?_| refine z02 z3n rfl rfl ?_))|(apply z0g;(first|refine z02 (z1x (ys:=es.map z2r) rfl (idx he)) rfl rfl ?_| refine z02 (z3b rfl) rfl rfl ?_))|(apply z0y;(first|refine z02 (z0v z1e) rfl rfl ?_| refine z02 (z1y z1e) rfl rfl ?_))|(apply z10;(first|refine z02 (z1d rfl) rfl rfl ?_| refine z30 (g:=icc) e.2.2 rfl ?_| refine z30 (g:=z2r) (e.1,e.2.1,((ks2.length:Nat):Int)) rfl ?_))|(apply z0c;(first|refine z4g ((y.1,e.2.1,y.2.2):Arc) hix hse ?_| refine z1r ?_))|(apply z0e;(refine z05 z2e ?_))|(apply z0z;(refine z3p ?_))|(apply z1v;(refine z2b rfl ?_))|refine z4b (et:=3) (a:=e.2.2) (v:=z2o (ks2.length:Nat)) (py:=I .i64 e.2.2) (q:=z3d 0 ks2) (by kernel_rfl) zb9 rfl rfl zc1 rfl rfl rfl ?_))|(apply z09;(first|refine z0n ?_|apply z0a))|(apply z08;(first|apply z0b|apply z00|refine z1i ?_| refine z14 ?_| apply z04|apply z01|apply z38|apply z03|refine z0h (fun _=>?_) (fun _=>?_)| refine z0m ?_))|(apply z34;(first|(apply z1a;refine z1q mix ?_)|refine z36 ?_| refine z3a ?_| (apply z0s;(first|refine z0l (z2c (u:=z5p y.2.1) hix) rfl rfl ?_| refine z0l (z2c (u:=z2o y.2.2) hix) rfl rfl ?_| refine z0l z1c rfl rfl ?_))|(apply z0p;(first|refine z0l z0i rfl rfl ?_| refine z0l z3n rfl rfl ?_))|(apply z15;(refine z0l (z3b rfl) rfl rfl ?_))|(apply z1z;(first|refine z0l (z0v (zal (by omega) (by omega))) rfl rfl ?_| refine z0l (z1y z1e) rfl rfl ?_))|(refine z1o rfl rfl (fun hg=>?_) (fun hg=>?_) <;> simp only[hg] <;> (try simp only[decide_eq_true_eq,decide_eq_false_iff_not,Bool.not_eq_true',Bool.not_eq_false'] at hg)))))
           all_goals try (exfalso;omega)
           all_goals refine z1w 61 1000 ?_
           all_goals exact z0f ihj' rfl rfl
         · rw[if_neg hj] at ihj'
           repeat' (first|(apply z07;(first|refine z05 (z4k (et:=3) (a:=e.2.2) (q:=z3d 0 ks2) (z0:=Value.int .i64 0) (py:=I .i64 e.2.2) zb9 (z25 (by kernel_rfl)) rfl rfl rfl zc1 rfl hget1 hget2) ?_|refine z0o ?_| (apply z06;(first|refine z02 z1c rfl rfl ?_| refine z02 z1u rfl rfl ?_))|(apply z0d;(first|refine z02 z0i rfl rfl ?_| refine z02 z3n rfl rfl ?_))|(apply z0g;(first|refine z02 (z1x (ys:=es.map z2r) rfl (idx he)) rfl rfl ?_| refine z02 (z3b rfl) rfl rfl ?_))|(apply z0y;(first|refine z02 (z0v z1e) rfl rfl ?_| refine z02 (z1y z1e) rfl rfl ?_))|(apply z10;(first|refine z02 (z1d rfl) rfl rfl ?_| refine z30 (g:=icc) e.2.2 rfl ?_| refine z30 (g:=z2r) (e.1,e.2.1,((ks2.length:Nat):Int)) rfl ?_))|(apply z0c;(first|refine z4g ((y.1,e.2.1,y.2.2):Arc) hix hse ?_| refine z1r ?_))|(apply z0e;(refine z05 z2e ?_))|(apply z0z;(refine z3p ?_))|(apply z1v;(refine z2b rfl ?_))|refine z4b (et:=3) (a:=e.2.2) (v:=z2o (ks2.length:Nat)) (py:=I .i64 e.2.2) (q:=z3d 0 ks2) (by kernel_rfl) zb9 rfl rfl zc1 rfl rfl rfl ?_))|(apply z09;(first|refine z0n ?_|apply z0a))|(apply z08;(first|apply z0b|apply z00|refine z1i ?_| refine z14 ?_| apply z04|apply z01|apply z38|apply z03|refine z0h (fun _=>?_) (fun _=>?_)| refine z0m ?_))|(apply z34;(first|(apply z1a;refine z1q mix ?_)|refine z36 ?_| refine z3a ?_| (apply z0s;(first|refine z0l (z2c (u:=z5p y.2.1) hix) rfl rfl ?_| refine z0l (z2c (u:=z2o y.2.2) hix) rfl rfl ?_| refine z0l z1c rfl rfl ?_))|(apply z0p;(first|refine z0l z0i rfl rfl ?_| refine z0l z3n rfl rfl ?_))|(apply z15;(refine z0l (z3b rfl) rfl rfl ?_))|(apply z1z;(first|refine z0l (z0v (zal (by omega) (by omega))) rfl rfl ?_| refine z0l (z1y z1e) rfl rfl ?_))|(refine z1o rfl rfl (fun hg=>?_) (fun hg=>?_) <;> simp only[hg] <;> (try simp only[decide_eq_true_eq,decide_eq_false_iff_not,Bool.not_eq_true',Bool.not_eq_false'] at hg)))))
           all_goals try (exfalso;omega)
           all_goals refine z1w 61 1000 ?_
           all_goals refine z1w 103 1003 ?_
           all_goals exact z0f ihj' rfl rfl
   · obtain rfl:j=es.length:=by omega
     rw[List.drop_length,List.foldl_nil] at j6
     rw[← j6] at i6
     simp only at i6
     have hi2:=(List.getElem?_eq_some_iff.1 j4).1
     refine z1m 1003 rfl ?_
     by_cases hlim:lim.toNat<ks2.length
     · rw[if_pos hlim] at i6
       rw[← i6]
       repeat' (first|(apply z07;(first|refine z0o ?_| (apply z10;(refine z02 (z1d rfl) rfl rfl ?_))|(apply z0c;(refine z1r ?_))|(apply z0z;(refine z3p ?_))))|(apply z09;(first|refine z0n ?_|apply z0a))|(apply z08;(first|apply z0b|apply z00|apply z04|apply z01|apply z38|refine z0h (fun _=>?_) (fun _=>?_)| refine z0m ?_))|(apply z34;(first|refine z3a ?_| (apply z0s;(refine z0l z1c rfl rfl ?_))|(apply z0p;(refine z0l z0i rfl rfl ?_)))))
       all_goals try (exfalso;omega)
       all_goals exact z0k Tryz.func82 _ (z0u rfl rfl rfl rfl rfl rfl rfl) ⟨rfl,rfl⟩
     · rw[if_neg hlim] at i6
       have ih':=ih (i+1,ks2,⟨F++[fb],A++[arcs]⟩) ⟨by simp only;omega,by simp only;omega,by simp only;omega,by simp[i4],by simp[i5],j7,by rw[← i6];simp only;rw[show lim.toNat+1-(i+1)=n by omega]⟩ (by simp only;omega)
       simp only at ih'
       repeat' (first|(apply z07;(first|refine z0o ?_| (apply z06;(refine z02 z1c rfl rfl ?_))|(apply z0d;(refine z02 z0i rfl rfl ?_))|(apply z0y;(refine z02 (z0v z1e) rfl rfl ?_))|(apply z10;(first|refine z02 (z1d rfl) rfl rfl ?_| refine z30 (g:=z4v) arcs rfl ?_))|(apply z0c;(refine z1r ?_))|(apply z0z;(refine z3p ?_))|(apply z1v;(refine z2b rfl ?_))))|(apply z09;(first|refine z0n ?_|apply z0a))|(apply z08;(first|apply z0b|apply z00|apply z04|apply z01|apply z38|apply z03|refine z0h (fun _=>?_) (fun _=>?_)| refine z0m ?_))|(apply z34;(first|(apply z1a;refine z1q mix ?_)|refine z3a ?_| (apply z0s;(first|refine z0l (z2c (u:=z2o k) j4) rfl rfl ?_| refine z0l z1c rfl rfl ?_))|(apply z0p;(refine z0l z0i rfl rfl ?_))|(apply z15;(refine z0l (z2h rfl (by omega) (by simp only[List.length_map];omega) rfl) rfl rfl ?_))|(apply z5i;(refine zaf (g:=boc) (by first|exact rfl|exact⟨_,rfl,rfl,rfl⟩) rfl rfl fb rfl rfl rfl rfl rfl rfl rfl (by decide) (by omega) ?_))|(apply z3k;(refine zq6 (first:=[]) (cap:=[.ptr (1,2) 0,.ptr (1,8) 0]) (ps:=[I .i64 k]) hff (by first|exact rfl|exact⟨_,rfl,rfl,rfl⟩) rfl rfl (hb _ _ _) (by decide) ?_))|(apply z3m;(refine zar (by first|exact rfl|exact⟨_,rfl,rfl,rfl⟩) rfl rfl rfl rfl rfl ?_))|(apply z8y;(refine zd6 rfl ?_)))))
       all_goals try (exfalso;omega)
       all_goals refine z1w 119 1001 ?_
       all_goals refine z1w 125 1002 ?_
       all_goals exact z0f ih' rfl rfl
 · obtain rfl:i=ks.length:=by omega
   obtain⟨n,hn⟩:∃ n,lim.toNat+1-ks.length=n+1:=⟨lim.toNat-ks.length,by omega⟩
   rw[hn,exL,List.getElem?_eq_none (Nat.le_refl _)] at i6
   simp only at i6
   rw[← i6]
   refine z1m 1001 rfl ?_
   refine z1m 1002 rfl ?_
   repeat' (first|(apply z07;(first|refine z0o ?_| (apply z06;(refine z02 z23 rfl rfl ?_))|(apply z10;(refine z02 (z1d rfl) rfl rfl ?_))|(apply z0c;(refine z1r ?_))))|(apply z09;(first|refine z0n ?_|apply z0a))|(apply z08;(first|apply z0b|apply z00|apply z04|apply z01|refine z0h (fun _=>?_) (fun _=>?_)| refine z0m ?_)))
   all_goals try (exfalso;omega)
   all_goals exact z0k Tryz.func82 _ (z0u rfl rfl rfl rfl rfl rfl rfl) ⟨rfl,rfl⟩
end Go.Proofs.YthdfkabdoidjfaaGreatDoor
namespace Go.Proofs.YthdfkabdoidjfaaGreatDoor
open Go.Ab Go.Ax
set_option maxHeartbeats 20000000
set_option maxRecDepth 100000
attribute [local irreducible] Run Ops Op1 z1t Val Tr z11 z1s NF Rel z43 z42
structure zav (F:List Bool) (A:List (List Arc)):Prop where
 len:A.length=F.length
 arc:∀ l∈A,okA none l∧l.length≤2000000∧∀ x∈l,0≤x.1∧x.1≤x.2.1∧x.2.1≤1114111∧0≤x.2.2∧x.2.2<F.length
 few:F.length≤2000000
 pos:0<F.length
 tot:(A.map List.length).sum≤1000000000
theorem zr4 (F:List Bool) (A:List (List Arc)) (k:Int) (h0:0≤k) (h1:k<F.length):z1s Tryz.prog 83 [I .i64 k,.ptr (1,1) 0] [((1,1),BX F A)] [] (B ((⟨F,A⟩:Au).fin k)):=by
 refine z2g fun H hH=>?_
 have hX:H 1 1=some (BX F A):=hH ((1,1),BX F A) (by simp)
 obtain⟨k,rfl⟩:∃ q:Nat,k=q:=⟨k.toNat,by omega⟩
 obtain⟨b,hb⟩:∃ b,F[k]? =some b:=⟨_,List.getElem?_eq_getElem (by omega)⟩
 have hf:(⟨F,A⟩:Au).fin (k:Nat)=b:=by rw[Au.fin,if_neg (by omega),Int.toNat_natCast,List.getD,hb];rfl
 rw[hf]
 refine z0j Tryz.func83 (by kernel_rfl) rfl (by simp) ?_
 dsimp only[Tryz.f83]
 repeat' (first|(apply z07;(first|refine z0o ?_| (apply z06;(first|refine z2y rfl hX rfl rfl rfl rfl (by decide) ?_|refine z02 z2d rfl rfl ?_))|(apply z0d;(refine z02 z0i rfl rfl ?_))|(apply z0g;(refine z02 (z1x (ys:=F.map boc) rfl (idx (g:=boc) hb)) rfl rfl ?_))))|(apply z09;(first|refine z0n ?_|apply z0a))|(apply z08;(first|apply z0b|apply z00)))
 all_goals try (exfalso;omega)
 all_goals exact z0k Tryz.func83 _ z19 ⟨rfl,rfl⟩
theorem zoy (F:List Bool) (A:List (List Arc)) (hA:zav F A) (k:Int) (h0:0≤k) (h1:k<F.length):z1s Tryz.prog 84 [I .i64 k,.ptr (1,1) 0] [((1,1),BX F A)] [] (.d (za6 ((⟨F,A⟩:Au).arcs k))):=by
 refine z2g fun H hH=>?_
 have hX:H 1 1=some (BX F A):=hH ((1,1),BX F A) (by simp)
 obtain⟨k,rfl⟩:∃ q:Nat,k=q:=⟨k.toNat,by omega⟩
 obtain⟨l,hl⟩:∃ l,A[k]? =some l:=⟨_,List.getElem?_eq_getElem (by rw[hA.len];omega)⟩
 have hf:(⟨F,A⟩:Au).arcs (k:Nat)=l:=by rw[Au.arcs,if_neg (by omega),Int.toNat_natCast,List.getD,hl];rfl
 have hp:=zuz l (hA.arc l (List.mem_of_getElem? hl)).2.1
 rw[hf]
 refine z0j Tryz.func84 (by kernel_rfl) rfl (by simp) ?_
 dsimp only[Tryz.f84]
 repeat' (first|(apply z07;(first|refine z0o ?_| (apply z06;(first|refine z2y rfl hX rfl rfl rfl rfl (by decide) ?_|refine z02 z2d rfl rfl ?_))|(apply z0d;(refine z02 z0i rfl rfl ?_))|(apply z0g;(refine z02 (z1x (ys:=A.map z4v) rfl (idx hl)) rfl rfl ?_))|(apply z0t;(refine z1h hp ?_))))|(apply z09;(first|refine z0n ?_|apply z0a))|(apply z08;(first|apply z0b|apply z00)))
 all_goals try (exfalso;omega)
 all_goals exact z0k Tryz.func84 _ z19 ⟨rfl,rfl⟩
theorem zqt {F:List Bool} {A:List (List Arc)} (hA:zav F A) (k:Int) (h0:0≤k) (h1:k<F.length):edE ((⟨F,A⟩:Au).arcs k)∧∀ e∈(⟨F,A⟩:Au).arcs k,0≤e.2.2∧e.2.2<F.length:=by
 obtain⟨k,rfl⟩:∃ q:Nat,k=q:=⟨k.toNat,by omega⟩
 obtain⟨l,hl⟩:∃ l,A[k]? =some l:=⟨_,List.getElem?_eq_getElem (by rw[hA.len];omega)⟩
 have hf:(⟨F,A⟩:Au).arcs (k:Nat)=l:=by rw[Au.arcs,if_neg (by omega),Int.toNat_natCast,List.getD,hl];rfl
 rw[hf]
 obtain⟨h1,h2,h3⟩:=hA.arc l (List.mem_of_getElem? hl)
 exact⟨⟨h2,fun e he=>by have:=h3 e he;omega⟩,fun e he=>by have:=h3 e he;omega⟩
def z6j (F:List Bool) (A:List (List Arc)):Option Au:=exL (⟨F,A⟩:Au).fin (⟨F,A⟩:Au).arcs F.length (F.length+1) 0 [0] ⟨[],[]⟩
theorem zhn (F:List Bool) (A:List (List Arc)) (hA:zav F A):z11 Tryz.prog 45 [.d (auD ⟨F,A⟩)] (.d (auD ((z6j F A).getD ⟨[],[]⟩))):=by
 refine z1j fun H=>?_
 have hpos:=hA.pos
 have hfew:=hA.few
 have hex:z1s Tryz.prog 82 [I .i64 0,.fn (.func 83) [] [.ptr (0,1) 0],.fn (.func 84) [] [.ptr (0,1) 0],I .i64 F.length] [((0,1),BX F A)] [] (exR (z6j F A)):=z2g fun H hH=>by
  have:=zkf (BX F A) (fun k=>0≤k∧k<F.length) (⟨F,A⟩:Au).fin (⟨F,A⟩:Au).arcs 0 F.length (by omega) (by omega) ⟨by omega,by omega⟩ (fun k hk=>zr4 F A k hk.1 hk.2) (fun k hk=>zoy F A hA k hk.1 hk.2) (fun k hk=>zqt hA k hk.1 hk.2) H (hH ((0,1),BX F A) (by simp))
  rw[Int.toNat_natCast] at this
  exact this
 generalize z6j F A=o at *
 cases o with
 | some a =>
  simp only[exR,Option.getD_some] at hex ⊢
  refine z0j Tryz.func45 (by kernel_rfl) rfl (by simp) ?_
  dsimp only[Tryz.f45]
  repeat' (first|(apply z07;(first|refine z8v rfl rfl (by decide) ?_|refine z0o ?_| (apply z06;(first|refine z02 z1c rfl rfl ?_| refine z02 z23 rfl rfl ?_))|(apply z0d;(refine z02 z0i rfl rfl ?_))|(apply z10;(refine z02 (z1f rfl) rfl rfl ?_))|(apply z0t;(refine z3c hex rfl (bk1 rfl) (by decide) ?_))|(apply z0c;(refine z1r ?_))|(apply z0e;(refine z05 z2e ?_))|(apply z1p;(refine z05 z22 ?_))))|(apply z09;(first|refine z0n ?_|apply z0a))|(apply z08;(first|apply z0b|apply z00)))
  all_goals exact z0k Tryz.func45 _ (z4c rfl rfl rfl rfl rfl rfl) ⟨rfl,rfl⟩
 | none =>
  simp only[exR,Option.getD_none] at hex ⊢
  refine z0j Tryz.func45 (by kernel_rfl) rfl (by simp) ?_
  dsimp only[Tryz.f45]
  repeat' (first|(apply z07;(first|refine z8v rfl rfl (by decide) ?_|refine z0o ?_| (apply z06;(first|refine z02 z1c rfl rfl ?_| refine z02 z23 rfl rfl ?_))|(apply z0d;(refine z02 z0i rfl rfl ?_))|(apply z10;(refine z02 (z1f rfl) rfl rfl ?_))|(apply z0t;(refine z3c hex rfl (bk1 rfl) (by decide) ?_))|(apply z0c;(refine z1r ?_))|(apply z0e;(refine z05 z2e ?_))|(apply z1p;(refine z05 z22 ?_))))|(apply z09;(first|refine z0n ?_|apply z0a))|(apply z08;(first|apply z0b|apply z00)))
  all_goals exact z0k Tryz.func45 _ (z4c rfl rfl rfl rfl rfl rfl) ⟨rfl,rfl⟩
end Go.Proofs.YthdfkabdoidjfaaGreatDoor
namespace Go.Proofs.YthdfkabdoidjfaaGreatDoor
open Go.Ab Go.Ax
set_option maxHeartbeats 20000000
set_option maxRecDepth 100000
attribute [local irreducible] Run Ops Op1 z1t Val Tr z11 z1s NF Rel z43 z42
theorem zfy {α:Type} [DecidableEq α] (a b:α) (v:D):∀ q:List (α × D),z55 (zdm q a v) b=if a=b then some v else z55 q b
 | []=>by simp[zdm,z55]
 | (c,u)::r=>by
  rw[zdm]
  by_cases h:c=a
  · rw[if_pos h,z55,z55]
    by_cases h2:a=b
    · rw[if_pos h2,if_pos h2]
    · rw[if_neg h2,if_neg h2,if_neg (by rw[h];exact h2)]
  · rw[if_neg h,z55,z55,zfy a b v r]
    by_cases h2:c=b
    · rw[if_pos h2,if_pos h2,if_neg (fun e=>h (by rw[h2,e]))]
    · rw[if_neg h2,if_neg h2]
def zbf (cl:List Int):Nat→Int→Option Nat
 | 0,_=>none
 | j+1,k=>if cl.getD j 0=k then some j else zbf cl j k
theorem z61 {cl:List Int} {k:Int}:∀ {j s:Nat},zbf cl j k=some s→s<j∧cl.getD s 0=k
 | 0,s,h=>by simp[zbf] at h
 | j+1,s,h=>by
  rw[zbf] at h
  split at h
  · simp at h;subst h;exact⟨by omega,by assumption⟩
  · have:=z61 h;exact⟨by omega,this.2⟩
theorem z8h {cl:List Int} {k:Int}:∀ {j s:Nat},s<j→cl.getD s 0=k→∃ r,zbf cl j k=some r
 | 0,s,h,_=>by omega
 | j+1,s,h,h2=>by
  rw[zbf]
  by_cases hj:cl.getD j 0=k
  · exact⟨j,by rw[if_pos hj]⟩
  · rw[if_neg hj]
    have:s≠j:=by rintro rfl;exact hj h2
    exact z8h (by omega) h2
def stQ (cl:List Int) (k:Int):Nat:=(zbf cl cl.length k).getD 0
abbrev mpD (m:List (Int × D)):Blk:=.mp (m.map fun p=>(Value.int .i64 p.1,p.2))
section
variable (F:List Bool) (A:List (List Arc)) (cl:List Int) (m:List (Int × D)) (hA:zav F A) (hcl:cl.length=F.length) (hm:∀ k,z55 m k=(zbf cl cl.length k).map fun s=>z2o (s:Nat))
abbrev bsM:List (Nm × Blk):=[((1,2),BX F A),((1,8),.box [.ref (0,29)]),((1,6),.box [.d (ints cl)]),((1,29),mpD m)]
include hcl hm in
theorem zt2 (k:Int) (hk:∃ q,q<F.length∧cl.getD q 0=k):z1s Tryz.prog 79 [I .i64 k,.ptr (1,2) 0,.ptr (1,8) 0] (bsM F A cl m) [] (B ((⟨F,A⟩:Au).fin (stQ cl k:Nat))):=by
 refine z2g fun H hH=>?_
 have h2:H 1 2=some (BX F A):=hH ((1,2),BX F A) (by simp)
 have h8:H 1 8=some (.box [.ref (0,29)]):=hH ((1,8),.box [.ref (0,29)]) (by simp)
 have h29:H 1 29=some (mpD m):=hH ((1,29),mpD m) (by simp)
 obtain⟨q,hq,hqk⟩:=hk
 obtain⟨r,hr⟩:=z8h (cl:=cl) (j:=cl.length) (s:=q) (by omega) hqk
 have hst:stQ cl k=r:=by rw[stQ,hr];rfl
 have hrl:=(z61 hr).1
 have hmk:(z55 m k).getD (.lit (.int .i64 0))=z2o (r:Nat):=by rw[hm,hr];rfl
 obtain⟨b,hb⟩:∃ b,F[r]? =some b:=⟨_,List.getElem?_eq_getElem (by omega)⟩
 have hf:(⟨F,A⟩:Au).fin (r:Nat)=b:=by rw[Au.fin,if_neg (by omega),Int.toNat_natCast,List.getD,hb];rfl
 rw[hst,hf]
 refine z0j Tryz.func79 (by kernel_rfl) rfl (by simp) ?_
 dsimp only[Tryz.f79]
 repeat' (first|(apply z07;(first|refine z05 (zlb (et:=3) (a:=k) (q:=m) (z0:=Value.int .i64 0) (py:=I .i64 k) (m0:=(2,29)) (by kernel_rfl) zb9 (z25 (by kernel_rfl)) rfl rfl rfl zc1 h29 hmk (by decide)) ?_|refine z0o ?_| (apply z06;(first|refine z2y rfl h8 rfl rfl rfl rfl (by decide) ?_|refine z2y rfl h2 rfl rfl rfl rfl (by decide) ?_|refine z02 z2d rfl rfl ?_))|(apply z0d;(refine z02 z0i rfl rfl ?_))|(apply z0g;(refine z02 (z1x (ys:=F.map boc) rfl (idx (g:=boc) hb)) rfl rfl ?_))))|(apply z09;(first|refine z0n ?_|apply z0a))|(apply z08;(first|apply z0b|apply z00)))
 all_goals try (exfalso;omega)
 all_goals exact z0k Tryz.func79 _ z19 ⟨rfl,rfl⟩
include hA hcl hm in
theorem zt7 (k:Int) (hk:∃ q,q<F.length∧cl.getD q 0=k):z1s Tryz.prog 80 [I .i64 k,.ptr (1,2) 0,.ptr (1,8) 0,.ptr (1,6) 0] (bsM F A cl m) [] (.d (za6 (byC cl ((⟨F,A⟩:Au).arcs (stQ cl k:Nat))))):=by
 refine z2g fun H hH=>?_
 have h2:H 1 2=some (BX F A):=hH ((1,2),BX F A) (by simp)
 have h8:H 1 8=some (.box [.ref (0,29)]):=hH ((1,8),.box [.ref (0,29)]) (by simp)
 have h6:H 1 6=some (.box [.d (ints cl)]):=hH ((1,6),.box [.d (ints cl)]) (by simp)
 have h29:H 1 29=some (mpD m):=hH ((1,29),mpD m) (by simp)
 obtain⟨q,hq,hqk⟩:=hk
 obtain⟨r,hr⟩:=z8h (cl:=cl) (j:=cl.length) (s:=q) (by omega) hqk
 have hst:stQ cl k=r:=by rw[stQ,hr];rfl
 have hrl:=(z61 hr).1
 have hmk:(z55 m k).getD (.lit (.int .i64 0))=z2o (r:Nat):=by rw[hm,hr];rfl
 obtain⟨l,hl⟩:∃ l,A[r]? =some l:=⟨_,List.getElem?_eq_getElem (by rw[hA.len];omega)⟩
 have hf:(⟨F,A⟩:Au).arcs (r:Nat)=l:=by rw[Au.arcs,if_neg (by omega),Int.toNat_natCast,List.getD,hl];rfl
 obtain⟨l0,l1,l2⟩:=hA.arc l (List.mem_of_getElem? hl)
 have hby:=zg7 l cl l1 (fun x hx=>by have:=l2 x hx;omega)
 rw[hst,hf]
 refine z0j Tryz.func80 (by kernel_rfl) rfl (by simp) ?_
 dsimp only[Tryz.f80]
 repeat' (first|(apply z07;(refine z0o ?_))|(apply z09;(first|refine z0n ?_|apply z0a))|(apply z08;(first|apply z0b|apply z00|apply z38))|(apply z34;(first|(apply z1a;refine z1q mix ?_)|refine z0l (zuq (et:=3) (a:=k) (q:=m) (z0:=Value.int .i64 0) (py:=I .i64 k) (m0:=(2,29)) (by kernel_rfl) zb9 (z25 (by kernel_rfl)) rfl zc1 hmk) rfl (bk1 h29) ?_| refine z3a ?_| (apply z0s;(first|refine z99 (by first|exact rfl|exact⟨_,rfl,rfl,rfl⟩) rfl h6 rfl rfl rfl rfl (by decide) ?_|refine z99 (by first|exact rfl|exact⟨_,rfl,rfl,rfl⟩) rfl h8 rfl rfl rfl rfl (by decide) ?_|refine z99 (by first|exact rfl|exact⟨_,rfl,rfl,rfl⟩) rfl h2 rfl rfl rfl rfl (by decide) ?_|refine z0l z2d rfl rfl ?_))|(apply z0p;(refine z0l z0i rfl rfl ?_))|(apply z15;(refine z0l (z1x (ys:=A.map z4v) rfl (idx hl)) rfl rfl ?_))|(apply z3k;(refine z5y hby ?_)))))
 all_goals try (exfalso;omega)
 all_goals exact z0k Tryz.func80 _ z19 ⟨rfl,rfl⟩
end
end Go.Proofs.YthdfkabdoidjfaaGreatDoor
namespace Go.Proofs.YthdfkabdoidjfaaGreatDoor
open Go.Ab Go.Ax
set_option maxHeartbeats 20000000
set_option maxRecDepth 100000
attribute [local irreducible] Run Ops Op1 z1t Val Tr z11 z1s NF Rel z43 z42
def zwo (F:List Bool) (A:List (List Arc)) (cl:List Int) (lim:Nat):Option Au:=exL (fun k=>(⟨F,A⟩:Au).fin (stQ cl k:Nat)) (fun k=>byC cl ((⟨F,A⟩:Au).arcs (stQ cl k:Nat))) lim (lim+1) 0 [cl.getD 0 0] ⟨[],[]⟩
noncomputable def zkv (F:List Bool) (A:List (List Arc)) (lim:Nat):Option Au:=match zrz F A lim with
 | none=>none
 | some cl=>if cl.getD 0 0<0 then some ⟨[false],[[]]⟩ else zwo F A cl lim
theorem zse {A:List (List Arc)} {n lim:Nat} (hn:n≤4000000) (hA:∀ l∈A,∀ x∈l,0≤x.1∧x.1≤x.2.1∧x.2.1≤1114111):∀ {f c:Nat} {cl r:List Int},ClW n c cl→zh8 A lim f c cl=some r→∃ c',ClW n c' r
 | 0,c,cl,r,_,h=>by rw[zh8] at h;cases h
 | f+1,c,cl,r,hW,h=>by
  rw[zh8] at h
  obtain⟨_,hW2⟩:=znb hn hW hA
  split at h
  · cases h
  split at h
  · simp at h;subst h;exact⟨_,hW2⟩
  · exact zse hn hA hW2 h
theorem zex (F:List Bool) (A:List (List Arc)) (hA:zav F A) (lim:Nat) (h1:1≤lim) (h2:lim≤2000000):z11 Tryz.prog 44 [.d (auD ⟨F,A⟩),I .i64 lim] (exR (zkv F A lim)):=by
 refine z1j fun H=>?_
 have hfew:=hA.few
 have hpos:=hA.pos
 have hcs:=zmb F A lim (by omega) hA.len (fun l hl=>⟨(hA.arc l hl).2.1,(hA.arc l hl).2.2⟩) (by omega) hA.tot
 rw[Int.toNat_natCast] at hcs
 have hA1:∀ l∈A,∀ x∈l,0≤x.1∧x.1≤x.2.1∧x.2.1≤1114111:=fun l hl x hx=>by have:=(hA.arc l hl).2.2 x hx;omega
 have hWcl:∀ cl,zrz F A lim=some cl→∃ c',ClW F.length c' cl:=fun cl h=>zse (by omega) hA1 (zlh F A) h
 rw[zkv]
 generalize zrz F A lim=o at *
 cases o with
 | none =>
  simp only[zye] at hcs
  simp only[exR]
  refine z0j Tryz.func44 (by kernel_rfl) rfl (by simp) ?_
  dsimp only[Tryz.f44]
  repeat' (first|(apply z07;(first|refine z0o ?_| (apply z06;(refine z02 z3q rfl rfl ?_))|(apply z0t;(refine z1h hcs ?_))|(apply z0c;(refine z1r ?_))|(apply z0e;(refine z05 z2e ?_))|(apply z1p;(refine z05 z22 ?_))|(apply z0z;(refine z3p ?_))))|(apply z09;(first|refine z0n ?_|apply z0a))|(apply z08;(first|apply z0b|apply z00|refine z1i ?_)))
  all_goals exact z0k Tryz.func44 _ (z0u rfl rfl rfl rfl rfl rfl rfl) ⟨rfl,rfl⟩
 | some cl =>
  obtain⟨c',hW⟩:=hWcl cl rfl
  simp only[zye] at hcs
  simp only
  have hcl:=hW.len
  obtain⟨k0,hk0⟩:∃ k,cl[0]? =some k:=⟨_,List.getElem?_eq_getElem (by omega)⟩
  have hk0i:cl[(0:Int).toNat]? =some k0:=hk0
  rw[z3f hk0]
  by_cases hneg:k0<0
  · rw[if_pos hneg]
    simp only[exR]
    refine z0j Tryz.func44 (by kernel_rfl) rfl (by simp) ?_
    dsimp only[Tryz.f44]
    repeat' (first|(apply z07;(first|refine z0o ?_| (apply z06;(first|refine z02 z3q rfl rfl ?_| refine z02 z1c rfl rfl ?_| refine z02 z2d rfl rfl ?_))|(apply z0g;(refine z02 (z1x (ys:=cl.map icc) rfl (zf2 (g:=icc) hk0i)) rfl rfl ?_))|(apply z0t;(refine z1h hcs ?_))|(apply z0c;(refine z1r ?_))|(apply z0e;(refine z05 z2e ?_))|(apply z1p;(refine z05 z22 ?_))|(apply z0z;(refine z3p ?_))|(apply z1v;(refine z2b rfl ?_))|(apply zjj;((refine zj8 (xs:=[[.slice []]]) rfl rfl (by decide) (by decide) rfl rfl rfl (by decide) (by rfl) ?_;refine zap 27 rfl ?_)))))|(apply z09;(first|refine z0n ?_|apply z0a))|(apply z08;(first|apply z0b|apply z00|refine z14 ?_| apply z04|refine z0h (fun _=>?_) (fun _=>?_))))
    all_goals try (exfalso;omega)
    all_goals exact z0k Tryz.func44 _ (z0u rfl rfl rfl rfl rfl rfl rfl) ⟨rfl,rfl⟩
  · rw[if_neg hneg]
    have hex:∀ m:List (Int × D),(∀ k,z55 m k=(zbf cl cl.length k).map fun s=>z2o (s:Nat))→z1s Tryz.prog 82 [I .i64 k0,.fn (.func 79) [] [.ptr (0,2) 0,.ptr (0,8) 0],.fn (.func 80) [] [.ptr (0,2) 0,.ptr (0,8) 0,.ptr (0,6) 0],I .i64 lim] [((0,2),BX F A),((0,8),.box [.ref (0,29)]),((0,6),.box [.d (ints cl)]),((0,29),mpD m)] [] (exR (zwo F A cl lim)):=fun m hm=>z2g fun H hH=>by
     have hrng:∀ k,(∃ q,q<F.length∧cl.getD q 0=k∧0≤k)→edE (byC cl ((⟨F,A⟩:Au).arcs (stQ cl k:Nat)))∧∀ e∈byC cl ((⟨F,A⟩:Au).arcs (stQ cl k:Nat)),∃ q,q<F.length∧cl.getD q 0=e.2.2∧0≤e.2.2:=fun k hk=>by
      obtain⟨q,hq,hqk,hk0⟩:=hk
      obtain⟨r,hr⟩:=z8h (cl:=cl) (j:=cl.length) (s:=q) (by omega) hqk
      have hst:stQ cl k=r:=by rw[stQ,hr];rfl
      have hrl:=(z61 hr).1
      obtain⟨l,hl⟩:∃ l,A[r]? =some l:=⟨_,List.getElem?_eq_getElem (by rw[hA.len];omega)⟩
      have hf:(⟨F,A⟩:Au).arcs (r:Nat)=l:=by rw[Au.arcs,if_neg (by omega),Int.toNat_natCast,List.getD,hl];rfl
      rw[hst,hf]
      obtain⟨l0,l1,l2⟩:=hA.arc l (List.mem_of_getElem? hl)
      obtain⟨b1,b2⟩:=zaa (fun q=>(z96 hW.rng q).1) l0
      have bl:=zle (cl:=cl) (l:=l)
      have bm:=ze7 (B:=4000000) (fun q=>(z96 hW.rng q).2) (hA1 l (List.mem_of_getElem? hl))
      have hoa:=zl6 b1
      refine⟨⟨by omega,fun e he=>⟨(bm e he).1,hoa e he,(bm e he).2.2.2.1⟩⟩,fun e he=>?_⟩
      have hee:=zh9 b1 he
      rw[b2] at hee
      have h0:=(bm e he).2.2.2.2.1
      rw[clA] at hee
      split at hee
      · omega
      · rename_i hnn
        obtain⟨y,hy,hy2⟩:=zeu (l:=l) (c:=e.1) (by omega)
        have hyr:=l2 y hy
        exact⟨(nxt l e.1).toNat,by omega,hee,h0⟩
     have:=zkl (BX F A) (.box [.ref (0,29)]) (.box [.d (ints cl)]) (mpD m) (fun k=>∃ q,q<F.length∧cl.getD q 0=k∧0≤k) (fun k=>(⟨F,A⟩:Au).fin (stQ cl k:Nat)) (fun k=>byC cl ((⟨F,A⟩:Au).arcs (stQ cl k:Nat))) k0 lim (by omega) (by omega) ⟨0,hpos,z3f hk0,by omega⟩ (fun k hk=>zt2 F A cl m hcl hm k (by obtain⟨q,a,b,_⟩:=hk;exact⟨q,a,b⟩)) (fun k hk=>zt7 F A cl m hA hcl hm k (by obtain⟨q,a,b,_⟩:=hk;exact⟨q,a,b⟩)) hrng H (hH ((0,2),BX F A) (by simp)) (hH ((0,8),.box [.ref (0,29)]) (by simp)) (hH ((0,6),.box [.d (ints cl)]) (by simp)) (hH ((0,29),mpD m) (by simp))
     rw[Int.toNat_natCast] at this
     rw[zwo,z3f hk0]
     exact this
    generalize zwo F A cl lim=o2 at *
    refine z0j Tryz.func44 (by kernel_rfl) rfl (by simp) ?_
    dsimp only[Tryz.f44]
    repeat' (first|(apply z07;(first|refine za0 (by decide) rfl ?_|refine z0o ?_| (apply z06;(first|refine z02 z3q rfl rfl ?_| refine z02 z1c rfl rfl ?_| refine z02 z2d rfl rfl ?_))|(apply z0g;(refine z02 (z1x (ys:=cl.map icc) rfl (zf2 (g:=icc) hk0i)) rfl rfl ?_))|(apply z10;(refine z02 (z1f rfl) rfl rfl ?_))|(apply z0t;(refine z1h hcs ?_))|(apply z0c;(refine z1r ?_))|(apply z0e;(refine z05 z2e ?_))|(apply z1p;(refine z05 z22 ?_))|(apply z1v;(refine z2b rfl ?_))))|(apply z09;(first|refine z0n ?_|apply z0a))|(apply z08;(first|apply z0b|apply z00|refine z14 ?_| apply z04|apply z01|refine z0h (fun _=>?_) (fun _=>?_))))
    all_goals try (exfalso;omega)
    refine z1g ?_
    refine z0f (z2i (fun q:Nat × List (Int × D)=>⟨52,[(1,I .i64 lim),(2,.ptr (0,2) 0),(4,.ptr (0,4) 0),(6,.ptr (0,6) 0),(8,.ptr (0,8) 0),(30,.d (ints cl)),(31,I .i64 cl.length),(32,I .i64 (q.1:Nat))],[(29,mpD q.2),(8,.box [.ref (0,29)]),(6,.box [.d (ints cl)]),(4,.box [.d (.lit z3h),.d (.lit z3h)]),(2,BX F A)],H⟩) (fun q=>q.1≤cl.length∧∀ k,z55 q.2 k=(zbf cl q.1 k).map fun s=>z2o (s:Nat)) (fun q=>cl.length-q.1) ?_ (0,[]) ⟨Nat.zero_le _,fun k=>rfl⟩) rfl rfl
    rintro⟨q,m⟩ ⟨q1,q2⟩ ih
    simp only at q1 q2 ih ⊢
    by_cases hlt:q<cl.length
    · obtain⟨k,hk⟩:∃ k,cl[q]? =some k:=⟨_,List.getElem?_eq_getElem hlt⟩
      have ih':=ih (q+1,zdm m k (z2o (q:Nat))) ⟨by simp only;omega,fun k'=>by
       simp only
       rw[zfy,zbf,z3f hk]
       by_cases e:k=k'
       · rw[if_pos e,if_pos e];rfl
       · rw[if_neg e,if_neg e];exact q2 k'⟩ (by simp only;omega)
      repeat' (first|(apply z07;(first|refine z4b (et:=3) (a:=k) (v:=z2o (q:Nat)) (py:=I .i64 k) (q:=m) (by kernel_rfl) zb9 rfl rfl zc1 rfl rfl rfl ?_|refine z0o ?_| (apply z06;(first|refine z02 z1c rfl rfl ?_| refine z02 z2d rfl rfl ?_))|(apply z0g;(refine z02 (z1x (ys:=cl.map icc) rfl (idx (g:=icc) hk)) rfl rfl ?_))|(apply z0y;(refine z02 (z0v z1e) rfl rfl ?_))))|(apply z09;(first|refine z0n ?_|apply z0a))|(apply z08;(first|apply z0b|apply z00|apply z04|apply z01|apply z03|refine z0h (fun _=>?_) (fun _=>?_)| refine z0m ?_)))
      all_goals try (exfalso;omega)
      all_goals exact z0f ih' rfl rfl
    · obtain rfl:q=cl.length:=by omega
      have he:=hex m q2
      clear ih hex
      cases o2 with
      | some a =>
       simp only[exR] at he ⊢
       repeat' (first|(apply z07;(first|refine z8v rfl rfl (by decide) ?_|refine z0o ?_| (apply z06;(first|refine z02 z1c rfl rfl ?_| refine z02 z2d rfl rfl ?_))|(apply z0g;(refine z02 (z1x (ys:=cl.map icc) rfl (zf2 (g:=icc) hk0i)) rfl rfl ?_))|(apply z0t;(refine z3c he rfl rfl (by decide) ?_))|(apply z0c;(refine z1r ?_))))|(apply z09;(first|refine z0n ?_|apply z0a))|(apply z08;(first|apply z0b|apply z00|apply z04|apply z01|refine z0h (fun _=>?_) (fun _=>?_)| refine z0m ?_)))
       all_goals try (exfalso;omega)
       all_goals exact z0k Tryz.func44 _ (z0u rfl rfl rfl rfl rfl rfl rfl) ⟨rfl,rfl⟩
      | none =>
       simp only[exR] at he ⊢
       repeat' (first|(apply z07;(first|refine z8v rfl rfl (by decide) ?_|refine z0o ?_| (apply z06;(first|refine z02 z1c rfl rfl ?_| refine z02 z2d rfl rfl ?_))|(apply z0g;(refine z02 (z1x (ys:=cl.map icc) rfl (zf2 (g:=icc) hk0i)) rfl rfl ?_))|(apply z0t;(refine z3c he rfl rfl (by decide) ?_))|(apply z0c;(refine z1r ?_))))|(apply z09;(first|refine z0n ?_|apply z0a))|(apply z08;(first|apply z0b|apply z00|apply z04|apply z01|refine z0h (fun _=>?_) (fun _=>?_)| refine z0m ?_)))
       all_goals try (exfalso;omega)
       all_goals exact z0k Tryz.func44 _ (z0u rfl rfl rfl rfl rfl rfl rfl) ⟨rfl,rfl⟩
noncomputable def zdh (a:Au):Au:=(zkv ((z6j a.F a.A).getD ⟨[],[]⟩).F ((z6j a.F a.A).getD ⟨[],[]⟩).A 256).getD ⟨[],[]⟩
theorem zeq (a:Au) (hf:zgc a) (h:vAu a≠0):z11 Tryz.prog 21 [.d (auD a)] (.tup [.d (auD ⟨[],[]⟩),I .i64 1]):=by
 refine z1j fun H=>?_
 have hv:=z9k a hf
 generalize vAu a=v at *
 refine z0j Tryz.func21 (by kernel_rfl) rfl (by simp) ?_
 dsimp only[Tryz.f21]
 repeat' (first|(apply z07;(first|refine z0o ?_| (apply z06;(refine z02 z3q rfl rfl ?_))|(apply z0t;(refine z1h hv ?_))|(apply z0c;(refine z1r ?_))|(apply z0e;(refine z05 z2e ?_))|(apply z1p;(refine z05 z22 ?_))|(apply z0z;(refine z3p ?_))))|(apply z09;(first|refine z0n ?_|apply z0a))|(apply z08;(first|apply z0b|apply z00|apply z04|refine z56 rfl (fun _=>?_) (fun _=>?_))))
 all_goals try (exfalso;omega)
 all_goals exact z0k Tryz.func21 _ (z0u rfl rfl rfl rfl rfl rfl rfl) ⟨rfl,rfl⟩
theorem z9h (a:Au) (hf:zgc a) (h:vAu a=0) (hA:zav a.F a.A) (hR:zav ((z6j a.F a.A).getD ⟨[],[]⟩).F ((z6j a.F a.A).getD ⟨[],[]⟩).A):z11 Tryz.prog 21 [.d (auD a)] (.tup [.d (auD (zdh a)),I .i64 0]):=by
 refine z1j fun H=>?_
 have hv:=z9k a hf
 have hr:=zhn a.F a.A hA
 have hm:=zex _ _ hR 256 (by decide) (by decide)
 rw[zdh]
 rw[h] at hv
 obtain⟨F,A⟩:=a
 simp only at hr hm ⊢
 generalize (z6j F A).getD ⟨[],[]⟩=r at *
 obtain⟨F2,A2⟩:=r
 simp only at hm ⊢
 generalize zkv F2 A2 256=o at *
 cases o with
 | some b =>
  simp only[exR] at hm
  simp only[Option.getD_some]
  refine z0j Tryz.func21 (by kernel_rfl) rfl (by simp) ?_
  dsimp only[Tryz.f21]
  repeat' (first|(apply z07;(first|refine z0o ?_| (apply z06;(first|refine z02 z3q rfl rfl ?_| refine z02 z23 rfl rfl ?_))|(apply z0t;(first|refine z1h hv ?_| refine z1h hr ?_| refine z1h hm ?_))|(apply z0c;(refine z1r ?_))|(apply z0e;(refine z05 z2e ?_))|(apply z1p;(refine z05 z22 ?_))))|(apply z09;(first|refine z0n ?_|apply z0a))|(apply z08;(first|apply z0b|apply z00|refine z14 ?_| apply z04)))
  all_goals try (exfalso;first|omega|(simp at *;done))
  all_goals exact z0k Tryz.func21 _ (z0u rfl rfl rfl rfl rfl rfl rfl) ⟨rfl,rfl⟩
 | none =>
  simp only[exR] at hm
  simp only[Option.getD_none]
  refine z0j Tryz.func21 (by kernel_rfl) rfl (by simp) ?_
  dsimp only[Tryz.f21]
  repeat' (first|(apply z07;(first|refine z0o ?_| (apply z06;(first|refine z02 z3q rfl rfl ?_| refine z02 z23 rfl rfl ?_))|(apply z0t;(first|refine z1h hv ?_| refine z1h hr ?_| refine z1h hm ?_))|(apply z0c;(refine z1r ?_))|(apply z0e;(refine z05 z2e ?_))|(apply z1p;(refine z05 z22 ?_))))|(apply z09;(first|refine z0n ?_|apply z0a))|(apply z08;(first|apply z0b|apply z00|refine z14 ?_| apply z04)))
  all_goals try (exfalso;first|omega|(simp at *;done))
  all_goals exact z0k Tryz.func21 _ (z0u rfl rfl rfl rfl rfl rfl rfl) ⟨rfl,rfl⟩
end Go.Proofs.YthdfkabdoidjfaaGreatDoor
namespace Go.Proofs.YthdfkabdoidjfaaGreatDoor
open Go.Ab Go.Ax
set_option maxHeartbeats 20000000
set_option maxRecDepth 100000
attribute [local irreducible] Run Ops Op1 z1t Val Tr z11 z1s NF Rel z43 z42
theorem zor {a:Bool × Nat}:∀ β w own v,PR β w own (scP a) v→v=ztm a:=fun β w own v h=>zf1 (xs:=[.bool a.1,.int .u64 (a.2:Nat)]) β w own v h
theorem zos {a:Int × Int}:∀ β w own v,PR β w own (pcP a) v→v=zgt a:=fun β w own v h=>zf1 (xs:=[.int .i64 a.1,.int .i64 a.2]) β w own v h
theorem z9t {l:List Field} {f:Field→Bool × TypeId × Nat} {a b:Bool × TypeId × Nat} (h:l.map f=[a,b]):∃ x y,l=[x,y]∧f x=a∧f y=b:=by
 match l,h with
 | [x,y],h=>simp at h;exact⟨x,y,rfl,h.1,h.2⟩
theorem zwf (w:World) (a b:Int × Int):(Op.equal 138 (zgt a) (zgt b)).run Tryz.prog w=.ok (decide (a=b)) w:=by
 have hf:(Tryz.prog.fieldsOf 138).toList.map (fun f=>(f.name == "_",f.type,f.offset))=[(false,3,0),(false,3,1)]:=by kernel_rfl
 have hu:Tryz.prog.underlying 138=some (.struct (Tryz.prog.fieldsOf 138)):=by kernel_rfl
 have hs:Tryz.prog.stoodInHeld 138=false:=by kernel_rfl
 have hint:Tryz.prog.underlying 3=some (.int .i64):=T3.int rfl
 have ha3:∀ w,(isAgg 3).run Tryz.prog w=.ok false w:=fun w=>T3.isAgg w
 simp only[Op.equal,Op.maxDepth,zgt]
 rw[run_equalIn_struct w 9999 138 _ _ hu hs]
 obtain⟨⟨n1,t1,o1⟩,⟨n2,t2,o2⟩,he,e1,e2⟩:=z9t hf
 rw[he]
 simp only[Prod.mk.injEq,beq_eq_false_iff_ne,ne_eq] at e1 e2
 have hab:decide (a=b)=(decide (a.1=b.1)&&decide (a.2=b.2)):=by
  rw[Bool.eq_iff_iff];simp[Prod.ext_iff]
 simp only[Op.eqFields,e1.1,e2.1,ne_eq,not_false_eq_true,if_true,e1.2.1,e1.2.2,e2.2.1,e2.2.2,part,Sem.run_bind,ha3,Result.andThen_ok,Bool.false_eq_true,if_false,hab]
 by_cases h1:a.1=b.1
 · by_cases h2:a.2=b.2 <;> simp[run_equalIn_int _ _ _ _ _ _ _ hint,h1,h2]
 · simp[run_equalIn_int _ _ _ _ _ _ _ hint,h1]
theorem zz1 (w:World) (a b:Bool × Nat):(Op.equal 78 (ztm a) (ztm b)).run Tryz.prog w=.ok (decide (a=b)) w:=by
 have hf:(Tryz.prog.fieldsOf 78).toList.map (fun f=>(f.name == "_",f.type,f.offset))=[(false,4,0),(false,76,1)]:=by kernel_rfl
 have hu:Tryz.prog.underlying 78=some (.struct (Tryz.prog.fieldsOf 78)):=by kernel_rfl
 have hs:Tryz.prog.stoodInHeld 78=false:=by kernel_rfl
 have hbo:Tryz.prog.underlying 4=some .bool:=T4.bool rfl
 have hint:Tryz.prog.underlying 76=some (.int .u64):=T76.int rfl
 have ha4:∀ w,(isAgg 4).run Tryz.prog w=.ok false w:=fun w=>T4.isAgg w
 have ha76:∀ w,(isAgg 76).run Tryz.prog w=.ok false w:=fun w=>T76.isAgg w
 simp only[Op.equal,Op.maxDepth,ztm]
 rw[run_equalIn_struct w 9999 78 _ _ hu hs]
 obtain⟨⟨n1,t1,o1⟩,⟨n2,t2,o2⟩,he,e1,e2⟩:=z9t hf
 rw[he]
 simp only[Prod.mk.injEq,beq_eq_false_iff_ne,ne_eq] at e1 e2
 have hab:decide (a=b)=(decide (a.1=b.1)&&decide (a.2=b.2)):=by
  rw[Bool.eq_iff_iff];simp[Prod.ext_iff]
 simp only[Op.eqFields,e1.1,e2.1,ne_eq,not_false_eq_true,if_true,e1.2.1,e1.2.2,e2.2.1,e2.2.2,part,Sem.run_bind,ha4,ha76,Result.andThen_ok,Bool.false_eq_true,if_false,hab]
 by_cases h1:a.1=b.1
 · by_cases h2:a.2=b.2 <;> simp[run_equalIn_int _ _ _ _ _ _ _ hint,Go.run_equalIn_bool' _ _ _ _ _ hbo,h1,h2,Int.ofNat_inj]
 · simp[Go.run_equalIn_bool' _ _ _ _ _ hbo,h1]
theorem zrt {P:Program} {kt t1 t2:TypeId} {u v:Value} {d1 d2:TypeDesc} (hu:P.underlying kt=some (.struct (P.fieldsOf kt))) (hf:(P.fieldsOf kt).toList.map (fun f=>(f.name == "_",f.type,f.offset))=[(false,t1,0),(false,t2,1)])
 (h1:P.underlying t1=some d1) (k1:MapKept.IsKey d1 u) (h2:P.underlying t2=some d2) (k2:MapKept.IsKey d2 v) (a1:∀ w,(isAgg t1).run P w=.ok false w) (a2:∀ w,(isAgg t2).run P w=.ok false w) (w:World) (e:Bool):(Instr.checkKey e 10000 kt (.agg #[u,v])).run P w=.ok () w:=by
 obtain⟨⟨n1,t1',o1'⟩,⟨n2,t2',o2'⟩,he,e1,e2⟩:=z9t hf
 simp only[Prod.mk.injEq,beq_eq_false_iff_ne,ne_eq] at e1 e2
 obtain⟨e11,rfl,rfl⟩:=e1
 obtain⟨e21,rfl,rfl⟩:=e2
 have c1:=fun n=>MapKept.run_checkKey (w:=w) h1 k1 e n
 have c2:=fun n=>MapKept.run_checkKey (w:=w) h2 k2 e n
 rw[Instr.checkKey]
 simp only[Sem.run_bind,run_underlying hu,Result.andThen_ok]
 rw[← Array.forIn_toList,he]
 simp only[List.forIn_cons,List.forIn_nil,Sem.run_bind,e11,e21,ne_eq,not_false_eq_true,if_true,part,a1,a2,Result.andThen_ok,Bool.false_eq_true,if_false]
 simp[part,c1,c2,a1,a2,e21,e11,Result.andThen]
theorem zoo:zgd Tryz.prog 138 zgt:=zgd.of_eq (by rw[show Tryz.prog.underlying 138=some (.struct (Tryz.prog.fieldsOf 138)) by kernel_rfl])
 (fun w e a=>zrt (by kernel_rfl) (by kernel_rfl) (T3.int rfl) (show MapKept.IsKey (.int .i64) (.int .i64 a.1) from rfl) (T3.int rfl) (show MapKept.IsKey (.int .i64) (.int .i64 a.2) from rfl) (fun w=>T3.isAgg w) (fun w=>T3.isAgg w) w e) zwf (fun a=>by simp[zgt,Instr.sameBits])
theorem zoq:zgd Tryz.prog 78 ztm:=zgd.of_eq (by rw[show Tryz.prog.underlying 78=some (.struct (Tryz.prog.fieldsOf 78)) by kernel_rfl])
 (fun w e a=>zrt (by kernel_rfl) (by kernel_rfl) (T4.bool rfl) (show MapKept.IsKey .bool (.bool a.1) from trivial) (T76.int rfl) (show MapKept.IsKey (.int .u64) (.int .u64 (a.2:Nat)) from rfl) (fun w=>T4.isAgg w) (fun w=>T76.isAgg w) w e) zz1 (fun a=>by simp[ztm,Instr.sameBits])
end Go.Proofs.YthdfkabdoidjfaaGreatDoor
namespace Go.Proofs.YthdfkabdoidjfaaGreatDoor
open Go.Ab Go.Ax
set_option maxHeartbeats 20000000
set_option maxRecDepth 100000
attribute [local irreducible] Run Ops Op1 z1t Val Tr z11 z1s NF Rel z43 z42
theorem zkj (b1 b2 b3:Blk) (ok:Int × Int→Prop) (fin:Int × Int→Bool) (edg:Int × Int→List (Go.Ax.Edge (Int × Int))) (first:Int × Int) (lim:Int) (hl0:1≤lim) (hl1:lim≤2000000) (hok0:ok first)
 (hfin:∀ k,ok k→z1s Tryz.prog 94 [pcP k,.ptr (1,5) 0,.ptr (1,3) 0,.ptr (1,4) 0] [((1,3),b1),((1,4),b2),((1,5),b3)] [] (B (fin k))) (hedg:∀ k,ok k→z1s Tryz.prog 97 [pcP k,.ptr (1,3) 0,.ptr (1,4) 0,.ptr (1,5) 0] [((1,3),b1),((1,4),b2),((1,5),b3)] [] (.d (.slice ((edg k).map ped)))) (hE:∀ k,ok k→edE (edg k)∧∀ e∈edg k,ok e.2.2)
 (H:Hf) (hb1:H 0 3=some b1) (hb2:H 0 4=some b2) (hb3:H 0 5=some b3) :
 Ab.Spec Tryz.prog 101 [pcP first,.fn (.func 94) [] [.ptr (0,5) 0,.ptr (0,3) 0,.ptr (0,4) 0],.fn (.func 97) [] [.ptr (0,3) 0,.ptr (0,4) 0,.ptr (0,5) 0],I .i64 lim] H (fun r H'=>r=.v (exR (exL fin edg lim.toNat (lim.toNat+1) 0 [first] ⟨[],[]⟩))∧H'=H):=by
 have hb:∀ (n:Nat) (tm:List (Nat × PV)) (hp:Hp),BkE ⟨n,tm,hp,H⟩ [((1,3),b1),((1,4),b2),((1,5),b3)]:=fun n tm hp=>by simp[BkE,z45,push,hb1,hb2,hb3]
 refine z0j Tryz.func101 (by kernel_rfl) rfl (by simp) ?_
 dsimp only[Tryz.f101]
 repeat' (first|(apply z07;(first|refine za0 (by decide) rfl ?_|refine zdb (et:=3) (a:=first) (v:=z2o 0) (py:=pcP first) (q:=([]:List ((Int × Int) × D))) (by kernel_rfl) zoo rfl rfl zos rfl rfl rfl ?_|refine z0o ?_| (apply z06;(refine z02 z3q rfl rfl ?_))|(apply z0e;(refine z05 z2e ?_))|(apply z1p;(refine z05 z22 ?_))|(apply z1v;(refine zcp rfl rfl rfl rfl rfl rfl rfl rfl rfl (by decide) ?_))))|(apply z09;(first|refine z0n ?_|apply z0a))|(apply z08;(first|apply z0b|apply z00|apply z01)))
 refine z1w 24 1000 ?_
 refine z3t 10 0 1001 4 1 rfl rfl rfl rfl ?_
 refine z3t 10 1 1002 39 1 rfl rfl rfl rfl ?_
 generalize hres:exL fin edg lim.toNat (lim.toNat+1) 0 [first] ⟨[],[]⟩=res
 refine z1g ?_
 refine z0f (z2i (fun q:Nat × List (Int × Int) × Au=>⟨128,[(1,.fn (.func 94) [] [.ptr (1,5) 0,.ptr (1,3) 0,.ptr (1,4) 0]),(2,.fn (.func 97) [] [.ptr (1,3) 0,.ptr (1,4) 0,.ptr (1,5) 0]),(3,I .i64 lim),(8,.ptr (0,8) 0),(10,.ptr (0,10) 0),(11,.ref (0,20)),(12,.ref (0,1000)),(13,I .i64 (q.1:Nat))],[(20,mpP q.2.1),(1000,.row 138 2 (q.2.1.map pcc)),(10,.box [.ref (0,1001),.ref (0,1002)]),(1001,.row 4 1 (q.2.2.F.map boc)),(1002,.row 39 1 (q.2.2.A.map z4v)),(8,.box [.d (.lit z3h),.d (.lit z3h)])],H⟩) (fun q=>q.1≤q.2.1.length∧1≤q.2.1.length∧q.2.1.length≤lim.toNat∧q.2.2.F.length=q.1∧q.2.2.A.length=q.1∧(∀ x∈q.2.1,ok x)∧exL fin edg lim.toNat (lim.toNat+1-q.1) q.1 q.2.1 q.2.2=res) (fun q=>lim.toNat+1-q.1) ?_ (0,[first],⟨[],[]⟩) ⟨Nat.zero_le _,Nat.le_refl _,by simp only[List.length_singleton];omega,rfl,rfl,fun x hx=>by rw[List.mem_singleton] at hx;rw[hx];exact hok0,hres⟩) rfl rfl
 rintro⟨i,ks,⟨F,A⟩⟩ ⟨i1,i2,i3,i4,i5,i7,i6⟩ ih
 simp only at i1 i2 i3 i4 i5 i6 i7 ih ⊢
 by_cases hlt:i<ks.length
 · obtain⟨k,hk⟩:∃ k,ks[i]? =some k:=⟨_,List.getElem?_eq_getElem hlt⟩
   obtain⟨n,hn⟩:∃ n,lim.toNat+1-i=n+1:=⟨lim.toNat-i,by omega⟩
   rw[hn,exL,hk] at i6
   simp only at i6
   have hok:=i7 k (List.mem_of_getElem? hk)
   have hff:=hfin k hok
   have hee:=hedg k hok
   obtain⟨⟨hE1,hE2⟩,hE3⟩:=hE k hok
   generalize edg k=es at *
   generalize fin k=fb at *
   repeat' (first|(apply z07;(first|refine z0o ?_| (apply z06;(refine z02 (z8p hk rfl rfl) rfl rfl ?_))|(apply z0g;(refine z02 (z3b rfl) rfl rfl ?_))|(apply z10;(first|refine z02 (za3 rfl) rfl rfl ?_| refine z02 (z1f rfl) rfl rfl ?_))|(apply z0t;(refine zpj (first:=[]) (cap:=[.ptr (1,3) 0,.ptr (1,4) 0,.ptr (1,5) 0]) (ps:=[pcP k]) hee rfl rfl (hb _ _ _) (by decide) ?_))))|(apply z09;(first|refine z0n ?_|apply z0a))|(apply z08;(first|apply z0b|apply z00|apply z04|apply z01|refine z0h (fun _=>?_) (fun _=>?_)| refine z0m ?_)))
   all_goals try (exfalso;simp only[List.length_map] at *;omega)
   refine z2f 14 1003 38 3 rfl rfl rfl ?_
   refine z1g ?_
   refine z0f (z2i (fun q:Nat × List (Int × Int) × List Arc=>⟨128,[(1,.fn (.func 94) [] [.ptr (1,5) 0,.ptr (1,3) 0,.ptr (1,4) 0]),(2,.fn (.func 97) [] [.ptr (1,3) 0,.ptr (1,4) 0,.ptr (1,5) 0]),(3,I .i64 lim),(8,.ptr (0,8) 0),(10,.ptr (0,10) 0),(11,.ref (0,20)),(12,.ref (0,1000)),(13,I .i64 (i:Nat)),(14,.ref (0,1003)),(36,.d (.slice (es.map ped))),(37,I .i64 es.length),(38,I .i64 (q.1:Nat))],[(20,mpP q.2.1),(1000,.row 138 2 (q.2.1.map pcc)),(1003,.row 38 3 (q.2.2.map z2r)),(10,.box [.ref (0,1001),.ref (0,1002)]),(1001,.row 4 1 (F.map boc)),(1002,.row 39 1 (A.map z4v)),(8,.box [.d (.lit z3h),.d (.lit z3h)])],H⟩) (fun q=>q.1≤es.length∧q.2.2.length≤q.1∧q.2.1.length≤ks.length+q.1∧q.2.1[i]? =some k∧(∀ y∈q.2.2,0≤y.2.1∧y.2.1≤1114111)∧(∀ x∈q.2.1,ok x)∧(es.drop q.1).foldl z5n q.2=es.foldl z5n (ks,[])) (fun q=>es.length-q.1) ?_ (0,ks,[]) ⟨Nat.zero_le _,Nat.le_refl _,Nat.le_refl _,hk,by simp,i7,rfl⟩) rfl rfl
   rintro⟨j,ks2,arcs⟩ ⟨j1,j2,j3,j4,j5,j7,j6⟩ ihj
   simp only at j1 j2 j3 j4 j5 j6 j7 ihj ⊢
   by_cases hjl:j<es.length
   · obtain⟨e,he⟩:∃ e,es[j]? =some e:=⟨_,List.getElem?_eq_getElem hjl⟩
     obtain⟨r1,r2,r3⟩:=hE2 e (List.mem_of_getElem? he)
     rw[drop_cons he,List.foldl_cons,z5n] at j6
     simp only at j6
     have hal:=zao ks2 e.2.2
     have hln:=z9s arcs e.1 e.2.1 (z3y e.2.2 ks2:Nat)
     have ihj':=ihj (j+1,z6n ks2 e.2.2,ext arcs e.1 e.2.1 (z3y e.2.2 ks2:Nat)) ⟨by simp only;omega,by simp only;omega,by simp only;omega,by simp only;obtain⟨x,hx⟩:=z7o ks2 e.2.2;rw[hx,List.getElem?_append_left (List.getElem?_eq_some_iff.1 j4).1];exact j4,fun y hy=>by
      rcases ext_mem hy with h|h
      · omega
      · exact j5 y h,fun x hx=>by
      rcases z8z hx with h|h
      · rw[h];exact hE3 e (List.mem_of_getElem? he)
      · exact j7 x h,j6⟩ (by simp only;omega)
     have hget:=z7n e.2.2 ks2 0
     clear ihj hal
     by_cases hknown:e.2.2∈ks2
     · rw[z6n,if_pos hknown] at ihj'
       rw[if_pos hknown,Nat.zero_add] at hget
       have hget1:(z55 (z3d 0 ks2) e.2.2).getD (.lit (.int .i64 0))=z2o (z3y e.2.2 ks2:Nat):=by rw[hget];rfl
       have hget2:(z55 (z3d 0 ks2) e.2.2).isSome=true:=by rw[hget];rfl
       generalize z3y e.2.2 ks2=qv at *
       rcases zgh arcs with rfl|⟨m,y,rfl⟩
       · rw[ext_nil] at ihj'
         repeat' (first|(apply z07;(first|refine z05 (z4k (et:=3) (a:=e.2.2) (q:=z3d 0 ks2) (z0:=Value.int .i64 0) (py:=pcP e.2.2) zoo (z25 (by kernel_rfl)) rfl rfl rfl zos rfl hget1 hget2) ?_|refine z0o ?_| (apply z06;(first|refine z02 z1c rfl rfl ?_| refine z02 z1u rfl rfl ?_| refine z02 z23 rfl rfl ?_))|(apply z0d;(refine z02 z0i rfl rfl ?_))|(apply z0g;(refine z02 (z1x (ys:=es.map ped) rfl (idx he)) rfl rfl ?_))|(apply z0y;(refine z02 (z0v z1e) rfl rfl ?_))|(apply z10;(first|refine z02 (z1d rfl) rfl rfl ?_| refine z4w (g:=z2r) rfl rfl (e.1,e.2.1,((qv:Nat):Int)) rfl rfl rfl rfl rfl rfl rfl (by decide) (by simp) ?_))|(apply z0c;(refine z1r ?_))|(apply z0e;(refine z05 z2e ?_))|(apply z0z;(refine z3p ?_))|(apply z1v;(refine z2b rfl ?_))))|(apply z09;(first|refine z0n ?_|apply z0a))|(apply z08;(first|apply z0b|apply z00|refine z14 ?_| apply z04|apply z01|apply z38|apply z03|refine z0h (fun _=>?_) (fun _=>?_)| refine z0m ?_))|(apply z34;(first|(apply z1a;refine z1q mix ?_)|refine z36 ?_| refine z3a ?_| (apply z0s;(refine z0l z1c rfl rfl ?_))|(apply z0p;(refine z0l z0i rfl rfl ?_)))))
         all_goals try (exfalso;first|omega|(simp at *;done))
         all_goals skip
         all_goals refine z1w 103 1003 ?_
         all_goals exact z0f ihj' rfl rfl
       · have hy:=j5 y (by simp)
         have hal:((m++[y]).map z2r).length=m.length+1:=by simp
         have hal2:(m++[y]).length=m.length+1:=by simp
         have hix:(m++[y])[(((((m++[y]).length:Nat):Int)-1)).toNat]? =some y:=by
          rw[hal2,show (((m.length+1:Nat):Int)-1).toNat=m.length by omega];simp
         have hse:(m++[y]).set (((((m++[y]).length:Nat):Int)-1)).toNat ((y.1,e.2.1,y.2.2):Arc)=m++[(y.1,e.2.1,y.2.2)]:=by
          rw[hal2,show (((m.length+1:Nat):Int)-1).toNat=m.length by omega];simp
         rw[z3u] at ihj'
         by_cases hj:y.2.1+1=e.1∧y.2.2=(qv:Nat)
         · have hyq:(y.1,e.2.1,((qv:Nat):Int))=((y.1,e.2.1,y.2.2):Arc):=by rw[hj.2]
           rw[if_pos hj,hyq] at ihj'
           repeat' (first|(apply z07;(first|refine z05 (z4k (et:=3) (a:=e.2.2) (q:=z3d 0 ks2) (z0:=Value.int .i64 0) (py:=pcP e.2.2) zoo (z25 (by kernel_rfl)) rfl rfl rfl zos rfl hget1 hget2) ?_|refine z0o ?_| (apply z06;(first|refine z02 z1c rfl rfl ?_| refine z02 z1u rfl rfl ?_| refine z02 z23 rfl rfl ?_))|(apply z0d;(first|refine z02 z0i rfl rfl ?_| refine z02 z3n rfl rfl ?_))|(apply z0g;(first|refine z02 (z1x (ys:=es.map ped) rfl (idx he)) rfl rfl ?_| refine z02 (z3b rfl) rfl rfl ?_))|(apply z0y;(first|refine z02 (z0v z1e) rfl rfl ?_| refine z02 (z1y z1e) rfl rfl ?_))|(apply z10;(first|refine z02 (z1d rfl) rfl rfl ?_| refine z30 (g:=z2r) (e.1,e.2.1,((qv:Nat):Int)) rfl ?_))|(apply z0c;(first|refine z4g ((y.1,e.2.1,y.2.2):Arc) hix hse ?_| refine z1r ?_))|(apply z0e;(refine z05 z2e ?_))|(apply z0z;(refine z3p ?_))|(apply z1v;(refine z2b rfl ?_))))|(apply z09;(first|refine z0n ?_|apply z0a))|(apply z08;(first|apply z0b|apply z00|refine z14 ?_| apply z04|apply z01|apply z38|apply z03|refine z0h (fun _=>?_) (fun _=>?_)| refine z0m ?_))|(apply z34;(first|(apply z1a;refine z1q mix ?_)|refine z36 ?_| refine z3a ?_| (apply z0s;(first|refine z0l (z2c (u:=z5p y.2.1) hix) rfl rfl ?_| refine z0l (z2c (u:=z2o y.2.2) hix) rfl rfl ?_| refine z0l z1c rfl rfl ?_))|(apply z0p;(first|refine z0l z0i rfl rfl ?_| refine z0l z3n rfl rfl ?_))|(apply z15;(refine z0l (z3b rfl) rfl rfl ?_))|(apply z1z;(first|refine z0l (z0v (zal (by omega) (by omega))) rfl rfl ?_| refine z0l (z1y z1e) rfl rfl ?_))|(refine z1o rfl rfl (fun hg=>?_) (fun hg=>?_) <;> simp only[hg] <;> (try simp only[decide_eq_true_eq,decide_eq_false_iff_not,Bool.not_eq_true',Bool.not_eq_false'] at hg)))))
           all_goals try (exfalso;omega)
           all_goals skip
           all_goals exact z0f ihj' rfl rfl
         · rw[if_neg hj] at ihj'
           repeat' (first|(apply z07;(first|refine z05 (z4k (et:=3) (a:=e.2.2) (q:=z3d 0 ks2) (z0:=Value.int .i64 0) (py:=pcP e.2.2) zoo (z25 (by kernel_rfl)) rfl rfl rfl zos rfl hget1 hget2) ?_|refine z0o ?_| (apply z06;(first|refine z02 z1c rfl rfl ?_| refine z02 z1u rfl rfl ?_| refine z02 z23 rfl rfl ?_))|(apply z0d;(first|refine z02 z0i rfl rfl ?_| refine z02 z3n rfl rfl ?_))|(apply z0g;(first|refine z02 (z1x (ys:=es.map ped) rfl (idx he)) rfl rfl ?_| refine z02 (z3b rfl) rfl rfl ?_))|(apply z0y;(first|refine z02 (z0v z1e) rfl rfl ?_| refine z02 (z1y z1e) rfl rfl ?_))|(apply z10;(first|refine z02 (z1d rfl) rfl rfl ?_| refine z30 (g:=z2r) (e.1,e.2.1,((qv:Nat):Int)) rfl ?_))|(apply z0c;(first|refine z4g ((y.1,e.2.1,y.2.2):Arc) hix hse ?_| refine z1r ?_))|(apply z0e;(refine z05 z2e ?_))|(apply z0z;(refine z3p ?_))|(apply z1v;(refine z2b rfl ?_))))|(apply z09;(first|refine z0n ?_|apply z0a))|(apply z08;(first|apply z0b|apply z00|refine z14 ?_| apply z04|apply z01|apply z38|apply z03|refine z0h (fun _=>?_) (fun _=>?_)| refine z0m ?_))|(apply z34;(first|(apply z1a;refine z1q mix ?_)|refine z36 ?_| refine z3a ?_| (apply z0s;(first|refine z0l (z2c (u:=z5p y.2.1) hix) rfl rfl ?_| refine z0l (z2c (u:=z2o y.2.2) hix) rfl rfl ?_| refine z0l z1c rfl rfl ?_))|(apply z0p;(first|refine z0l z0i rfl rfl ?_| refine z0l z3n rfl rfl ?_))|(apply z15;(refine z0l (z3b rfl) rfl rfl ?_))|(apply z1z;(first|refine z0l (z0v (zal (by omega) (by omega))) rfl rfl ?_| refine z0l (z1y z1e) rfl rfl ?_))|(refine z1o rfl rfl (fun hg=>?_) (fun hg=>?_) <;> simp only[hg] <;> (try simp only[decide_eq_true_eq,decide_eq_false_iff_not,Bool.not_eq_true',Bool.not_eq_false'] at hg)))))
           all_goals try (exfalso;omega)
           all_goals skip
           all_goals refine z1w 103 1003 ?_
           all_goals exact z0f ihj' rfl rfl
     · rw[z6n,if_neg hknown,z3o hknown] at ihj'
       rw[z3o hknown] at hln
       rw[if_neg hknown] at hget
       have hget1:(z55 (z3d 0 ks2) e.2.2).getD (.lit (.int .i64 0))=z2o 0:=by rw[hget];rfl
       have hget2:(z55 (z3d 0 ks2) e.2.2).isSome=false:=by rw[hget];rfl
       have hput:=z8s hknown
       dsimp only[mpP] at ihj'
       rw[← hput] at ihj'
       rcases zgh arcs with rfl|⟨m,y,rfl⟩
       · rw[ext_nil] at ihj'
         repeat' (first|(apply z07;(first|refine z05 (z4k (et:=3) (a:=e.2.2) (q:=z3d 0 ks2) (z0:=Value.int .i64 0) (py:=pcP e.2.2) zoo (z25 (by kernel_rfl)) rfl rfl rfl zos rfl hget1 hget2) ?_|refine z0o ?_| (apply z06;(first|refine z02 z1c rfl rfl ?_| refine z02 z1u rfl rfl ?_| refine z02 z23 rfl rfl ?_))|(apply z0d;(refine z02 z0i rfl rfl ?_))|(apply z0g;(refine z02 (z1x (ys:=es.map ped) rfl (idx he)) rfl rfl ?_))|(apply z0y;(refine z02 (z0v z1e) rfl rfl ?_))|(apply z10;(first|refine z02 (z1d rfl) rfl rfl ?_| refine z30 (g:=pcc) e.2.2 rfl ?_| refine z4w (g:=z2r) rfl rfl (e.1,e.2.1,((ks2.length:Nat):Int)) rfl rfl rfl rfl rfl rfl rfl (by decide) (by simp) ?_))|(apply z0c;(refine z1r ?_))|(apply z0e;(refine z05 z2e ?_))|(apply z0z;(refine z3p ?_))|(apply z1v;(refine z2b rfl ?_))|refine z4b (et:=3) (a:=e.2.2) (v:=z2o (ks2.length:Nat)) (py:=pcP e.2.2) (q:=z3d 0 ks2) (by kernel_rfl) zoo rfl rfl zos rfl rfl rfl ?_))|(apply z09;(first|refine z0n ?_|apply z0a))|(apply z08;(first|apply z0b|apply z00|refine z1i ?_| refine z14 ?_| apply z04|apply z01|apply z38|apply z03|refine z0h (fun _=>?_) (fun _=>?_)| refine z0m ?_))|(apply z34;(first|(apply z1a;refine z1q mix ?_)|refine z36 ?_| refine z3a ?_| (apply z0s;(refine z0l z1c rfl rfl ?_))|(apply z0p;(refine z0l z0i rfl rfl ?_)))))
         all_goals try (exfalso;first|omega|(simp at *;done))
         all_goals refine z1w 61 1000 ?_
         all_goals refine z1w 103 1003 ?_
         all_goals exact z0f ihj' rfl rfl
       · have hy:=j5 y (by simp)
         have hal:((m++[y]).map z2r).length=m.length+1:=by simp
         have hal2:(m++[y]).length=m.length+1:=by simp
         have hix:(m++[y])[(((((m++[y]).length:Nat):Int)-1)).toNat]? =some y:=by
          rw[hal2,show (((m.length+1:Nat):Int)-1).toNat=m.length by omega];simp
         have hse:(m++[y]).set (((((m++[y]).length:Nat):Int)-1)).toNat ((y.1,e.2.1,y.2.2):Arc)=m++[(y.1,e.2.1,y.2.2)]:=by
          rw[hal2,show (((m.length+1:Nat):Int)-1).toNat=m.length by omega];simp
         rw[z3u] at ihj'
         by_cases hj:y.2.1+1=e.1∧y.2.2=(ks2.length:Nat)
         · have hyq:(y.1,e.2.1,((ks2.length:Nat):Int))=((y.1,e.2.1,y.2.2):Arc):=by rw[hj.2]
           rw[if_pos hj,hyq] at ihj'
           repeat' (first|(apply z07;(first|refine z05 (z4k (et:=3) (a:=e.2.2) (q:=z3d 0 ks2) (z0:=Value.int .i64 0) (py:=pcP e.2.2) zoo (z25 (by kernel_rfl)) rfl rfl rfl zos rfl hget1 hget2) ?_|refine z0o ?_| (apply z06;(first|refine z02 z1c rfl rfl ?_| refine z02 z1u rfl rfl ?_| refine z02 z23 rfl rfl ?_))|(apply z0d;(first|refine z02 z0i rfl rfl ?_| refine z02 z3n rfl rfl ?_))|(apply z0g;(first|refine z02 (z1x (ys:=es.map ped) rfl (idx he)) rfl rfl ?_| refine z02 (z3b rfl) rfl rfl ?_))|(apply z0y;(first|refine z02 (z0v z1e) rfl rfl ?_| refine z02 (z1y z1e) rfl rfl ?_))|(apply z10;(first|refine z02 (z1d rfl) rfl rfl ?_| refine z30 (g:=pcc) e.2.2 rfl ?_| refine z30 (g:=z2r) (e.1,e.2.1,((ks2.length:Nat):Int)) rfl ?_))|(apply z0c;(first|refine z4g ((y.1,e.2.1,y.2.2):Arc) hix hse ?_| refine z1r ?_))|(apply z0e;(refine z05 z2e ?_))|(apply z0z;(refine z3p ?_))|(apply z1v;(refine z2b rfl ?_))|refine z4b (et:=3) (a:=e.2.2) (v:=z2o (ks2.length:Nat)) (py:=pcP e.2.2) (q:=z3d 0 ks2) (by kernel_rfl) zoo rfl rfl zos rfl rfl rfl ?_))|(apply z09;(first|refine z0n ?_|apply z0a))|(apply z08;(first|apply z0b|apply z00|refine z1i ?_| refine z14 ?_| apply z04|apply z01|apply z38|apply z03|refine z0h (fun _=>?_) (fun _=>?_)| refine z0m ?_))|(apply z34;(first|(apply z1a;refine z1q mix ?_)|refine z36 ?_| refine z3a ?_| (apply z0s;(first|refine z0l (z2c (u:=z5p y.2.1) hix) rfl rfl ?_| refine z0l (z2c (u:=z2o y.2.2) hix) rfl rfl ?_| refine z0l z1c rfl rfl ?_))|(apply z0p;(first|refine z0l z0i rfl rfl ?_| refine z0l z3n rfl rfl ?_))|(apply z15;(refine z0l (z3b rfl) rfl rfl ?_))|(apply z1z;(first|refine z0l (z0v (zal (by omega) (by omega))) rfl rfl ?_| refine z0l (z1y z1e) rfl rfl ?_))|(refine z1o rfl rfl (fun hg=>?_) (fun hg=>?_) <;> simp only[hg] <;> (try simp only[decide_eq_true_eq,decide_eq_false_iff_not,Bool.not_eq_true',Bool.not_eq_false'] at hg)))))
           all_goals try (exfalso;omega)
           all_goals refine z1w 61 1000 ?_
           all_goals exact z0f ihj' rfl rfl
         · rw[if_neg hj] at ihj'
           repeat' (first|(apply z07;(first|refine z05 (z4k (et:=3) (a:=e.2.2) (q:=z3d 0 ks2) (z0:=Value.int .i64 0) (py:=pcP e.2.2) zoo (z25 (by kernel_rfl)) rfl rfl rfl zos rfl hget1 hget2) ?_|refine z0o ?_| (apply z06;(first|refine z02 z1c rfl rfl ?_| refine z02 z1u rfl rfl ?_| refine z02 z23 rfl rfl ?_))|(apply z0d;(first|refine z02 z0i rfl rfl ?_| refine z02 z3n rfl rfl ?_))|(apply z0g;(first|refine z02 (z1x (ys:=es.map ped) rfl (idx he)) rfl rfl ?_| refine z02 (z3b rfl) rfl rfl ?_))|(apply z0y;(first|refine z02 (z0v z1e) rfl rfl ?_| refine z02 (z1y z1e) rfl rfl ?_))|(apply z10;(first|refine z02 (z1d rfl) rfl rfl ?_| refine z30 (g:=pcc) e.2.2 rfl ?_| refine z30 (g:=z2r) (e.1,e.2.1,((ks2.length:Nat):Int)) rfl ?_))|(apply z0c;(first|refine z4g ((y.1,e.2.1,y.2.2):Arc) hix hse ?_| refine z1r ?_))|(apply z0e;(refine z05 z2e ?_))|(apply z0z;(refine z3p ?_))|(apply z1v;(refine z2b rfl ?_))|refine z4b (et:=3) (a:=e.2.2) (v:=z2o (ks2.length:Nat)) (py:=pcP e.2.2) (q:=z3d 0 ks2) (by kernel_rfl) zoo rfl rfl zos rfl rfl rfl ?_))|(apply z09;(first|refine z0n ?_|apply z0a))|(apply z08;(first|apply z0b|apply z00|refine z1i ?_| refine z14 ?_| apply z04|apply z01|apply z38|apply z03|refine z0h (fun _=>?_) (fun _=>?_)| refine z0m ?_))|(apply z34;(first|(apply z1a;refine z1q mix ?_)|refine z36 ?_| refine z3a ?_| (apply z0s;(first|refine z0l (z2c (u:=z5p y.2.1) hix) rfl rfl ?_| refine z0l (z2c (u:=z2o y.2.2) hix) rfl rfl ?_| refine z0l z1c rfl rfl ?_))|(apply z0p;(first|refine z0l z0i rfl rfl ?_| refine z0l z3n rfl rfl ?_))|(apply z15;(refine z0l (z3b rfl) rfl rfl ?_))|(apply z1z;(first|refine z0l (z0v (zal (by omega) (by omega))) rfl rfl ?_| refine z0l (z1y z1e) rfl rfl ?_))|(refine z1o rfl rfl (fun hg=>?_) (fun hg=>?_) <;> simp only[hg] <;> (try simp only[decide_eq_true_eq,decide_eq_false_iff_not,Bool.not_eq_true',Bool.not_eq_false'] at hg)))))
           all_goals try (exfalso;omega)
           all_goals refine z1w 61 1000 ?_
           all_goals refine z1w 103 1003 ?_
           all_goals exact z0f ihj' rfl rfl
   · obtain rfl:j=es.length:=by omega
     rw[List.drop_length,List.foldl_nil] at j6
     rw[← j6] at i6
     simp only at i6
     have hi2:=(List.getElem?_eq_some_iff.1 j4).1
     refine z1m 1003 rfl ?_
     by_cases hlim:lim.toNat<ks2.length
     · rw[if_pos hlim] at i6
       rw[← i6]
       repeat' (first|(apply z07;(first|refine z0o ?_| (apply z10;(refine z02 (z1d rfl) rfl rfl ?_))|(apply z0c;(refine z1r ?_))|(apply z0z;(refine z3p ?_))))|(apply z09;(first|refine z0n ?_|apply z0a))|(apply z08;(first|apply z0b|apply z00|apply z04|apply z01|apply z38|refine z0h (fun _=>?_) (fun _=>?_)| refine z0m ?_))|(apply z34;(first|refine z3a ?_| (apply z0s;(refine z0l z1c rfl rfl ?_))|(apply z0p;(refine z0l z0i rfl rfl ?_)))))
       all_goals try (exfalso;omega)
       all_goals exact z0k Tryz.func101 _ (z0u rfl rfl rfl rfl rfl rfl rfl) ⟨rfl,rfl⟩
     · rw[if_neg hlim] at i6
       have ih':=ih (i+1,ks2,⟨F++[fb],A++[arcs]⟩) ⟨by simp only;omega,by simp only;omega,by simp only;omega,by simp[i4],by simp[i5],j7,by rw[← i6];simp only;rw[show lim.toNat+1-(i+1)=n by omega]⟩ (by simp only;omega)
       simp only at ih'
       repeat' (first|(apply z07;(first|refine z0o ?_| (apply z06;(refine z02 z1c rfl rfl ?_))|(apply z0d;(refine z02 z0i rfl rfl ?_))|(apply z0y;(refine z02 (z0v z1e) rfl rfl ?_))|(apply z10;(first|refine z02 (z1d rfl) rfl rfl ?_| refine z30 (g:=z4v) arcs rfl ?_))|(apply z0c;(refine z1r ?_))|(apply z0z;(refine z3p ?_))|(apply z1v;(refine z2b rfl ?_))))|(apply z09;(first|refine z0n ?_|apply z0a))|(apply z08;(first|apply z0b|apply z00|apply z04|apply z01|apply z38|apply z03|refine z0h (fun _=>?_) (fun _=>?_)| refine z0m ?_))|(apply z34;(first|(apply z1a;refine z1q mix ?_)|refine z3a ?_| (apply z0s;(first|refine z0l (z8p j4 rfl rfl) rfl rfl ?_| refine z0l z1c rfl rfl ?_))|(apply z0p;(refine z0l z0i rfl rfl ?_))|(apply z15;(refine z0l (z2h rfl (by omega) (by simp only[List.length_map];omega) rfl) rfl rfl ?_))|(apply z5i;(refine zaf (g:=boc) (by first|exact rfl|exact⟨_,rfl,rfl,rfl⟩) rfl rfl fb rfl rfl rfl rfl rfl rfl rfl (by decide) (by omega) ?_))|(apply z3k;(refine zq6 (first:=[]) (cap:=[.ptr (1,5) 0,.ptr (1,3) 0,.ptr (1,4) 0]) (ps:=[pcP k]) hff (by first|exact rfl|exact⟨_,rfl,rfl,rfl⟩) rfl rfl (hb _ _ _) (by decide) ?_))|(apply z3m;(refine zar (by first|exact rfl|exact⟨_,rfl,rfl,rfl⟩) rfl rfl rfl rfl rfl ?_))|(apply z8y;(refine zd6 rfl ?_)))))
       all_goals try (exfalso;omega)
       all_goals refine z1w 119 1001 ?_
       all_goals refine z1w 125 1002 ?_
       all_goals exact z0f ih' rfl rfl
 · obtain rfl:i=ks.length:=by omega
   obtain⟨n,hn⟩:∃ n,lim.toNat+1-ks.length=n+1:=⟨lim.toNat-ks.length,by omega⟩
   rw[hn,exL,List.getElem?_eq_none (Nat.le_refl _)] at i6
   simp only at i6
   rw[← i6]
   refine z1m 1001 rfl ?_
   refine z1m 1002 rfl ?_
   repeat' (first|(apply z07;(first|refine z0o ?_| (apply z06;(refine z02 z23 rfl rfl ?_))|(apply z10;(refine z02 (z1d rfl) rfl rfl ?_))|(apply z0c;(refine z1r ?_))))|(apply z09;(first|refine z0n ?_|apply z0a))|(apply z08;(first|apply z0b|apply z00|apply z04|apply z01|refine z0h (fun _=>?_) (fun _=>?_)| refine z0m ?_)))
   all_goals try (exfalso;omega)
   all_goals exact z0k Tryz.func101 _ (z0u rfl rfl rfl rfl rfl rfl rfl) ⟨rfl,rfl⟩
end Go.Proofs.YthdfkabdoidjfaaGreatDoor
