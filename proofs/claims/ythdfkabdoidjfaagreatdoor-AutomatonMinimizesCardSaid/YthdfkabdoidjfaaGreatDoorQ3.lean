/- A part of the proof: A13, A24, A25, A26, A15, A16. -/
import Derived.Test.YthdfkabdoidjfaaGreatDoorQ2
import Derived.Test.YthdfkabdoidjfaaGreatDoorQ1
import Derived.Test.YthdfkabdoidjfaaGreatDoorQc
set_option linter.all false
set_option linter.unusedVariables false
set_option linter.unusedSimpArgs false
namespace Go.Proofs.YthdfkabdoidjfaaGreatDoor
open Go.Ab Go.Ax
set_option maxHeartbeats 20000000
set_option maxRecDepth 100000
attribute [local irreducible] Run Ops Op1 z2b Val Tr z0v z2c NF Rel z3w z3x
theorem zm8 (b1 b2 b3 b4:Blk) (ok:Int→Prop) (fin:Int→Bool) (edg:Int→List (Go.Ax.Edge (Int))) (first:Int) (lim:Int) (hl0:1≤lim) (hl1:lim≤2000000) (hok0:ok first)
 (hfin:∀ k,ok k→z2c Tryz.prog 79 [I .i64 k,.ptr (1,2) 0,.ptr (1,8) 0] [((1,2),b1),((1,8),b2),((1,6),b3),((1,29),b4)] [] (B (fin k))) (hedg:∀ k,ok k→z2c Tryz.prog 80 [I .i64 k,.ptr (1,2) 0,.ptr (1,8) 0,.ptr (1,6) 0] [((1,2),b1),((1,8),b2),((1,6),b3),((1,29),b4)] [] (.d (z95 (edg k)))) (hE:∀ k,ok k→edE (edg k)∧∀ e∈edg k,ok e.2.2)
 (H:Hf) (hb1:H 0 2=some b1) (hb2:H 0 8=some b2) (hb3:H 0 6=some b3) (hb4:H 0 29=some b4) :
 Ab.Spec Tryz.prog 82 [I .i64 first,.fn (.func 79) [] [.ptr (0,2) 0,.ptr (0,8) 0],.fn (.func 80) [] [.ptr (0,2) 0,.ptr (0,8) 0,.ptr (0,6) 0],I .i64 lim] H (fun r H'=>r=.v (exR (exL fin edg lim.toNat (lim.toNat+1) 0 [first] ⟨[],[]⟩))∧H'=H):=by
 have hb:∀ (n:Nat) (tm:List (Nat × PV)) (hp:Hp),BkE ⟨n,tm,hp,H⟩ [((1,2),b1),((1,8),b2),((1,6),b3),((1,29),b4)]:=fun n tm hp=>by simp[BkE,z4k,push,hb1,hb2,hb3,hb4]
 refine z0k Tryz.func82 (by kernel_rfl) rfl (by simp) ?_
 dsimp only[Tryz.f82]
 repeat' (first|(apply z05;(first|refine z94 (by decide) rfl ?_|refine zd6 (et:=3) (a:=first) (v:=z1m 0) (py:=I .i64 first) (q:=([]:List ((Int) × D))) (by kernel_rfl) z8k rfl rfl z8j rfl rfl rfl ?_|refine z0o ?_| (apply z0h;(refine z0b z2i ?_))|(apply z1w;(refine zb3 rfl rfl rfl rfl rfl rfl rfl rfl rfl (by decide) ?_))))|(apply z08;(first|refine z0n ?_|apply z07))|(apply z06;(first|apply z0a|apply z00|apply z01)))
 refine z1s 24 1000 ?_
 refine z2z 10 0 1001 4 1 rfl rfl rfl rfl ?_
 refine z2z 10 1 1002 39 1 rfl rfl rfl rfl ?_
 generalize hres:exL fin edg lim.toNat (lim.toNat+1) 0 [first] ⟨[],[]⟩=res
 refine z1a ?_
 refine z0e (z1y (fun q:Nat × List (Int) × Au=>⟨128,[(1,.fn (.func 79) [] [.ptr (1,2) 0,.ptr (1,8) 0]),(2,.fn (.func 80) [] [.ptr (1,2) 0,.ptr (1,8) 0,.ptr (1,6) 0]),(3,I .i64 lim),(8,.ptr (0,8) 0),(10,.ptr (0,10) 0),(11,.ref (0,20)),(12,.ref (0,1000)),(13,I .i64 (q.1:Nat))],[(20,mpI q.2.1),(1000,.row 3 1 (q.2.1.map icc)),(10,.box [.ref (0,1001),.ref (0,1002)]),(1001,.row 4 1 (q.2.2.F.map boc)),(1002,.row 39 1 (q.2.2.A.map z4a)),(8,.box [.d (.lit z30),.d (.lit z30)])],H⟩) (fun q=>q.1≤q.2.1.length∧1≤q.2.1.length∧q.2.1.length≤lim.toNat∧q.2.2.F.length=q.1∧q.2.2.A.length=q.1∧(∀ x∈q.2.1,ok x)∧exL fin edg lim.toNat (lim.toNat+1-q.1) q.1 q.2.1 q.2.2=res) (fun q=>lim.toNat+1-q.1) ?_ (0,[first],⟨[],[]⟩) ⟨Nat.zero_le _,Nat.le_refl _,by simp only[List.length_singleton];omega,rfl,rfl,fun x hx=>by rw[List.mem_singleton] at hx;rw[hx];exact hok0,hres⟩) rfl rfl
 rintro⟨i,ks,⟨F,A⟩⟩ ⟨i1,i2,i3,i4,i5,i7,i6⟩ ih
 simp only at i1 i2 i3 i4 i5 i6 i7 ih ⊢
 by_cases hlt:i<ks.length
 · obtain⟨k,hk⟩:∃ k,ks[i]? =some k:=⟨_,List.getElem?_eq_getElem hlt⟩
   obtain⟨n,hn⟩:∃ n,lim.toNat+1-i=n+1:=⟨lim.toNat-i,by omega⟩
   rw[hn,exL,hk] at i6
   simp only at i6
   have hok:=i7 k (List.mem_of_getElem? hk)
   have hff:=hfin k hok
   have hee:=hedg k hok
   obtain⟨⟨hE1,hE2⟩,hE3⟩:=hE k hok
   generalize edg k=es at *
   generalize fin k=fb at *
   repeat' (first|(apply z05;(first|refine z0o ?_| (apply z09;(refine z02 (z2d (u:=z1m k) hk) rfl rfl ?_))|(apply z0f;(refine z02 (z3g rfl) rfl rfl ?_))|(apply z0t;(first|refine z02 (zb1 rfl) rfl rfl ?_| refine z02 (z1b rfl) rfl rfl ?_))|(apply z0u;(refine zry (first:=[]) (cap:=[.ptr (1,2) 0,.ptr (1,8) 0,.ptr (1,6) 0]) (ps:=[I .i64 k]) hee rfl rfl (hb _ _ _) (by decide) ?_))))|(apply z08;(first|refine z0n ?_|apply z07))|(apply z06;(first|apply z0a|apply z00|apply z04|apply z01|refine z0g (fun _=>?_) (fun _=>?_)| refine z0j ?_)))
   all_goals try (exfalso;simp only[List.length_map] at *;omega)
   refine z2e 14 1003 38 3 rfl rfl rfl ?_
   refine z1a ?_
   refine z0e (z1y (fun q:Nat × List (Int) × List Arc=>⟨128,[(1,.fn (.func 79) [] [.ptr (1,2) 0,.ptr (1,8) 0]),(2,.fn (.func 80) [] [.ptr (1,2) 0,.ptr (1,8) 0,.ptr (1,6) 0]),(3,I .i64 lim),(8,.ptr (0,8) 0),(10,.ptr (0,10) 0),(11,.ref (0,20)),(12,.ref (0,1000)),(13,I .i64 (i:Nat)),(14,.ref (0,1003)),(36,.d (.slice (es.map z2l))),(37,I .i64 es.length),(38,I .i64 (q.1:Nat))],[(20,mpI q.2.1),(1000,.row 3 1 (q.2.1.map icc)),(1003,.row 38 3 (q.2.2.map z2l)),(10,.box [.ref (0,1001),.ref (0,1002)]),(1001,.row 4 1 (F.map boc)),(1002,.row 39 1 (A.map z4a)),(8,.box [.d (.lit z30),.d (.lit z30)])],H⟩) (fun q=>q.1≤es.length∧q.2.2.length≤q.1∧q.2.1.length≤ks.length+q.1∧q.2.1[i]? =some k∧(∀ y∈q.2.2,0≤y.2.1∧y.2.1≤1114111)∧(∀ x∈q.2.1,ok x)∧(es.drop q.1).foldl z5a q.2=es.foldl z5a (ks,[])) (fun q=>es.length-q.1) ?_ (0,ks,[]) ⟨Nat.zero_le _,Nat.le_refl _,Nat.le_refl _,hk,by simp,i7,rfl⟩) rfl rfl
   rintro⟨j,ks2,arcs⟩ ⟨j1,j2,j3,j4,j5,j7,j6⟩ ihj
   simp only at j1 j2 j3 j4 j5 j6 j7 ihj ⊢
   by_cases hjl:j<es.length
   · obtain⟨e,he⟩:∃ e,es[j]? =some e:=⟨_,List.getElem?_eq_getElem hjl⟩
     obtain⟨r1,r2,r3⟩:=hE2 e (List.mem_of_getElem? he)
     rw[drop_cons he,List.foldl_cons,z5a] at j6
     simp only at j6
     have hal:=z8e ks2 e.2.2
     have hln:=z8z arcs e.1 e.2.1 (z3l e.2.2 ks2:Nat)
     have ihj':=ihj (j+1,z5q ks2 e.2.2,ext arcs e.1 e.2.1 (z3l e.2.2 ks2:Nat)) ⟨by simp only;omega,by simp only;omega,by simp only;omega,by simp only;obtain⟨x,hx⟩:=z6o ks2 e.2.2;rw[hx,List.getElem?_append_left (List.getElem?_eq_some_iff.1 j4).1];exact j4,fun y hy=>by
      rcases ext_mem hy with h|h
      · omega
      · exact j5 y h,fun x hx=>by
      rcases z7q hx with h|h
      · rw[h];exact hE3 e (List.mem_of_getElem? he)
      · exact j7 x h,j6⟩ (by simp only;omega)
     have hget:=z6v e.2.2 ks2 0
     clear ihj hal
     by_cases hknown:e.2.2∈ks2
     · rw[z5q,if_pos hknown] at ihj'
       rw[if_pos hknown,Nat.zero_add] at hget
       have hget1:(z4y (z38 0 ks2) e.2.2).getD (.lit (.int .i64 0))=z1m (z3l e.2.2 ks2:Nat):=by rw[hget];rfl
       have hget2:(z4y (z38 0 ks2) e.2.2).isSome=true:=by rw[hget];rfl
       generalize z3l e.2.2 ks2=qv at *
       rcases zfn arcs with rfl|⟨m,y,rfl⟩
       · rw[ext_nil] at ihj'
         repeat' (first|(apply z05;(first|refine z0b (z4d (et:=3) (a:=e.2.2) (q:=z38 0 ks2) (z0:=Value.int .i64 0) (py:=I .i64 e.2.2) z8k (z2a (by kernel_rfl)) rfl rfl rfl z8j rfl hget1 hget2) ?_|refine z0o ?_| (apply z09;(first|refine z02 z1d rfl rfl ?_| refine z02 z27 rfl rfl ?_))|(apply z0d;(refine z02 z0i rfl rfl ?_))|(apply z0f;(refine z02 (z1i (ys:=es.map z2l) rfl (idx he)) rfl rfl ?_))|(apply z0p;(refine z02 (z0q z1c) rfl rfl ?_))|(apply z0t;(first|refine z02 (z18 rfl) rfl rfl ?_| refine z50 (g:=z2l) rfl rfl (e.1,e.2.1,((qv:Nat):Int)) rfl rfl rfl rfl rfl rfl rfl (by decide) (by simp) ?_))|(apply z0c;(refine z23 ?_))|(apply z0h;(refine z0b z2i ?_))|(apply z0z;(refine z3s ?_))|(apply z1w;(refine z29 rfl ?_))))|(apply z08;(first|refine z0n ?_|apply z07))|(apply z06;(first|apply z0a|apply z00|refine z11 ?_| apply z04|apply z01|apply z2p|apply z03|refine z0g (fun _=>?_) (fun _=>?_)| refine z0j ?_))|(apply z2r;(first|(apply z15;refine z1o mix ?_)|refine z2y ?_| refine z2s ?_| (apply z0r;(refine z0m z1d rfl rfl ?_))|(apply z0s;(refine z0m z0i rfl rfl ?_)))))
         all_goals try (exfalso;first|omega|(simp at *;done))
         all_goals skip
         all_goals refine z1s 103 1003 ?_
         all_goals exact z0e ihj' rfl rfl
       · have hy:=j5 y (by simp)
         have hal:((m++[y]).map z2l).length=m.length+1:=by simp
         have hal2:(m++[y]).length=m.length+1:=by simp
         have hix:(m++[y])[(((((m++[y]).length:Nat):Int)-1)).toNat]? =some y:=by
          rw[hal2,show (((m.length+1:Nat):Int)-1).toNat=m.length by omega];simp
         have hse:(m++[y]).set (((((m++[y]).length:Nat):Int)-1)).toNat ((y.1,e.2.1,y.2.2):Arc)=m++[(y.1,e.2.1,y.2.2)]:=by
          rw[hal2,show (((m.length+1:Nat):Int)-1).toNat=m.length by omega];simp
         rw[z3p] at ihj'
         by_cases hj:y.2.1+1=e.1∧y.2.2=(qv:Nat)
         · have hyq:(y.1,e.2.1,((qv:Nat):Int))=((y.1,e.2.1,y.2.2):Arc):=by rw[hj.2]
           rw[if_pos hj,hyq] at ihj'
           repeat' (first|(apply z05;(first|refine z0b (z4d (et:=3) (a:=e.2.2) (q:=z38 0 ks2) (z0:=Value.int .i64 0) (py:=I .i64 e.2.2) z8k (z2a (by kernel_rfl)) rfl rfl rfl z8j rfl hget1 hget2) ?_|refine z0o ?_| (apply z09;(first|refine z02 z1d rfl rfl ?_| refine z02 z27 rfl rfl ?_))|(apply z0d;(first|refine z02 z0i rfl rfl ?_| refine z02 z3u rfl rfl ?_))|(apply z0f;(first|refine z02 (z1i (ys:=es.map z2l) rfl (idx he)) rfl rfl ?_| refine z02 (z3g rfl) rfl rfl ?_))|(apply z0p;(first|refine z02 (z0q z1c) rfl rfl ?_| refine z02 (z22 z1c) rfl rfl ?_))|(apply z0t;(first|refine z02 (z18 rfl) rfl rfl ?_| refine z2q (g:=z2l) (e.1,e.2.1,((qv:Nat):Int)) rfl ?_))|(apply z0c;(first|refine z42 ((y.1,e.2.1,y.2.2):Arc) hix hse ?_| refine z23 ?_))|(apply z0h;(refine z0b z2i ?_))|(apply z0z;(refine z3s ?_))|(apply z1w;(refine z29 rfl ?_))))|(apply z08;(first|refine z0n ?_|apply z07))|(apply z06;(first|apply z0a|apply z00|refine z11 ?_| apply z04|apply z01|apply z2p|apply z03|refine z0g (fun _=>?_) (fun _=>?_)| refine z0j ?_))|(apply z2r;(first|(apply z15;refine z1o mix ?_)|refine z2y ?_| refine z2s ?_| (apply z0r;(first|refine z0m (z2d (u:=z3e y.2.1) hix) rfl rfl ?_| refine z0m (z2d (u:=z1m y.2.2) hix) rfl rfl ?_| refine z0m z1d rfl rfl ?_))|(apply z0s;(first|refine z0m z0i rfl rfl ?_| refine z0m z3u rfl rfl ?_))|(apply z14;(refine z0m (z3g rfl) rfl rfl ?_))|(apply z2f;(first|refine z0m (z0q (z8x (by omega) (by omega))) rfl rfl ?_| refine z0m (z22 z1c) rfl rfl ?_))|(refine z1n rfl rfl (fun hg=>?_) (fun hg=>?_) <;> simp only[hg] <;> (try simp only[decide_eq_true_eq,decide_eq_false_iff_not,Bool.not_eq_true',Bool.not_eq_false'] at hg)))))
           all_goals try (exfalso;omega)
           all_goals skip
           all_goals exact z0e ihj' rfl rfl
         · rw[if_neg hj] at ihj'
           repeat' (first|(apply z05;(first|refine z0b (z4d (et:=3) (a:=e.2.2) (q:=z38 0 ks2) (z0:=Value.int .i64 0) (py:=I .i64 e.2.2) z8k (z2a (by kernel_rfl)) rfl rfl rfl z8j rfl hget1 hget2) ?_|refine z0o ?_| (apply z09;(first|refine z02 z1d rfl rfl ?_| refine z02 z27 rfl rfl ?_))|(apply z0d;(first|refine z02 z0i rfl rfl ?_| refine z02 z3u rfl rfl ?_))|(apply z0f;(first|refine z02 (z1i (ys:=es.map z2l) rfl (idx he)) rfl rfl ?_| refine z02 (z3g rfl) rfl rfl ?_))|(apply z0p;(first|refine z02 (z0q z1c) rfl rfl ?_| refine z02 (z22 z1c) rfl rfl ?_))|(apply z0t;(first|refine z02 (z18 rfl) rfl rfl ?_| refine z2q (g:=z2l) (e.1,e.2.1,((qv:Nat):Int)) rfl ?_))|(apply z0c;(first|refine z42 ((y.1,e.2.1,y.2.2):Arc) hix hse ?_| refine z23 ?_))|(apply z0h;(refine z0b z2i ?_))|(apply z0z;(refine z3s ?_))|(apply z1w;(refine z29 rfl ?_))))|(apply z08;(first|refine z0n ?_|apply z07))|(apply z06;(first|apply z0a|apply z00|refine z11 ?_| apply z04|apply z01|apply z2p|apply z03|refine z0g (fun _=>?_) (fun _=>?_)| refine z0j ?_))|(apply z2r;(first|(apply z15;refine z1o mix ?_)|refine z2y ?_| refine z2s ?_| (apply z0r;(first|refine z0m (z2d (u:=z3e y.2.1) hix) rfl rfl ?_| refine z0m (z2d (u:=z1m y.2.2) hix) rfl rfl ?_| refine z0m z1d rfl rfl ?_))|(apply z0s;(first|refine z0m z0i rfl rfl ?_| refine z0m z3u rfl rfl ?_))|(apply z14;(refine z0m (z3g rfl) rfl rfl ?_))|(apply z2f;(first|refine z0m (z0q (z8x (by omega) (by omega))) rfl rfl ?_| refine z0m (z22 z1c) rfl rfl ?_))|(refine z1n rfl rfl (fun hg=>?_) (fun hg=>?_) <;> simp only[hg] <;> (try simp only[decide_eq_true_eq,decide_eq_false_iff_not,Bool.not_eq_true',Bool.not_eq_false'] at hg)))))
           all_goals try (exfalso;omega)
           all_goals skip
           all_goals refine z1s 103 1003 ?_
           all_goals exact z0e ihj' rfl rfl
     · rw[z5q,if_neg hknown,z3o hknown] at ihj'
       rw[z3o hknown] at hln
       rw[if_neg hknown] at hget
       have hget1:(z4y (z38 0 ks2) e.2.2).getD (.lit (.int .i64 0))=z1m 0:=by rw[hget];rfl
       have hget2:(z4y (z38 0 ks2) e.2.2).isSome=false:=by rw[hget];rfl
       have hput:=z8b hknown
       dsimp only[mpI] at ihj'
       rw[← hput] at ihj'
       rcases zfn arcs with rfl|⟨m,y,rfl⟩
       · rw[ext_nil] at ihj'
         repeat' (first|(apply z05;(first|refine z0b (z4d (et:=3) (a:=e.2.2) (q:=z38 0 ks2) (z0:=Value.int .i64 0) (py:=I .i64 e.2.2) z8k (z2a (by kernel_rfl)) rfl rfl rfl z8j rfl hget1 hget2) ?_|refine z0o ?_| (apply z09;(first|refine z02 z1d rfl rfl ?_| refine z02 z27 rfl rfl ?_))|(apply z0d;(refine z02 z0i rfl rfl ?_))|(apply z0f;(refine z02 (z1i (ys:=es.map z2l) rfl (idx he)) rfl rfl ?_))|(apply z0p;(refine z02 (z0q z1c) rfl rfl ?_))|(apply z0t;(first|refine z02 (z18 rfl) rfl rfl ?_| refine z2q (g:=icc) e.2.2 rfl ?_| refine z50 (g:=z2l) rfl rfl (e.1,e.2.1,((ks2.length:Nat):Int)) rfl rfl rfl rfl rfl rfl rfl (by decide) (by simp) ?_))|(apply z0c;(refine z23 ?_))|(apply z0h;(refine z0b z2i ?_))|(apply z0z;(refine z3s ?_))|(apply z1w;(refine z29 rfl ?_))|refine z3y (et:=3) (a:=e.2.2) (v:=z1m (ks2.length:Nat)) (py:=I .i64 e.2.2) (q:=z38 0 ks2) (by kernel_rfl) z8k rfl rfl z8j rfl rfl rfl ?_))|(apply z08;(first|refine z0n ?_|apply z07))|(apply z06;(first|apply z0a|apply z00|refine z1h ?_| refine z11 ?_| apply z04|apply z01|apply z2p|apply z03|refine z0g (fun _=>?_) (fun _=>?_)| refine z0j ?_))|(apply z2r;(first|(apply z15;refine z1o mix ?_)|refine z2y ?_| refine z2s ?_| (apply z0r;(refine z0m z1d rfl rfl ?_))|(apply z0s;(refine z0m z0i rfl rfl ?_)))))
         all_goals try (exfalso;first|omega|(simp at *;done))
         all_goals refine z1s 61 1000 ?_
         all_goals refine z1s 103 1003 ?_
         all_goals exact z0e ihj' rfl rfl
       · have hy:=j5 y (by simp)
         have hal:((m++[y]).map z2l).length=m.length+1:=by simp
         have hal2:(m++[y]).length=m.length+1:=by simp
         have hix:(m++[y])[(((((m++[y]).length:Nat):Int)-1)).toNat]? =some y:=by
          rw[hal2,show (((m.length+1:Nat):Int)-1).toNat=m.length by omega];simp
         have hse:(m++[y]).set (((((m++[y]).length:Nat):Int)-1)).toNat ((y.1,e.2.1,y.2.2):Arc)=m++[(y.1,e.2.1,y.2.2)]:=by
          rw[hal2,show (((m.length+1:Nat):Int)-1).toNat=m.length by omega];simp
         rw[z3p] at ihj'
         by_cases hj:y.2.1+1=e.1∧y.2.2=(ks2.length:Nat)
         · have hyq:(y.1,e.2.1,((ks2.length:Nat):Int))=((y.1,e.2.1,y.2.2):Arc):=by rw[hj.2]
           rw[if_pos hj,hyq] at ihj'
           repeat' (first|(apply z05;(first|refine z0b (z4d (et:=3) (a:=e.2.2) (q:=z38 0 ks2) (z0:=Value.int .i64 0) (py:=I .i64 e.2.2) z8k (z2a (by kernel_rfl)) rfl rfl rfl z8j rfl hget1 hget2) ?_|refine z0o ?_| (apply z09;(first|refine z02 z1d rfl rfl ?_| refine z02 z27 rfl rfl ?_))|(apply z0d;(first|refine z02 z0i rfl rfl ?_| refine z02 z3u rfl rfl ?_))|(apply z0f;(first|refine z02 (z1i (ys:=es.map z2l) rfl (idx he)) rfl rfl ?_| refine z02 (z3g rfl) rfl rfl ?_))|(apply z0p;(first|refine z02 (z0q z1c) rfl rfl ?_| refine z02 (z22 z1c) rfl rfl ?_))|(apply z0t;(first|refine z02 (z18 rfl) rfl rfl ?_| refine z2q (g:=icc) e.2.2 rfl ?_| refine z2q (g:=z2l) (e.1,e.2.1,((ks2.length:Nat):Int)) rfl ?_))|(apply z0c;(first|refine z42 ((y.1,e.2.1,y.2.2):Arc) hix hse ?_| refine z23 ?_))|(apply z0h;(refine z0b z2i ?_))|(apply z0z;(refine z3s ?_))|(apply z1w;(refine z29 rfl ?_))|refine z3y (et:=3) (a:=e.2.2) (v:=z1m (ks2.length:Nat)) (py:=I .i64 e.2.2) (q:=z38 0 ks2) (by kernel_rfl) z8k rfl rfl z8j rfl rfl rfl ?_))|(apply z08;(first|refine z0n ?_|apply z07))|(apply z06;(first|apply z0a|apply z00|refine z1h ?_| refine z11 ?_| apply z04|apply z01|apply z2p|apply z03|refine z0g (fun _=>?_) (fun _=>?_)| refine z0j ?_))|(apply z2r;(first|(apply z15;refine z1o mix ?_)|refine z2y ?_| refine z2s ?_| (apply z0r;(first|refine z0m (z2d (u:=z3e y.2.1) hix) rfl rfl ?_| refine z0m (z2d (u:=z1m y.2.2) hix) rfl rfl ?_| refine z0m z1d rfl rfl ?_))|(apply z0s;(first|refine z0m z0i rfl rfl ?_| refine z0m z3u rfl rfl ?_))|(apply z14;(refine z0m (z3g rfl) rfl rfl ?_))|(apply z2f;(first|refine z0m (z0q (z8x (by omega) (by omega))) rfl rfl ?_| refine z0m (z22 z1c) rfl rfl ?_))|(refine z1n rfl rfl (fun hg=>?_) (fun hg=>?_) <;> simp only[hg] <;> (try simp only[decide_eq_true_eq,decide_eq_false_iff_not,Bool.not_eq_true',Bool.not_eq_false'] at hg)))))
           all_goals try (exfalso;omega)
           all_goals refine z1s 61 1000 ?_
           all_goals exact z0e ihj' rfl rfl
         · rw[if_neg hj] at ihj'
           repeat' (first|(apply z05;(first|refine z0b (z4d (et:=3) (a:=e.2.2) (q:=z38 0 ks2) (z0:=Value.int .i64 0) (py:=I .i64 e.2.2) z8k (z2a (by kernel_rfl)) rfl rfl rfl z8j rfl hget1 hget2) ?_|refine z0o ?_| (apply z09;(first|refine z02 z1d rfl rfl ?_| refine z02 z27 rfl rfl ?_))|(apply z0d;(first|refine z02 z0i rfl rfl ?_| refine z02 z3u rfl rfl ?_))|(apply z0f;(first|refine z02 (z1i (ys:=es.map z2l) rfl (idx he)) rfl rfl ?_| refine z02 (z3g rfl) rfl rfl ?_))|(apply z0p;(first|refine z02 (z0q z1c) rfl rfl ?_| refine z02 (z22 z1c) rfl rfl ?_))|(apply z0t;(first|refine z02 (z18 rfl) rfl rfl ?_| refine z2q (g:=icc) e.2.2 rfl ?_| refine z2q (g:=z2l) (e.1,e.2.1,((ks2.length:Nat):Int)) rfl ?_))|(apply z0c;(first|refine z42 ((y.1,e.2.1,y.2.2):Arc) hix hse ?_| refine z23 ?_))|(apply z0h;(refine z0b z2i ?_))|(apply z0z;(refine z3s ?_))|(apply z1w;(refine z29 rfl ?_))|refine z3y (et:=3) (a:=e.2.2) (v:=z1m (ks2.length:Nat)) (py:=I .i64 e.2.2) (q:=z38 0 ks2) (by kernel_rfl) z8k rfl rfl z8j rfl rfl rfl ?_))|(apply z08;(first|refine z0n ?_|apply z07))|(apply z06;(first|apply z0a|apply z00|refine z1h ?_| refine z11 ?_| apply z04|apply z01|apply z2p|apply z03|refine z0g (fun _=>?_) (fun _=>?_)| refine z0j ?_))|(apply z2r;(first|(apply z15;refine z1o mix ?_)|refine z2y ?_| refine z2s ?_| (apply z0r;(first|refine z0m (z2d (u:=z3e y.2.1) hix) rfl rfl ?_| refine z0m (z2d (u:=z1m y.2.2) hix) rfl rfl ?_| refine z0m z1d rfl rfl ?_))|(apply z0s;(first|refine z0m z0i rfl rfl ?_| refine z0m z3u rfl rfl ?_))|(apply z14;(refine z0m (z3g rfl) rfl rfl ?_))|(apply z2f;(first|refine z0m (z0q (z8x (by omega) (by omega))) rfl rfl ?_| refine z0m (z22 z1c) rfl rfl ?_))|(refine z1n rfl rfl (fun hg=>?_) (fun hg=>?_) <;> simp only[hg] <;> (try simp only[decide_eq_true_eq,decide_eq_false_iff_not,Bool.not_eq_true',Bool.not_eq_false'] at hg)))))
           all_goals try (exfalso;omega)
           all_goals refine z1s 61 1000 ?_
           all_goals refine z1s 103 1003 ?_
           all_goals exact z0e ihj' rfl rfl
   · obtain rfl:j=es.length:=by omega
     rw[List.drop_length,List.foldl_nil] at j6
     rw[← j6] at i6
     simp only at i6
     have hi2:=(List.getElem?_eq_some_iff.1 j4).1
     refine z1g 1003 rfl ?_
     by_cases hlim:lim.toNat<ks2.length
     · rw[if_pos hlim] at i6
       rw[← i6]
       repeat' (first|(apply z05;(first|refine z0o ?_| (apply z0t;(refine z02 (z18 rfl) rfl rfl ?_))|(apply z0c;(refine z23 ?_))|(apply z0z;(refine z3s ?_))))|(apply z08;(first|refine z0n ?_|apply z07))|(apply z06;(first|apply z0a|apply z00|apply z04|apply z01|apply z2p|refine z0g (fun _=>?_) (fun _=>?_)| refine z0j ?_))|(apply z2r;(first|refine z2s ?_| (apply z0r;(refine z0m z1d rfl rfl ?_))|(apply z0s;(refine z0m z0i rfl rfl ?_)))))
       all_goals try (exfalso;omega)
       all_goals exact z0l Tryz.func82 _ (z0x rfl rfl rfl rfl rfl rfl rfl) ⟨rfl,rfl⟩
     · rw[if_neg hlim] at i6
       have ih':=ih (i+1,ks2,⟨F++[fb],A++[arcs]⟩) ⟨by simp only;omega,by simp only;omega,by simp only;omega,by simp[i4],by simp[i5],j7,by rw[← i6];simp only;rw[show lim.toNat+1-(i+1)=n by omega]⟩ (by simp only;omega)
       simp only at ih'
       repeat' (first|(apply z05;(first|refine z0o ?_| (apply z09;(refine z02 z1d rfl rfl ?_))|(apply z0d;(refine z02 z0i rfl rfl ?_))|(apply z0p;(refine z02 (z0q z1c) rfl rfl ?_))|(apply z0t;(first|refine z02 (z18 rfl) rfl rfl ?_| refine z2q (g:=z4a) arcs rfl ?_))|(apply z0c;(refine z23 ?_))|(apply z0z;(refine z3s ?_))|(apply z1w;(refine z29 rfl ?_))))|(apply z08;(first|refine z0n ?_|apply z07))|(apply z06;(first|apply z0a|apply z00|apply z04|apply z01|apply z2p|apply z03|refine z0g (fun _=>?_) (fun _=>?_)| refine z0j ?_))|(apply z2r;(first|(apply z15;refine z1o mix ?_)|refine z2s ?_| (apply z0r;(first|refine z0m (z2d (u:=z1m k) j4) rfl rfl ?_| refine z0m z1d rfl rfl ?_))|(apply z0s;(refine z0m z0i rfl rfl ?_))|(apply z14;(refine z0m (z1v rfl (by omega) (by simp only[List.length_map];omega) rfl) rfl rfl ?_))|(apply z47;(refine z5y (g:=boc) (by first|exact rfl|exact⟨_,rfl,rfl,rfl⟩) rfl rfl fb rfl rfl rfl rfl rfl rfl rfl (by decide) (by omega) ?_))|(apply z3a;(refine ztv (first:=[]) (cap:=[.ptr (1,2) 0,.ptr (1,8) 0]) (ps:=[I .i64 k]) hff (by first|exact rfl|exact⟨_,rfl,rfl,rfl⟩) rfl rfl (hb _ _ _) (by decide) ?_))|(apply z36;(refine z89 (by first|exact rfl|exact⟨_,rfl,rfl,rfl⟩) rfl rfl rfl rfl rfl ?_))|(apply z5j;(refine z8u rfl ?_)))))
       all_goals try (exfalso;omega)
       all_goals refine z1s 119 1001 ?_
       all_goals refine z1s 125 1002 ?_
       all_goals exact z0e ih' rfl rfl
 · obtain rfl:i=ks.length:=by omega
   obtain⟨n,hn⟩:∃ n,lim.toNat+1-ks.length=n+1:=⟨lim.toNat-ks.length,by omega⟩
   rw[hn,exL,List.getElem?_eq_none (Nat.le_refl _)] at i6
   simp only at i6
   rw[← i6]
   refine z1g 1001 rfl ?_
   refine z1g 1002 rfl ?_
   repeat' (first|(apply z05;(first|refine z0o ?_| (apply z09;(refine z02 z1z rfl rfl ?_))|(apply z0t;(refine z02 (z18 rfl) rfl rfl ?_))|(apply z0c;(refine z23 ?_))))|(apply z08;(first|refine z0n ?_|apply z07))|(apply z06;(first|apply z0a|apply z00|apply z04|apply z01|refine z0g (fun _=>?_) (fun _=>?_)| refine z0j ?_)))
   all_goals try (exfalso;omega)
   all_goals exact z0l Tryz.func82 _ (z0x rfl rfl rfl rfl rfl rfl rfl) ⟨rfl,rfl⟩
end Go.Proofs.YthdfkabdoidjfaaGreatDoor
namespace Go.Proofs.YthdfkabdoidjfaaGreatDoor
open Go.Ab Go.Ax
set_option maxHeartbeats 20000000
set_option maxRecDepth 100000
attribute [local irreducible] Run Ops Op1 z2b Val Tr z0v z2c NF Rel z3w z3x
structure zbr (F:List Bool) (A:List (List Arc)):Prop where
 len:A.length=F.length
 arc:∀ l∈A,okA none l∧l.length≤2000000∧∀ x∈l,0≤x.1∧x.1≤x.2.1∧x.2.1≤1114111∧0≤x.2.2∧x.2.2<F.length
 few:F.length≤2000000
 pos:0<F.length
 tot:(A.map List.length).sum≤1000000000
theorem zrv (F:List Bool) (A:List (List Arc)) (k:Int) (h0:0≤k) (h1:k<F.length):z2c Tryz.prog 83 [I .i64 k,.ptr (1,1) 0] [((1,1),BX F A)] [] (B ((⟨F,A⟩:Au).fin k)):=by
 refine z2n fun H hH=>?_
 have hX:H 1 1=some (BX F A):=hH ((1,1),BX F A) (by simp)
 obtain⟨k,rfl⟩:∃ q:Nat,k=q:=⟨k.toNat,by omega⟩
 obtain⟨b,hb⟩:∃ b,F[k]? =some b:=⟨_,List.getElem?_eq_getElem (by omega)⟩
 have hf:(⟨F,A⟩:Au).fin (k:Nat)=b:=by rw[Au.fin,if_neg (by omega),Int.toNat_natCast,List.getD,hb];rfl
 rw[hf]
 refine z0k Tryz.func83 (by kernel_rfl) rfl (by simp) ?_
 dsimp only[Tryz.f83]
 repeat' (first|(apply z05;(first|refine z0o ?_| (apply z09;(first|refine z3f rfl hX rfl rfl rfl rfl (by decide) ?_|refine z02 z1p rfl rfl ?_))|(apply z0d;(refine z02 z0i rfl rfl ?_))|(apply z0f;(refine z02 (z1i (ys:=F.map boc) rfl (idx (g:=boc) hb)) rfl rfl ?_))))|(apply z08;(first|refine z0n ?_|apply z07))|(apply z06;(first|apply z0a|apply z00)))
 all_goals try (exfalso;omega)
 all_goals exact z0l Tryz.func83 _ z16 ⟨rfl,rfl⟩
theorem zsf (F:List Bool) (A:List (List Arc)) (hA:zbr F A) (k:Int) (h0:0≤k) (h1:k<F.length):z2c Tryz.prog 84 [I .i64 k,.ptr (1,1) 0] [((1,1),BX F A)] [] (.d (z95 ((⟨F,A⟩:Au).arcs k))):=by
 refine z2n fun H hH=>?_
 have hX:H 1 1=some (BX F A):=hH ((1,1),BX F A) (by simp)
 obtain⟨k,rfl⟩:∃ q:Nat,k=q:=⟨k.toNat,by omega⟩
 obtain⟨l,hl⟩:∃ l,A[k]? =some l:=⟨_,List.getElem?_eq_getElem (by rw[hA.len];omega)⟩
 have hf:(⟨F,A⟩:Au).arcs (k:Nat)=l:=by rw[Au.arcs,if_neg (by omega),Int.toNat_natCast,List.getD,hl];rfl
 have hp:=zxh l (hA.arc l (List.mem_of_getElem? hl)).2.1
 rw[hf]
 refine z0k Tryz.func84 (by kernel_rfl) rfl (by simp) ?_
 dsimp only[Tryz.f84]
 repeat' (first|(apply z05;(first|refine z0o ?_| (apply z09;(first|refine z3f rfl hX rfl rfl rfl rfl (by decide) ?_|refine z02 z1p rfl rfl ?_))|(apply z0d;(refine z02 z0i rfl rfl ?_))|(apply z0f;(refine z02 (z1i (ys:=A.map z4a) rfl (idx hl)) rfl rfl ?_))|(apply z0u;(refine z1j hp ?_))))|(apply z08;(first|refine z0n ?_|apply z07))|(apply z06;(first|apply z0a|apply z00)))
 all_goals try (exfalso;omega)
 all_goals exact z0l Tryz.func84 _ z16 ⟨rfl,rfl⟩
theorem zs8 {F:List Bool} {A:List (List Arc)} (hA:zbr F A) (k:Int) (h0:0≤k) (h1:k<F.length):edE ((⟨F,A⟩:Au).arcs k)∧∀ e∈(⟨F,A⟩:Au).arcs k,0≤e.2.2∧e.2.2<F.length:=by
 obtain⟨k,rfl⟩:∃ q:Nat,k=q:=⟨k.toNat,by omega⟩
 obtain⟨l,hl⟩:∃ l,A[k]? =some l:=⟨_,List.getElem?_eq_getElem (by rw[hA.len];omega)⟩
 have hf:(⟨F,A⟩:Au).arcs (k:Nat)=l:=by rw[Au.arcs,if_neg (by omega),Int.toNat_natCast,List.getD,hl];rfl
 rw[hf]
 obtain⟨h1,h2,h3⟩:=hA.arc l (List.mem_of_getElem? hl)
 exact⟨⟨h2,fun e he=>by have:=h3 e he;omega⟩,fun e he=>by have:=h3 e he;omega⟩
def z6z (F:List Bool) (A:List (List Arc)):Option Au:=exL (⟨F,A⟩:Au).fin (⟨F,A⟩:Au).arcs F.length (F.length+1) 0 [0] ⟨[],[]⟩
theorem zj3 (F:List Bool) (A:List (List Arc)) (hA:zbr F A):z0v Tryz.prog 45 [.d (auD ⟨F,A⟩)] (.d (auD ((z6z F A).getD ⟨[],[]⟩))):=by
 refine z1e fun H=>?_
 have hpos:=hA.pos
 have hfew:=hA.few
 have hex:z2c Tryz.prog 82 [I .i64 0,.fn (.func 83) [] [.ptr (0,1) 0],.fn (.func 84) [] [.ptr (0,1) 0],I .i64 F.length] [((0,1),BX F A)] [] (exR (z6z F A)):=z2n fun H hH=>by
  have:=zmb (BX F A) (fun k=>0≤k∧k<F.length) (⟨F,A⟩:Au).fin (⟨F,A⟩:Au).arcs 0 F.length (by omega) (by omega) ⟨by omega,by omega⟩ (fun k hk=>zrv F A k hk.1 hk.2) (fun k hk=>zsf F A hA k hk.1 hk.2) (fun k hk=>zs8 hA k hk.1 hk.2) H (hH ((0,1),BX F A) (by simp))
  rw[Int.toNat_natCast] at this
  exact this
 generalize z6z F A=o at *
 cases o with
 | some a =>
  simp only[exR,Option.getD_some] at hex ⊢
  refine z0k Tryz.func45 (by kernel_rfl) rfl (by simp) ?_
  dsimp only[Tryz.f45]
  repeat' (first|(apply z05;(first|refine za1 rfl rfl (by decide) ?_|refine z0o ?_| (apply z09;(first|refine z02 z1d rfl rfl ?_| refine z02 z1z rfl rfl ?_))|(apply z0d;(refine z02 z0i rfl rfl ?_))|(apply z0t;(refine z02 (z1b rfl) rfl rfl ?_))|(apply z0u;(refine z3i hex rfl (bk1 rfl) (by decide) ?_))|(apply z0c;(refine z23 ?_))|(apply z0h;(refine z0b z2i ?_))|(apply z1q;(refine z0b z25 ?_))))|(apply z08;(first|refine z0n ?_|apply z07))|(apply z06;(first|apply z0a|apply z00)))
  all_goals exact z0l Tryz.func45 _ (z3v rfl rfl rfl rfl rfl rfl) ⟨rfl,rfl⟩
 | none =>
  simp only[exR,Option.getD_none] at hex ⊢
  refine z0k Tryz.func45 (by kernel_rfl) rfl (by simp) ?_
  dsimp only[Tryz.f45]
  repeat' (first|(apply z05;(first|refine za1 rfl rfl (by decide) ?_|refine z0o ?_| (apply z09;(first|refine z02 z1d rfl rfl ?_| refine z02 z1z rfl rfl ?_))|(apply z0d;(refine z02 z0i rfl rfl ?_))|(apply z0t;(refine z02 (z1b rfl) rfl rfl ?_))|(apply z0u;(refine z3i hex rfl (bk1 rfl) (by decide) ?_))|(apply z0c;(refine z23 ?_))|(apply z0h;(refine z0b z2i ?_))|(apply z1q;(refine z0b z25 ?_))))|(apply z08;(first|refine z0n ?_|apply z07))|(apply z06;(first|apply z0a|apply z00)))
  all_goals exact z0l Tryz.func45 _ (z3v rfl rfl rfl rfl rfl rfl) ⟨rfl,rfl⟩
end Go.Proofs.YthdfkabdoidjfaaGreatDoor
namespace Go.Proofs.YthdfkabdoidjfaaGreatDoor
open Go.Ab Go.Ax
set_option maxHeartbeats 20000000
set_option maxRecDepth 100000
attribute [local irreducible] Run Ops Op1 z2b Val Tr z0v z2c NF Rel z3w z3x
theorem zgz {α:Type} [DecidableEq α] (a b:α) (v:D):∀ q:List (α × D),z4y (zfh q a v) b=if a=b then some v else z4y q b
 | []=>by simp[zfh,z4y]
 | (c,u)::r=>by
  rw[zfh]
  by_cases h:c=a
  · rw[if_pos h,z4y,z4y]
    by_cases h2:a=b
    · rw[if_pos h2,if_pos h2]
    · rw[if_neg h2,if_neg h2,if_neg (by rw[h];exact h2)]
  · rw[if_neg h,z4y,z4y,zgz a b v r]
    by_cases h2:c=b
    · rw[if_pos h2,if_pos h2,if_neg (fun e=>h (by rw[h2,e]))]
    · rw[if_neg h2,if_neg h2]
def zce (cl:List Int):Nat→Int→Option Nat
 | 0,_=>none
 | j+1,k=>if cl.getD j 0=k then some j else zce cl j k
theorem z5f {cl:List Int} {k:Int}:∀ {j s:Nat},zce cl j k=some s→s<j∧cl.getD s 0=k
 | 0,s,h=>by simp[zce] at h
 | j+1,s,h=>by
  rw[zce] at h
  split at h
  · simp at h;subst h;exact⟨by omega,by assumption⟩
  · have:=z5f h;exact⟨by omega,this.2⟩
theorem z86 {cl:List Int} {k:Int}:∀ {j s:Nat},s<j→cl.getD s 0=k→∃ r,zce cl j k=some r
 | 0,s,h,_=>by omega
 | j+1,s,h,h2=>by
  rw[zce]
  by_cases hj:cl.getD j 0=k
  · exact⟨j,by rw[if_pos hj]⟩
  · rw[if_neg hj]
    have:s≠j:=by rintro rfl;exact hj h2
    exact z86 (by omega) h2
def stQ (cl:List Int) (k:Int):Nat:=(zce cl cl.length k).getD 0
abbrev mpD (m:List (Int × D)):Blk:=.mp (m.map fun p=>(Value.int .i64 p.1,p.2))
section
variable (F:List Bool) (A:List (List Arc)) (cl:List Int) (m:List (Int × D)) (hA:zbr F A) (hcl:cl.length=F.length) (hm:∀ k,z4y m k=(zce cl cl.length k).map fun s=>z1m (s:Nat))
abbrev bsM:List (Nm × Blk):=[((1,2),BX F A),((1,8),.box [.ref (0,29)]),((1,6),.box [.d (ints cl)]),((1,29),mpD m)]
include hcl hm in
theorem zxp (k:Int) (hk:∃ q,q<F.length∧cl.getD q 0=k):z2c Tryz.prog 79 [I .i64 k,.ptr (1,2) 0,.ptr (1,8) 0] (bsM F A cl m) [] (B ((⟨F,A⟩:Au).fin (stQ cl k:Nat))):=by
 refine z2n fun H hH=>?_
 have h2:H 1 2=some (BX F A):=hH ((1,2),BX F A) (by simp)
 have h8:H 1 8=some (.box [.ref (0,29)]):=hH ((1,8),.box [.ref (0,29)]) (by simp)
 have h29:H 1 29=some (mpD m):=hH ((1,29),mpD m) (by simp)
 obtain⟨q,hq,hqk⟩:=hk
 obtain⟨r,hr⟩:=z86 (cl:=cl) (j:=cl.length) (s:=q) (by omega) hqk
 have hst:stQ cl k=r:=by rw[stQ,hr];rfl
 have hrl:=(z5f hr).1
 have hmk:(z4y m k).getD (.lit (.int .i64 0))=z1m (r:Nat):=by rw[hm,hr];rfl
 obtain⟨b,hb⟩:∃ b,F[r]? =some b:=⟨_,List.getElem?_eq_getElem (by omega)⟩
 have hf:(⟨F,A⟩:Au).fin (r:Nat)=b:=by rw[Au.fin,if_neg (by omega),Int.toNat_natCast,List.getD,hb];rfl
 rw[hst,hf]
 refine z0k Tryz.func79 (by kernel_rfl) rfl (by simp) ?_
 dsimp only[Tryz.f79]
 repeat' (first|(apply z05;(first|refine z0b (zn8 (et:=3) (a:=k) (q:=m) (z0:=Value.int .i64 0) (py:=I .i64 k) (m0:=(2,29)) (by kernel_rfl) z8k (z2a (by kernel_rfl)) rfl rfl rfl z8j h29 hmk (by decide)) ?_|refine z0o ?_| (apply z09;(first|refine z3f rfl h8 rfl rfl rfl rfl (by decide) ?_|refine z3f rfl h2 rfl rfl rfl rfl (by decide) ?_|refine z02 z1p rfl rfl ?_))|(apply z0d;(refine z02 z0i rfl rfl ?_))|(apply z0f;(refine z02 (z1i (ys:=F.map boc) rfl (idx (g:=boc) hb)) rfl rfl ?_))))|(apply z08;(first|refine z0n ?_|apply z07))|(apply z06;(first|apply z0a|apply z00)))
 all_goals try (exfalso;omega)
 all_goals exact z0l Tryz.func79 _ z16 ⟨rfl,rfl⟩
include hA hcl hm in
theorem zyk (k:Int) (hk:∃ q,q<F.length∧cl.getD q 0=k):z2c Tryz.prog 80 [I .i64 k,.ptr (1,2) 0,.ptr (1,8) 0,.ptr (1,6) 0] (bsM F A cl m) [] (.d (z95 (byC cl ((⟨F,A⟩:Au).arcs (stQ cl k:Nat))))):=by
 refine z2n fun H hH=>?_
 have h2:H 1 2=some (BX F A):=hH ((1,2),BX F A) (by simp)
 have h8:H 1 8=some (.box [.ref (0,29)]):=hH ((1,8),.box [.ref (0,29)]) (by simp)
 have h6:H 1 6=some (.box [.d (ints cl)]):=hH ((1,6),.box [.d (ints cl)]) (by simp)
 have h29:H 1 29=some (mpD m):=hH ((1,29),mpD m) (by simp)
 obtain⟨q,hq,hqk⟩:=hk
 obtain⟨r,hr⟩:=z86 (cl:=cl) (j:=cl.length) (s:=q) (by omega) hqk
 have hst:stQ cl k=r:=by rw[stQ,hr];rfl
 have hrl:=(z5f hr).1
 have hmk:(z4y m k).getD (.lit (.int .i64 0))=z1m (r:Nat):=by rw[hm,hr];rfl
 obtain⟨l,hl⟩:∃ l,A[r]? =some l:=⟨_,List.getElem?_eq_getElem (by rw[hA.len];omega)⟩
 have hf:(⟨F,A⟩:Au).arcs (r:Nat)=l:=by rw[Au.arcs,if_neg (by omega),Int.toNat_natCast,List.getD,hl];rfl
 obtain⟨l0,l1,l2⟩:=hA.arc l (List.mem_of_getElem? hl)
 have hby:=zha l cl l1 (fun x hx=>by have:=l2 x hx;omega)
 rw[hst,hf]
 refine z0k Tryz.func80 (by kernel_rfl) rfl (by simp) ?_
 dsimp only[Tryz.f80]
 repeat' (first|(apply z05;(refine z0o ?_))|(apply z08;(first|refine z0n ?_|apply z07))|(apply z06;(first|apply z0a|apply z00|apply z2p))|(apply z2r;(first|(apply z15;refine z1o mix ?_)|refine z0m (zyj (et:=3) (a:=k) (q:=m) (z0:=Value.int .i64 0) (py:=I .i64 k) (m0:=(2,29)) (by kernel_rfl) z8k (z2a (by kernel_rfl)) rfl z8j hmk) rfl (bk1 h29) ?_| refine z2s ?_| (apply z0r;(first|refine za8 (by first|exact rfl|exact⟨_,rfl,rfl,rfl⟩) rfl h6 rfl rfl rfl rfl (by decide) ?_|refine za8 (by first|exact rfl|exact⟨_,rfl,rfl,rfl⟩) rfl h8 rfl rfl rfl rfl (by decide) ?_|refine za8 (by first|exact rfl|exact⟨_,rfl,rfl,rfl⟩) rfl h2 rfl rfl rfl rfl (by decide) ?_|refine z0m z1p rfl rfl ?_))|(apply z0s;(refine z0m z0i rfl rfl ?_))|(apply z14;(refine z0m (z1i (ys:=A.map z4a) rfl (idx hl)) rfl rfl ?_))|(apply z3a;(refine z4o hby ?_)))))
 all_goals try (exfalso;omega)
 all_goals exact z0l Tryz.func80 _ z16 ⟨rfl,rfl⟩
end
end Go.Proofs.YthdfkabdoidjfaaGreatDoor
namespace Go.Proofs.YthdfkabdoidjfaaGreatDoor
open Go.Ab Go.Ax
set_option maxHeartbeats 20000000
set_option maxRecDepth 100000
attribute [local irreducible] Run Ops Op1 z2b Val Tr z0v z2c NF Rel z3w z3x
def y1h (F:List Bool) (A:List (List Arc)) (cl:List Int) (lim:Nat):Option Au:=exL (fun k=>(⟨F,A⟩:Au).fin (stQ cl k:Nat)) (fun k=>byC cl ((⟨F,A⟩:Au).arcs (stQ cl k:Nat))) lim (lim+1) 0 [cl.getD 0 0] ⟨[],[]⟩
noncomputable def zn2 (F:List Bool) (A:List (List Arc)) (lim:Nat):Option Au:=match zvo F A lim with
 | none=>none
 | some cl=>if cl.getD 0 0<0 then some ⟨[false],[[]]⟩ else y1h F A cl lim
theorem zub {A:List (List Arc)} {n lim:Nat} (hn:n≤4000000) (hA:∀ l∈A,∀ x∈l,0≤x.1∧x.1≤x.2.1∧x.2.1≤1114111):∀ {f c:Nat} {cl r:List Int},ClW n c cl→zib A lim f c cl=some r→∃ c',ClW n c' r
 | 0,c,cl,r,_,h=>by rw[zib] at h;cases h
 | f+1,c,cl,r,hW,h=>by
  rw[zib] at h
  obtain⟨_,hW2⟩:=zp1 hn hW hA
  split at h
  · cases h
  split at h
  · simp at h;subst h;exact⟨_,hW2⟩
  · exact zub hn hA hW2 h
theorem zh8 (F:List Bool) (A:List (List Arc)) (hA:zbr F A) (lim:Nat) (h1:1≤lim) (h2:lim≤2000000):z0v Tryz.prog 44 [.d (auD ⟨F,A⟩),I .i64 lim] (exR (zn2 F A lim)):=by
 refine z1e fun H=>?_
 have hfew:=hA.few
 have hpos:=hA.pos
 have hcs:=zo0 F A lim (by omega) hA.len (fun l hl=>⟨(hA.arc l hl).2.1,(hA.arc l hl).2.2⟩) (by omega) hA.tot
 rw[Int.toNat_natCast] at hcs
 have hA1:∀ l∈A,∀ x∈l,0≤x.1∧x.1≤x.2.1∧x.2.1≤1114111:=fun l hl x hx=>by have:=(hA.arc l hl).2.2 x hx;omega
 have hWcl:∀ cl,zvo F A lim=some cl→∃ c',ClW F.length c' cl:=fun cl h=>zub (by omega) hA1 (zpf F A) h
 rw[zn2]
 generalize zvo F A lim=o at *
 cases o with
 | none =>
  simp only[y23] at hcs
  simp only[exR]
  refine z0k Tryz.func44 (by kernel_rfl) rfl (by simp) ?_
  dsimp only[Tryz.f44]
  repeat' (first|(apply z05;(first|refine z0o ?_| (apply z09;(refine z02 z3t rfl rfl ?_))|(apply z0u;(refine z1j hcs ?_))|(apply z0c;(refine z23 ?_))|(apply z0h;(refine z0b z2i ?_))|(apply z1q;(refine z0b z25 ?_))|(apply z0z;(refine z3s ?_))))|(apply z08;(first|refine z0n ?_|apply z07))|(apply z06;(first|apply z0a|apply z00|refine z1h ?_)))
  all_goals exact z0l Tryz.func44 _ (z0x rfl rfl rfl rfl rfl rfl rfl) ⟨rfl,rfl⟩
 | some cl =>
  obtain⟨c',hW⟩:=hWcl cl rfl
  simp only[y23] at hcs
  simp only
  have hcl:=hW.len
  obtain⟨k0,hk0⟩:∃ k,cl[0]? =some k:=⟨_,List.getElem?_eq_getElem (by omega)⟩
  have hk0i:cl[(0:Int).toNat]? =some k0:=hk0
  rw[z2g hk0]
  by_cases hneg:k0<0
  · rw[if_pos hneg]
    simp only[exR]
    refine z0k Tryz.func44 (by kernel_rfl) rfl (by simp) ?_
    dsimp only[Tryz.f44]
    repeat' (first|(apply z05;(first|refine z0o ?_| (apply z09;(first|refine z02 z3t rfl rfl ?_| refine z02 z1d rfl rfl ?_| refine z02 z1p rfl rfl ?_))|(apply z0f;(refine z02 (z1i (ys:=cl.map icc) rfl (z52 (g:=icc) hk0i)) rfl rfl ?_))|(apply z0u;(refine z1j hcs ?_))|(apply z0c;(refine z23 ?_))|(apply z0h;(refine z0b z2i ?_))|(apply z1q;(refine z0b z25 ?_))|(apply z0z;(refine z3s ?_))|(apply z1w;(refine z29 rfl ?_))|(apply ze3;((refine zed (xs:=[[.slice []]]) rfl rfl (by decide) (by decide) rfl rfl rfl (by decide) (by rfl) ?_;refine zc1 27 rfl ?_)))))|(apply z08;(first|refine z0n ?_|apply z07))|(apply z06;(first|apply z0a|apply z00|refine z11 ?_| apply z04|refine z0g (fun _=>?_) (fun _=>?_))))
    all_goals try (exfalso;omega)
    all_goals exact z0l Tryz.func44 _ (z0x rfl rfl rfl rfl rfl rfl rfl) ⟨rfl,rfl⟩
  · rw[if_neg hneg]
    have hex:∀ m:List (Int × D),(∀ k,z4y m k=(zce cl cl.length k).map fun s=>z1m (s:Nat))→z2c Tryz.prog 82 [I .i64 k0,.fn (.func 79) [] [.ptr (0,2) 0,.ptr (0,8) 0],.fn (.func 80) [] [.ptr (0,2) 0,.ptr (0,8) 0,.ptr (0,6) 0],I .i64 lim] [((0,2),BX F A),((0,8),.box [.ref (0,29)]),((0,6),.box [.d (ints cl)]),((0,29),mpD m)] [] (exR (y1h F A cl lim)):=fun m hm=>z2n fun H hH=>by
     have hrng:∀ k,(∃ q,q<F.length∧cl.getD q 0=k∧0≤k)→edE (byC cl ((⟨F,A⟩:Au).arcs (stQ cl k:Nat)))∧∀ e∈byC cl ((⟨F,A⟩:Au).arcs (stQ cl k:Nat)),∃ q,q<F.length∧cl.getD q 0=e.2.2∧0≤e.2.2:=fun k hk=>by
      obtain⟨q,hq,hqk,hk0⟩:=hk
      obtain⟨r,hr⟩:=z86 (cl:=cl) (j:=cl.length) (s:=q) (by omega) hqk
      have hst:stQ cl k=r:=by rw[stQ,hr];rfl
      have hrl:=(z5f hr).1
      obtain⟨l,hl⟩:∃ l,A[r]? =some l:=⟨_,List.getElem?_eq_getElem (by rw[hA.len];omega)⟩
      have hf:(⟨F,A⟩:Au).arcs (r:Nat)=l:=by rw[Au.arcs,if_neg (by omega),Int.toNat_natCast,List.getD,hl];rfl
      rw[hst,hf]
      obtain⟨l0,l1,l2⟩:=hA.arc l (List.mem_of_getElem? hl)
      obtain⟨b1,b2⟩:=zb6 (fun q=>(zaw hW.rng q).1) l0
      have bl:=zng (cl:=cl) (l:=l)
      have bm:=zez (B:=4000000) (fun q=>(zaw hW.rng q).2) (hA1 l (List.mem_of_getElem? hl))
      have hoa:=zr1 b1
      refine⟨⟨by omega,fun e he=>⟨(bm e he).1,hoa e he,(bm e he).2.2.2.1⟩⟩,fun e he=>?_⟩
      have hee:=zhu b1 he
      rw[b2] at hee
      have h0:=(bm e he).2.2.2.2.1
      rw[clA] at hee
      split at hee
      · omega
      · rename_i hnn
        obtain⟨y,hy,hy2⟩:=zg7 (l:=l) (c:=e.1) (by omega)
        have hyr:=l2 y hy
        exact⟨(nxt l e.1).toNat,by omega,hee,h0⟩
     have:=zm8 (BX F A) (.box [.ref (0,29)]) (.box [.d (ints cl)]) (mpD m) (fun k=>∃ q,q<F.length∧cl.getD q 0=k∧0≤k) (fun k=>(⟨F,A⟩:Au).fin (stQ cl k:Nat)) (fun k=>byC cl ((⟨F,A⟩:Au).arcs (stQ cl k:Nat))) k0 lim (by omega) (by omega) ⟨0,hpos,z2g hk0,by omega⟩ (fun k hk=>zxp F A cl m hcl hm k (by obtain⟨q,a,b,_⟩:=hk;exact⟨q,a,b⟩)) (fun k hk=>zyk F A cl m hA hcl hm k (by obtain⟨q,a,b,_⟩:=hk;exact⟨q,a,b⟩)) hrng H (hH ((0,2),BX F A) (by simp)) (hH ((0,8),.box [.ref (0,29)]) (by simp)) (hH ((0,6),.box [.d (ints cl)]) (by simp)) (hH ((0,29),mpD m) (by simp))
     rw[Int.toNat_natCast] at this
     rw[y1h,z2g hk0]
     exact this
    generalize y1h F A cl lim=o2 at *
    refine z0k Tryz.func44 (by kernel_rfl) rfl (by simp) ?_
    dsimp only[Tryz.f44]
    repeat' (first|(apply z05;(first|refine z94 (by decide) rfl ?_|refine z0o ?_| (apply z09;(first|refine z02 z3t rfl rfl ?_| refine z02 z1d rfl rfl ?_| refine z02 z1p rfl rfl ?_))|(apply z0f;(refine z02 (z1i (ys:=cl.map icc) rfl (z52 (g:=icc) hk0i)) rfl rfl ?_))|(apply z0t;(refine z02 (z1b rfl) rfl rfl ?_))|(apply z0u;(refine z1j hcs ?_))|(apply z0c;(refine z23 ?_))|(apply z0h;(refine z0b z2i ?_))|(apply z1q;(refine z0b z25 ?_))|(apply z1w;(refine z29 rfl ?_))))|(apply z08;(first|refine z0n ?_|apply z07))|(apply z06;(first|apply z0a|apply z00|refine z11 ?_| apply z04|apply z01|refine z0g (fun _=>?_) (fun _=>?_))))
    all_goals try (exfalso;omega)
    refine z1a ?_
    refine z0e (z1y (fun q:Nat × List (Int × D)=>⟨52,[(1,I .i64 lim),(2,.ptr (0,2) 0),(4,.ptr (0,4) 0),(6,.ptr (0,6) 0),(8,.ptr (0,8) 0),(30,.d (ints cl)),(31,I .i64 cl.length),(32,I .i64 (q.1:Nat))],[(29,mpD q.2),(8,.box [.ref (0,29)]),(6,.box [.d (ints cl)]),(4,.box [.d (.lit z30),.d (.lit z30)]),(2,BX F A)],H⟩) (fun q=>q.1≤cl.length∧∀ k,z4y q.2 k=(zce cl q.1 k).map fun s=>z1m (s:Nat)) (fun q=>cl.length-q.1) ?_ (0,[]) ⟨Nat.zero_le _,fun k=>rfl⟩) rfl rfl
    rintro⟨q,m⟩ ⟨q1,q2⟩ ih
    simp only at q1 q2 ih ⊢
    by_cases hlt:q<cl.length
    · obtain⟨k,hk⟩:∃ k,cl[q]? =some k:=⟨_,List.getElem?_eq_getElem hlt⟩
      have ih':=ih (q+1,zfh m k (z1m (q:Nat))) ⟨by simp only;omega,fun k'=>by
       simp only
       rw[zgz,zce,z2g hk]
       by_cases e:k=k'
       · rw[if_pos e,if_pos e];rfl
       · rw[if_neg e,if_neg e];exact q2 k'⟩ (by simp only;omega)
      repeat' (first|(apply z05;(first|refine z3y (et:=3) (a:=k) (v:=z1m (q:Nat)) (py:=I .i64 k) (q:=m) (by kernel_rfl) z8k rfl rfl z8j rfl rfl rfl ?_|refine z0o ?_| (apply z09;(first|refine z02 z1d rfl rfl ?_| refine z02 z1p rfl rfl ?_))|(apply z0f;(refine z02 (z1i (ys:=cl.map icc) rfl (idx (g:=icc) hk)) rfl rfl ?_))|(apply z0p;(refine z02 (z0q z1c) rfl rfl ?_))))|(apply z08;(first|refine z0n ?_|apply z07))|(apply z06;(first|apply z0a|apply z00|apply z04|apply z01|apply z03|refine z0g (fun _=>?_) (fun _=>?_)| refine z0j ?_)))
      all_goals try (exfalso;omega)
      all_goals exact z0e ih' rfl rfl
    · obtain rfl:q=cl.length:=by omega
      have he:=hex m q2
      clear ih hex
      cases o2 with
      | some a =>
       simp only[exR] at he ⊢
       repeat' (first|(apply z05;(first|refine za1 rfl rfl (by decide) ?_|refine z0o ?_| (apply z09;(first|refine z02 z1d rfl rfl ?_| refine z02 z1p rfl rfl ?_))|(apply z0f;(refine z02 (z1i (ys:=cl.map icc) rfl (z52 (g:=icc) hk0i)) rfl rfl ?_))|(apply z0u;(refine z3i he rfl rfl (by decide) ?_))|(apply z0c;(refine z23 ?_))))|(apply z08;(first|refine z0n ?_|apply z07))|(apply z06;(first|apply z0a|apply z00|apply z04|apply z01|refine z0g (fun _=>?_) (fun _=>?_)| refine z0j ?_)))
       all_goals try (exfalso;omega)
       all_goals exact z0l Tryz.func44 _ (z0x rfl rfl rfl rfl rfl rfl rfl) ⟨rfl,rfl⟩
      | none =>
       simp only[exR] at he ⊢
       repeat' (first|(apply z05;(first|refine za1 rfl rfl (by decide) ?_|refine z0o ?_| (apply z09;(first|refine z02 z1d rfl rfl ?_| refine z02 z1p rfl rfl ?_))|(apply z0f;(refine z02 (z1i (ys:=cl.map icc) rfl (z52 (g:=icc) hk0i)) rfl rfl ?_))|(apply z0u;(refine z3i he rfl rfl (by decide) ?_))|(apply z0c;(refine z23 ?_))))|(apply z08;(first|refine z0n ?_|apply z07))|(apply z06;(first|apply z0a|apply z00|apply z04|apply z01|refine z0g (fun _=>?_) (fun _=>?_)| refine z0j ?_)))
       all_goals try (exfalso;omega)
       all_goals exact z0l Tryz.func44 _ (z0x rfl rfl rfl rfl rfl rfl rfl) ⟨rfl,rfl⟩
noncomputable def zmt (a:Au):Au:=(zn2 ((z6z a.F a.A).getD ⟨[],[]⟩).F ((z6z a.F a.A).getD ⟨[],[]⟩).A 256).getD ⟨[],[]⟩
theorem zfz (a:Au) (hf:zei a) (h:vAu a≠0):z0v Tryz.prog 21 [.d (auD a)] (.tup [.d (auD ⟨[],[]⟩),I .i64 1]):=by
 refine z1e fun H=>?_
 have hv:=zd9 a hf
 generalize vAu a=v at *
 refine z0k Tryz.func21 (by kernel_rfl) rfl (by simp) ?_
 dsimp only[Tryz.f21]
 repeat' (first|(apply z05;(first|refine z0o ?_| (apply z09;(refine z02 z3t rfl rfl ?_))|(apply z0u;(refine z1j hv ?_))|(apply z0c;(refine z23 ?_))|(apply z0h;(refine z0b z2i ?_))|(apply z1q;(refine z0b z25 ?_))|(apply z0z;(refine z3s ?_))))|(apply z08;(first|refine z0n ?_|apply z07))|(apply z06;(first|apply z0a|apply z00|apply z04|refine z3z rfl (fun _=>?_) (fun _=>?_))))
 all_goals try (exfalso;omega)
 all_goals exact z0l Tryz.func21 _ (z0x rfl rfl rfl rfl rfl rfl rfl) ⟨rfl,rfl⟩
theorem ze5 (a:Au) (hf:zei a) (h:vAu a=0) (hA:zbr a.F a.A) (hR:zbr ((z6z a.F a.A).getD ⟨[],[]⟩).F ((z6z a.F a.A).getD ⟨[],[]⟩).A):z0v Tryz.prog 21 [.d (auD a)] (.tup [.d (auD (zmt a)),I .i64 0]):=by
 refine z1e fun H=>?_
 have hv:=zd9 a hf
 have hr:=zj3 a.F a.A hA
 have hm:=zh8 _ _ hR 256 (by decide) (by decide)
 rw[zmt]
 rw[h] at hv
 obtain⟨F,A⟩:=a
 simp only at hr hm ⊢
 generalize (z6z F A).getD ⟨[],[]⟩=r at *
 obtain⟨F2,A2⟩:=r
 simp only at hm ⊢
 generalize zn2 F2 A2 256=o at *
 cases o with
 | some b =>
  simp only[exR] at hm
  simp only[Option.getD_some]
  refine z0k Tryz.func21 (by kernel_rfl) rfl (by simp) ?_
  dsimp only[Tryz.f21]
  repeat' (first|(apply z05;(first|refine z0o ?_| (apply z09;(first|refine z02 z3t rfl rfl ?_| refine z02 z1z rfl rfl ?_))|(apply z0u;(first|refine z1j hv ?_| refine z1j hr ?_| refine z1j hm ?_))|(apply z0c;(refine z23 ?_))|(apply z0h;(refine z0b z2i ?_))|(apply z1q;(refine z0b z25 ?_))))|(apply z08;(first|refine z0n ?_|apply z07))|(apply z06;(first|apply z0a|apply z00|refine z11 ?_| apply z04)))
  all_goals try (exfalso;first|omega|(simp at *;done))
  all_goals exact z0l Tryz.func21 _ (z0x rfl rfl rfl rfl rfl rfl rfl) ⟨rfl,rfl⟩
 | none =>
  simp only[exR] at hm
  simp only[Option.getD_none]
  refine z0k Tryz.func21 (by kernel_rfl) rfl (by simp) ?_
  dsimp only[Tryz.f21]
  repeat' (first|(apply z05;(first|refine z0o ?_| (apply z09;(first|refine z02 z3t rfl rfl ?_| refine z02 z1z rfl rfl ?_))|(apply z0u;(first|refine z1j hv ?_| refine z1j hr ?_| refine z1j hm ?_))|(apply z0c;(refine z23 ?_))|(apply z0h;(refine z0b z2i ?_))|(apply z1q;(refine z0b z25 ?_))))|(apply z08;(first|refine z0n ?_|apply z07))|(apply z06;(first|apply z0a|apply z00|refine z11 ?_| apply z04)))
  all_goals try (exfalso;first|omega|(simp at *;done))
  all_goals exact z0l Tryz.func21 _ (z0x rfl rfl rfl rfl rfl rfl rfl) ⟨rfl,rfl⟩
end Go.Proofs.YthdfkabdoidjfaaGreatDoor
namespace Go.Proofs.YthdfkabdoidjfaaGreatDoor
open Go.Ab Go.Ax
set_option maxHeartbeats 20000000
set_option maxRecDepth 100000
attribute [local irreducible] Run Ops Op1 z2b Val Tr z0v z2c NF Rel z3w z3x
theorem zrg {a:Bool × Nat}:∀ β w own v,PR β w own (scP a) v→v=zvq a:=fun β w own v h=>zgq (xs:=[.bool a.1,.int .u64 (a.2:Nat)]) β w own v h
theorem zrd {a:Int × Int}:∀ β w own v,PR β w own (pcP a) v→v=zik a:=fun β w own v h=>zgq (xs:=[.int .i64 a.1,.int .i64 a.2]) β w own v h
theorem zaj {l:List Field} {f:Field→Bool × TypeId × Nat} {a b:Bool × TypeId × Nat} (h:l.map f=[a,b]):∃ x y,l=[x,y]∧f x=a∧f y=b:=by
 match l,h with
 | [x,y],h=>simp at h;exact⟨x,y,rfl,h.1,h.2⟩
theorem zzl (w:World) (a b:Int × Int):(Op.equal 138 (zik a) (zik b)).run Tryz.prog w=.ok (decide (a=b)) w:=by
 have hf:(Tryz.prog.fieldsOf 138).toList.map (fun f=>(f.name == "_",f.type,f.offset))=[(false,3,0),(false,3,1)]:=by kernel_rfl
 have hu:Tryz.prog.underlying 138=some (.struct (Tryz.prog.fieldsOf 138)):=by kernel_rfl
 have hs:Tryz.prog.stoodInHeld 138=false:=by kernel_rfl
 have hint:Tryz.prog.underlying 3=some (.int .i64):=T3.int rfl
 have ha3:∀ w,(isAgg 3).run Tryz.prog w=.ok false w:=fun w=>T3.isAgg w
 simp only[Op.equal,Op.maxDepth,zik]
 rw[run_equalIn_struct w 9999 138 _ _ hu hs]
 obtain⟨⟨n1,t1,o1⟩,⟨n2,t2,o2⟩,he,e1,e2⟩:=zaj hf
 rw[he]
 simp only[Prod.mk.injEq,beq_eq_false_iff_ne,ne_eq] at e1 e2
 have hab:decide (a=b)=(decide (a.1=b.1)&&decide (a.2=b.2)):=by
  rw[Bool.eq_iff_iff];simp[Prod.ext_iff]
 simp only[Op.eqFields,e1.1,e2.1,ne_eq,not_false_eq_true,if_true,e1.2.1,e1.2.2,e2.2.1,e2.2.2,part,Sem.run_bind,ha3,Result.andThen_ok,Bool.false_eq_true,if_false,hab]
 by_cases h1:a.1=b.1
 · by_cases h2:a.2=b.2 <;> simp[run_equalIn_int _ _ _ _ _ _ _ hint,h1,h2]
 · simp[run_equalIn_int _ _ _ _ _ _ _ hint,h1]
theorem y2g (w:World) (a b:Bool × Nat):(Op.equal 78 (zvq a) (zvq b)).run Tryz.prog w=.ok (decide (a=b)) w:=by
 have hf:(Tryz.prog.fieldsOf 78).toList.map (fun f=>(f.name == "_",f.type,f.offset))=[(false,4,0),(false,76,1)]:=by kernel_rfl
 have hu:Tryz.prog.underlying 78=some (.struct (Tryz.prog.fieldsOf 78)):=by kernel_rfl
 have hs:Tryz.prog.stoodInHeld 78=false:=by kernel_rfl
 have hbo:Tryz.prog.underlying 4=some .bool:=T4.bool rfl
 have hint:Tryz.prog.underlying 76=some (.int .u64):=T76.int rfl
 have ha4:∀ w,(isAgg 4).run Tryz.prog w=.ok false w:=fun w=>T4.isAgg w
 have ha76:∀ w,(isAgg 76).run Tryz.prog w=.ok false w:=fun w=>T76.isAgg w
 simp only[Op.equal,Op.maxDepth,zvq]
 rw[run_equalIn_struct w 9999 78 _ _ hu hs]
 obtain⟨⟨n1,t1,o1⟩,⟨n2,t2,o2⟩,he,e1,e2⟩:=zaj hf
 rw[he]
 simp only[Prod.mk.injEq,beq_eq_false_iff_ne,ne_eq] at e1 e2
 have hab:decide (a=b)=(decide (a.1=b.1)&&decide (a.2=b.2)):=by
  rw[Bool.eq_iff_iff];simp[Prod.ext_iff]
 simp only[Op.eqFields,e1.1,e2.1,ne_eq,not_false_eq_true,if_true,e1.2.1,e1.2.2,e2.2.1,e2.2.2,part,Sem.run_bind,ha4,ha76,Result.andThen_ok,Bool.false_eq_true,if_false,hab]
 by_cases h1:a.1=b.1
 · by_cases h2:a.2=b.2 <;> simp[run_equalIn_int _ _ _ _ _ _ _ hint,Go.run_equalIn_bool' _ _ _ _ _ hbo,h1,h2,Int.ofNat_inj]
 · simp[Go.run_equalIn_bool' _ _ _ _ _ hbo,h1]
theorem zuw {P:Program} {kt t1 t2:TypeId} {u v:Value} {d1 d2:TypeDesc} (hu:P.underlying kt=some (.struct (P.fieldsOf kt))) (hf:(P.fieldsOf kt).toList.map (fun f=>(f.name == "_",f.type,f.offset))=[(false,t1,0),(false,t2,1)])
 (h1:P.underlying t1=some d1) (k1:MapKept.IsKey d1 u) (h2:P.underlying t2=some d2) (k2:MapKept.IsKey d2 v) (a1:∀ w,(isAgg t1).run P w=.ok false w) (a2:∀ w,(isAgg t2).run P w=.ok false w) (w:World) (e:Bool):(Instr.checkKey e 10000 kt (.agg #[u,v])).run P w=.ok () w:=by
 obtain⟨⟨n1,t1',o1'⟩,⟨n2,t2',o2'⟩,he,e1,e2⟩:=zaj hf
 simp only[Prod.mk.injEq,beq_eq_false_iff_ne,ne_eq] at e1 e2
 obtain⟨e11,rfl,rfl⟩:=e1
 obtain⟨e21,rfl,rfl⟩:=e2
 have c1:=fun n=>MapKept.run_checkKey (w:=w) h1 k1 e n
 have c2:=fun n=>MapKept.run_checkKey (w:=w) h2 k2 e n
 rw[Instr.checkKey]
 simp only[Sem.run_bind,run_underlying hu,Result.andThen_ok]
 rw[← Array.forIn_toList,he]
 simp only[List.forIn_cons,List.forIn_nil,Sem.run_bind,e11,e21,ne_eq,not_false_eq_true,if_true,part,a1,a2,Result.andThen_ok,Bool.false_eq_true,if_false]
 simp[part,c1,c2,a1,a2,e21,e11,Result.andThen]
theorem zrc:zhq Tryz.prog 138 zik:=zhq.of_eq (by rw[show Tryz.prog.underlying 138=some (.struct (Tryz.prog.fieldsOf 138)) by kernel_rfl])
 (fun w e a=>zuw (by kernel_rfl) (by kernel_rfl) (T3.int rfl) (show MapKept.IsKey (.int .i64) (.int .i64 a.1) from rfl) (T3.int rfl) (show MapKept.IsKey (.int .i64) (.int .i64 a.2) from rfl) (fun w=>T3.isAgg w) (fun w=>T3.isAgg w) w e) zzl (fun a=>by simp[zik,Instr.sameBits])
theorem zra:zhq Tryz.prog 78 zvq:=zhq.of_eq (by rw[show Tryz.prog.underlying 78=some (.struct (Tryz.prog.fieldsOf 78)) by kernel_rfl])
 (fun w e a=>zuw (by kernel_rfl) (by kernel_rfl) (T4.bool rfl) (show MapKept.IsKey .bool (.bool a.1) from trivial) (T76.int rfl) (show MapKept.IsKey (.int .u64) (.int .u64 (a.2:Nat)) from rfl) (fun w=>T4.isAgg w) (fun w=>T76.isAgg w) w e) y2g (fun a=>by simp[zvq,Instr.sameBits])
end Go.Proofs.YthdfkabdoidjfaaGreatDoor
namespace Go.Proofs.YthdfkabdoidjfaaGreatDoor
open Go.Ab Go.Ax
set_option maxHeartbeats 20000000
set_option maxRecDepth 100000
attribute [local irreducible] Run Ops Op1 z2b Val Tr z0v z2c NF Rel z3w z3x
theorem zm6 (b1 b2 b3:Blk) (ok:Int × Int→Prop) (fin:Int × Int→Bool) (edg:Int × Int→List (Go.Ax.Edge (Int × Int))) (first:Int × Int) (lim:Int) (hl0:1≤lim) (hl1:lim≤2000000) (hok0:ok first)
 (hfin:∀ k,ok k→z2c Tryz.prog 94 [pcP k,.ptr (1,5) 0,.ptr (1,3) 0,.ptr (1,4) 0] [((1,3),b1),((1,4),b2),((1,5),b3)] [] (B (fin k))) (hedg:∀ k,ok k→z2c Tryz.prog 97 [pcP k,.ptr (1,3) 0,.ptr (1,4) 0,.ptr (1,5) 0] [((1,3),b1),((1,4),b2),((1,5),b3)] [] (.d (.slice ((edg k).map ped)))) (hE:∀ k,ok k→edE (edg k)∧∀ e∈edg k,ok e.2.2)
 (H:Hf) (hb1:H 0 3=some b1) (hb2:H 0 4=some b2) (hb3:H 0 5=some b3) :
 Ab.Spec Tryz.prog 101 [pcP first,.fn (.func 94) [] [.ptr (0,5) 0,.ptr (0,3) 0,.ptr (0,4) 0],.fn (.func 97) [] [.ptr (0,3) 0,.ptr (0,4) 0,.ptr (0,5) 0],I .i64 lim] H (fun r H'=>r=.v (exR (exL fin edg lim.toNat (lim.toNat+1) 0 [first] ⟨[],[]⟩))∧H'=H):=by
 have hb:∀ (n:Nat) (tm:List (Nat × PV)) (hp:Hp),BkE ⟨n,tm,hp,H⟩ [((1,3),b1),((1,4),b2),((1,5),b3)]:=fun n tm hp=>by simp[BkE,z4k,push,hb1,hb2,hb3]
 refine z0k Tryz.func101 (by kernel_rfl) rfl (by simp) ?_
 dsimp only[Tryz.f101]
 repeat' (first|(apply z05;(first|refine z94 (by decide) rfl ?_|refine zd6 (et:=3) (a:=first) (v:=z1m 0) (py:=pcP first) (q:=([]:List ((Int × Int) × D))) (by kernel_rfl) zrc rfl rfl zrd rfl rfl rfl ?_|refine z0o ?_| (apply z09;(refine z02 z3t rfl rfl ?_))|(apply z0h;(refine z0b z2i ?_))|(apply z1q;(refine z0b z25 ?_))|(apply z1w;(refine zb3 rfl rfl rfl rfl rfl rfl rfl rfl rfl (by decide) ?_))))|(apply z08;(first|refine z0n ?_|apply z07))|(apply z06;(first|apply z0a|apply z00|apply z01)))
 refine z1s 24 1000 ?_
 refine z2z 10 0 1001 4 1 rfl rfl rfl rfl ?_
 refine z2z 10 1 1002 39 1 rfl rfl rfl rfl ?_
 generalize hres:exL fin edg lim.toNat (lim.toNat+1) 0 [first] ⟨[],[]⟩=res
 refine z1a ?_
 refine z0e (z1y (fun q:Nat × List (Int × Int) × Au=>⟨128,[(1,.fn (.func 94) [] [.ptr (1,5) 0,.ptr (1,3) 0,.ptr (1,4) 0]),(2,.fn (.func 97) [] [.ptr (1,3) 0,.ptr (1,4) 0,.ptr (1,5) 0]),(3,I .i64 lim),(8,.ptr (0,8) 0),(10,.ptr (0,10) 0),(11,.ref (0,20)),(12,.ref (0,1000)),(13,I .i64 (q.1:Nat))],[(20,mpP q.2.1),(1000,.row 138 2 (q.2.1.map pcc)),(10,.box [.ref (0,1001),.ref (0,1002)]),(1001,.row 4 1 (q.2.2.F.map boc)),(1002,.row 39 1 (q.2.2.A.map z4a)),(8,.box [.d (.lit z30),.d (.lit z30)])],H⟩) (fun q=>q.1≤q.2.1.length∧1≤q.2.1.length∧q.2.1.length≤lim.toNat∧q.2.2.F.length=q.1∧q.2.2.A.length=q.1∧(∀ x∈q.2.1,ok x)∧exL fin edg lim.toNat (lim.toNat+1-q.1) q.1 q.2.1 q.2.2=res) (fun q=>lim.toNat+1-q.1) ?_ (0,[first],⟨[],[]⟩) ⟨Nat.zero_le _,Nat.le_refl _,by simp only[List.length_singleton];omega,rfl,rfl,fun x hx=>by rw[List.mem_singleton] at hx;rw[hx];exact hok0,hres⟩) rfl rfl
 rintro⟨i,ks,⟨F,A⟩⟩ ⟨i1,i2,i3,i4,i5,i7,i6⟩ ih
 simp only at i1 i2 i3 i4 i5 i6 i7 ih ⊢
 by_cases hlt:i<ks.length
 · obtain⟨k,hk⟩:∃ k,ks[i]? =some k:=⟨_,List.getElem?_eq_getElem hlt⟩
   obtain⟨n,hn⟩:∃ n,lim.toNat+1-i=n+1:=⟨lim.toNat-i,by omega⟩
   rw[hn,exL,hk] at i6
   simp only at i6
   have hok:=i7 k (List.mem_of_getElem? hk)
   have hff:=hfin k hok
   have hee:=hedg k hok
   obtain⟨⟨hE1,hE2⟩,hE3⟩:=hE k hok
   generalize edg k=es at *
   generalize fin k=fb at *
   repeat' (first|(apply z05;(first|refine z0o ?_| (apply z09;(refine z02 (z5l hk rfl rfl) rfl rfl ?_))|(apply z0f;(refine z02 (z3g rfl) rfl rfl ?_))|(apply z0t;(first|refine z02 (zb1 rfl) rfl rfl ?_| refine z02 (z1b rfl) rfl rfl ?_))|(apply z0u;(refine zry (first:=[]) (cap:=[.ptr (1,3) 0,.ptr (1,4) 0,.ptr (1,5) 0]) (ps:=[pcP k]) hee rfl rfl (hb _ _ _) (by decide) ?_))))|(apply z08;(first|refine z0n ?_|apply z07))|(apply z06;(first|apply z0a|apply z00|apply z04|apply z01|refine z0g (fun _=>?_) (fun _=>?_)| refine z0j ?_)))
   all_goals try (exfalso;simp only[List.length_map] at *;omega)
   refine z2e 14 1003 38 3 rfl rfl rfl ?_
   refine z1a ?_
   refine z0e (z1y (fun q:Nat × List (Int × Int) × List Arc=>⟨128,[(1,.fn (.func 94) [] [.ptr (1,5) 0,.ptr (1,3) 0,.ptr (1,4) 0]),(2,.fn (.func 97) [] [.ptr (1,3) 0,.ptr (1,4) 0,.ptr (1,5) 0]),(3,I .i64 lim),(8,.ptr (0,8) 0),(10,.ptr (0,10) 0),(11,.ref (0,20)),(12,.ref (0,1000)),(13,I .i64 (i:Nat)),(14,.ref (0,1003)),(36,.d (.slice (es.map ped))),(37,I .i64 es.length),(38,I .i64 (q.1:Nat))],[(20,mpP q.2.1),(1000,.row 138 2 (q.2.1.map pcc)),(1003,.row 38 3 (q.2.2.map z2l)),(10,.box [.ref (0,1001),.ref (0,1002)]),(1001,.row 4 1 (F.map boc)),(1002,.row 39 1 (A.map z4a)),(8,.box [.d (.lit z30),.d (.lit z30)])],H⟩) (fun q=>q.1≤es.length∧q.2.2.length≤q.1∧q.2.1.length≤ks.length+q.1∧q.2.1[i]? =some k∧(∀ y∈q.2.2,0≤y.2.1∧y.2.1≤1114111)∧(∀ x∈q.2.1,ok x)∧(es.drop q.1).foldl z5a q.2=es.foldl z5a (ks,[])) (fun q=>es.length-q.1) ?_ (0,ks,[]) ⟨Nat.zero_le _,Nat.le_refl _,Nat.le_refl _,hk,by simp,i7,rfl⟩) rfl rfl
   rintro⟨j,ks2,arcs⟩ ⟨j1,j2,j3,j4,j5,j7,j6⟩ ihj
   simp only at j1 j2 j3 j4 j5 j6 j7 ihj ⊢
   by_cases hjl:j<es.length
   · obtain⟨e,he⟩:∃ e,es[j]? =some e:=⟨_,List.getElem?_eq_getElem hjl⟩
     obtain⟨r1,r2,r3⟩:=hE2 e (List.mem_of_getElem? he)
     rw[drop_cons he,List.foldl_cons,z5a] at j6
     simp only at j6
     have hal:=z8e ks2 e.2.2
     have hln:=z8z arcs e.1 e.2.1 (z3l e.2.2 ks2:Nat)
     have ihj':=ihj (j+1,z5q ks2 e.2.2,ext arcs e.1 e.2.1 (z3l e.2.2 ks2:Nat)) ⟨by simp only;omega,by simp only;omega,by simp only;omega,by simp only;obtain⟨x,hx⟩:=z6o ks2 e.2.2;rw[hx,List.getElem?_append_left (List.getElem?_eq_some_iff.1 j4).1];exact j4,fun y hy=>by
      rcases ext_mem hy with h|h
      · omega
      · exact j5 y h,fun x hx=>by
      rcases z7q hx with h|h
      · rw[h];exact hE3 e (List.mem_of_getElem? he)
      · exact j7 x h,j6⟩ (by simp only;omega)
     have hget:=z6v e.2.2 ks2 0
     clear ihj hal
     by_cases hknown:e.2.2∈ks2
     · rw[z5q,if_pos hknown] at ihj'
       rw[if_pos hknown,Nat.zero_add] at hget
       have hget1:(z4y (z38 0 ks2) e.2.2).getD (.lit (.int .i64 0))=z1m (z3l e.2.2 ks2:Nat):=by rw[hget];rfl
       have hget2:(z4y (z38 0 ks2) e.2.2).isSome=true:=by rw[hget];rfl
       generalize z3l e.2.2 ks2=qv at *
       rcases zfn arcs with rfl|⟨m,y,rfl⟩
       · rw[ext_nil] at ihj'
         repeat' (first|(apply z05;(first|refine z0b (z4d (et:=3) (a:=e.2.2) (q:=z38 0 ks2) (z0:=Value.int .i64 0) (py:=pcP e.2.2) zrc (z2a (by kernel_rfl)) rfl rfl rfl zrd rfl hget1 hget2) ?_|refine z0o ?_| (apply z09;(first|refine z02 z1d rfl rfl ?_| refine z02 z27 rfl rfl ?_| refine z02 z1z rfl rfl ?_))|(apply z0d;(refine z02 z0i rfl rfl ?_))|(apply z0f;(refine z02 (z1i (ys:=es.map ped) rfl (idx he)) rfl rfl ?_))|(apply z0p;(refine z02 (z0q z1c) rfl rfl ?_))|(apply z0t;(first|refine z02 (z18 rfl) rfl rfl ?_| refine z50 (g:=z2l) rfl rfl (e.1,e.2.1,((qv:Nat):Int)) rfl rfl rfl rfl rfl rfl rfl (by decide) (by simp) ?_))|(apply z0c;(refine z23 ?_))|(apply z0h;(refine z0b z2i ?_))|(apply z0z;(refine z3s ?_))|(apply z1w;(refine z29 rfl ?_))))|(apply z08;(first|refine z0n ?_|apply z07))|(apply z06;(first|apply z0a|apply z00|refine z11 ?_| apply z04|apply z01|apply z2p|apply z03|refine z0g (fun _=>?_) (fun _=>?_)| refine z0j ?_))|(apply z2r;(first|(apply z15;refine z1o mix ?_)|refine z2y ?_| refine z2s ?_| (apply z0r;(refine z0m z1d rfl rfl ?_))|(apply z0s;(refine z0m z0i rfl rfl ?_)))))
         all_goals try (exfalso;first|omega|(simp at *;done))
         all_goals skip
         all_goals refine z1s 103 1003 ?_
         all_goals exact z0e ihj' rfl rfl
       · have hy:=j5 y (by simp)
         have hal:((m++[y]).map z2l).length=m.length+1:=by simp
         have hal2:(m++[y]).length=m.length+1:=by simp
         have hix:(m++[y])[(((((m++[y]).length:Nat):Int)-1)).toNat]? =some y:=by
          rw[hal2,show (((m.length+1:Nat):Int)-1).toNat=m.length by omega];simp
         have hse:(m++[y]).set (((((m++[y]).length:Nat):Int)-1)).toNat ((y.1,e.2.1,y.2.2):Arc)=m++[(y.1,e.2.1,y.2.2)]:=by
          rw[hal2,show (((m.length+1:Nat):Int)-1).toNat=m.length by omega];simp
         rw[z3p] at ihj'
         by_cases hj:y.2.1+1=e.1∧y.2.2=(qv:Nat)
         · have hyq:(y.1,e.2.1,((qv:Nat):Int))=((y.1,e.2.1,y.2.2):Arc):=by rw[hj.2]
           rw[if_pos hj,hyq] at ihj'
           repeat' (first|(apply z05;(first|refine z0b (z4d (et:=3) (a:=e.2.2) (q:=z38 0 ks2) (z0:=Value.int .i64 0) (py:=pcP e.2.2) zrc (z2a (by kernel_rfl)) rfl rfl rfl zrd rfl hget1 hget2) ?_|refine z0o ?_| (apply z09;(first|refine z02 z1d rfl rfl ?_| refine z02 z27 rfl rfl ?_| refine z02 z1z rfl rfl ?_))|(apply z0d;(first|refine z02 z0i rfl rfl ?_| refine z02 z3u rfl rfl ?_))|(apply z0f;(first|refine z02 (z1i (ys:=es.map ped) rfl (idx he)) rfl rfl ?_| refine z02 (z3g rfl) rfl rfl ?_))|(apply z0p;(first|refine z02 (z0q z1c) rfl rfl ?_| refine z02 (z22 z1c) rfl rfl ?_))|(apply z0t;(first|refine z02 (z18 rfl) rfl rfl ?_| refine z2q (g:=z2l) (e.1,e.2.1,((qv:Nat):Int)) rfl ?_))|(apply z0c;(first|refine z42 ((y.1,e.2.1,y.2.2):Arc) hix hse ?_| refine z23 ?_))|(apply z0h;(refine z0b z2i ?_))|(apply z0z;(refine z3s ?_))|(apply z1w;(refine z29 rfl ?_))))|(apply z08;(first|refine z0n ?_|apply z07))|(apply z06;(first|apply z0a|apply z00|refine z11 ?_| apply z04|apply z01|apply z2p|apply z03|refine z0g (fun _=>?_) (fun _=>?_)| refine z0j ?_))|(apply z2r;(first|(apply z15;refine z1o mix ?_)|refine z2y ?_| refine z2s ?_| (apply z0r;(first|refine z0m (z2d (u:=z3e y.2.1) hix) rfl rfl ?_| refine z0m (z2d (u:=z1m y.2.2) hix) rfl rfl ?_| refine z0m z1d rfl rfl ?_))|(apply z0s;(first|refine z0m z0i rfl rfl ?_| refine z0m z3u rfl rfl ?_))|(apply z14;(refine z0m (z3g rfl) rfl rfl ?_))|(apply z2f;(first|refine z0m (z0q (z8x (by omega) (by omega))) rfl rfl ?_| refine z0m (z22 z1c) rfl rfl ?_))|(refine z1n rfl rfl (fun hg=>?_) (fun hg=>?_) <;> simp only[hg] <;> (try simp only[decide_eq_true_eq,decide_eq_false_iff_not,Bool.not_eq_true',Bool.not_eq_false'] at hg)))))
           all_goals try (exfalso;omega)
           all_goals skip
           all_goals exact z0e ihj' rfl rfl
         · rw[if_neg hj] at ihj'
           repeat' (first|(apply z05;(first|refine z0b (z4d (et:=3) (a:=e.2.2) (q:=z38 0 ks2) (z0:=Value.int .i64 0) (py:=pcP e.2.2) zrc (z2a (by kernel_rfl)) rfl rfl rfl zrd rfl hget1 hget2) ?_|refine z0o ?_| (apply z09;(first|refine z02 z1d rfl rfl ?_| refine z02 z27 rfl rfl ?_| refine z02 z1z rfl rfl ?_))|(apply z0d;(first|refine z02 z0i rfl rfl ?_| refine z02 z3u rfl rfl ?_))|(apply z0f;(first|refine z02 (z1i (ys:=es.map ped) rfl (idx he)) rfl rfl ?_| refine z02 (z3g rfl) rfl rfl ?_))|(apply z0p;(first|refine z02 (z0q z1c) rfl rfl ?_| refine z02 (z22 z1c) rfl rfl ?_))|(apply z0t;(first|refine z02 (z18 rfl) rfl rfl ?_| refine z2q (g:=z2l) (e.1,e.2.1,((qv:Nat):Int)) rfl ?_))|(apply z0c;(first|refine z42 ((y.1,e.2.1,y.2.2):Arc) hix hse ?_| refine z23 ?_))|(apply z0h;(refine z0b z2i ?_))|(apply z0z;(refine z3s ?_))|(apply z1w;(refine z29 rfl ?_))))|(apply z08;(first|refine z0n ?_|apply z07))|(apply z06;(first|apply z0a|apply z00|refine z11 ?_| apply z04|apply z01|apply z2p|apply z03|refine z0g (fun _=>?_) (fun _=>?_)| refine z0j ?_))|(apply z2r;(first|(apply z15;refine z1o mix ?_)|refine z2y ?_| refine z2s ?_| (apply z0r;(first|refine z0m (z2d (u:=z3e y.2.1) hix) rfl rfl ?_| refine z0m (z2d (u:=z1m y.2.2) hix) rfl rfl ?_| refine z0m z1d rfl rfl ?_))|(apply z0s;(first|refine z0m z0i rfl rfl ?_| refine z0m z3u rfl rfl ?_))|(apply z14;(refine z0m (z3g rfl) rfl rfl ?_))|(apply z2f;(first|refine z0m (z0q (z8x (by omega) (by omega))) rfl rfl ?_| refine z0m (z22 z1c) rfl rfl ?_))|(refine z1n rfl rfl (fun hg=>?_) (fun hg=>?_) <;> simp only[hg] <;> (try simp only[decide_eq_true_eq,decide_eq_false_iff_not,Bool.not_eq_true',Bool.not_eq_false'] at hg)))))
           all_goals try (exfalso;omega)
           all_goals skip
           all_goals refine z1s 103 1003 ?_
           all_goals exact z0e ihj' rfl rfl
     · rw[z5q,if_neg hknown,z3o hknown] at ihj'
       rw[z3o hknown] at hln
       rw[if_neg hknown] at hget
       have hget1:(z4y (z38 0 ks2) e.2.2).getD (.lit (.int .i64 0))=z1m 0:=by rw[hget];rfl
       have hget2:(z4y (z38 0 ks2) e.2.2).isSome=false:=by rw[hget];rfl
       have hput:=z8b hknown
       dsimp only[mpP] at ihj'
       rw[← hput] at ihj'
       rcases zfn arcs with rfl|⟨m,y,rfl⟩
       · rw[ext_nil] at ihj'
         repeat' (first|(apply z05;(first|refine z0b (z4d (et:=3) (a:=e.2.2) (q:=z38 0 ks2) (z0:=Value.int .i64 0) (py:=pcP e.2.2) zrc (z2a (by kernel_rfl)) rfl rfl rfl zrd rfl hget1 hget2) ?_|refine z0o ?_| (apply z09;(first|refine z02 z1d rfl rfl ?_| refine z02 z27 rfl rfl ?_| refine z02 z1z rfl rfl ?_))|(apply z0d;(refine z02 z0i rfl rfl ?_))|(apply z0f;(refine z02 (z1i (ys:=es.map ped) rfl (idx he)) rfl rfl ?_))|(apply z0p;(refine z02 (z0q z1c) rfl rfl ?_))|(apply z0t;(first|refine z02 (z18 rfl) rfl rfl ?_| refine z2q (g:=pcc) e.2.2 rfl ?_| refine z50 (g:=z2l) rfl rfl (e.1,e.2.1,((ks2.length:Nat):Int)) rfl rfl rfl rfl rfl rfl rfl (by decide) (by simp) ?_))|(apply z0c;(refine z23 ?_))|(apply z0h;(refine z0b z2i ?_))|(apply z0z;(refine z3s ?_))|(apply z1w;(refine z29 rfl ?_))|refine z3y (et:=3) (a:=e.2.2) (v:=z1m (ks2.length:Nat)) (py:=pcP e.2.2) (q:=z38 0 ks2) (by kernel_rfl) zrc rfl rfl zrd rfl rfl rfl ?_))|(apply z08;(first|refine z0n ?_|apply z07))|(apply z06;(first|apply z0a|apply z00|refine z1h ?_| refine z11 ?_| apply z04|apply z01|apply z2p|apply z03|refine z0g (fun _=>?_) (fun _=>?_)| refine z0j ?_))|(apply z2r;(first|(apply z15;refine z1o mix ?_)|refine z2y ?_| refine z2s ?_| (apply z0r;(refine z0m z1d rfl rfl ?_))|(apply z0s;(refine z0m z0i rfl rfl ?_)))))
         all_goals try (exfalso;first|omega|(simp at *;done))
         all_goals refine z1s 61 1000 ?_
         all_goals refine z1s 103 1003 ?_
         all_goals exact z0e ihj' rfl rfl
       · have hy:=j5 y (by simp)
         have hal:((m++[y]).map z2l).length=m.length+1:=by simp
         have hal2:(m++[y]).length=m.length+1:=by simp
         have hix:(m++[y])[(((((m++[y]).length:Nat):Int)-1)).toNat]? =some y:=by
          rw[hal2,show (((m.length+1:Nat):Int)-1).toNat=m.length by omega];simp
         have hse:(m++[y]).set (((((m++[y]).length:Nat):Int)-1)).toNat ((y.1,e.2.1,y.2.2):Arc)=m++[(y.1,e.2.1,y.2.2)]:=by
          rw[hal2,show (((m.length+1:Nat):Int)-1).toNat=m.length by omega];simp
         rw[z3p] at ihj'
         by_cases hj:y.2.1+1=e.1∧y.2.2=(ks2.length:Nat)
         · have hyq:(y.1,e.2.1,((ks2.length:Nat):Int))=((y.1,e.2.1,y.2.2):Arc):=by rw[hj.2]
           rw[if_pos hj,hyq] at ihj'
           repeat' (first|(apply z05;(first|refine z0b (z4d (et:=3) (a:=e.2.2) (q:=z38 0 ks2) (z0:=Value.int .i64 0) (py:=pcP e.2.2) zrc (z2a (by kernel_rfl)) rfl rfl rfl zrd rfl hget1 hget2) ?_|refine z0o ?_| (apply z09;(first|refine z02 z1d rfl rfl ?_| refine z02 z27 rfl rfl ?_| refine z02 z1z rfl rfl ?_))|(apply z0d;(first|refine z02 z0i rfl rfl ?_| refine z02 z3u rfl rfl ?_))|(apply z0f;(first|refine z02 (z1i (ys:=es.map ped) rfl (idx he)) rfl rfl ?_| refine z02 (z3g rfl) rfl rfl ?_))|(apply z0p;(first|refine z02 (z0q z1c) rfl rfl ?_| refine z02 (z22 z1c) rfl rfl ?_))|(apply z0t;(first|refine z02 (z18 rfl) rfl rfl ?_| refine z2q (g:=pcc) e.2.2 rfl ?_| refine z2q (g:=z2l) (e.1,e.2.1,((ks2.length:Nat):Int)) rfl ?_))|(apply z0c;(first|refine z42 ((y.1,e.2.1,y.2.2):Arc) hix hse ?_| refine z23 ?_))|(apply z0h;(refine z0b z2i ?_))|(apply z0z;(refine z3s ?_))|(apply z1w;(refine z29 rfl ?_))|refine z3y (et:=3) (a:=e.2.2) (v:=z1m (ks2.length:Nat)) (py:=pcP e.2.2) (q:=z38 0 ks2) (by kernel_rfl) zrc rfl rfl zrd rfl rfl rfl ?_))|(apply z08;(first|refine z0n ?_|apply z07))|(apply z06;(first|apply z0a|apply z00|refine z1h ?_| refine z11 ?_| apply z04|apply z01|apply z2p|apply z03|refine z0g (fun _=>?_) (fun _=>?_)| refine z0j ?_))|(apply z2r;(first|(apply z15;refine z1o mix ?_)|refine z2y ?_| refine z2s ?_| (apply z0r;(first|refine z0m (z2d (u:=z3e y.2.1) hix) rfl rfl ?_| refine z0m (z2d (u:=z1m y.2.2) hix) rfl rfl ?_| refine z0m z1d rfl rfl ?_))|(apply z0s;(first|refine z0m z0i rfl rfl ?_| refine z0m z3u rfl rfl ?_))|(apply z14;(refine z0m (z3g rfl) rfl rfl ?_))|(apply z2f;(first|refine z0m (z0q (z8x (by omega) (by omega))) rfl rfl ?_| refine z0m (z22 z1c) rfl rfl ?_))|(refine z1n rfl rfl (fun hg=>?_) (fun hg=>?_) <;> simp only[hg] <;> (try simp only[decide_eq_true_eq,decide_eq_false_iff_not,Bool.not_eq_true',Bool.not_eq_false'] at hg)))))
           all_goals try (exfalso;omega)
           all_goals refine z1s 61 1000 ?_
           all_goals exact z0e ihj' rfl rfl
         · rw[if_neg hj] at ihj'
           repeat' (first|(apply z05;(first|refine z0b (z4d (et:=3) (a:=e.2.2) (q:=z38 0 ks2) (z0:=Value.int .i64 0) (py:=pcP e.2.2) zrc (z2a (by kernel_rfl)) rfl rfl rfl zrd rfl hget1 hget2) ?_|refine z0o ?_| (apply z09;(first|refine z02 z1d rfl rfl ?_| refine z02 z27 rfl rfl ?_| refine z02 z1z rfl rfl ?_))|(apply z0d;(first|refine z02 z0i rfl rfl ?_| refine z02 z3u rfl rfl ?_))|(apply z0f;(first|refine z02 (z1i (ys:=es.map ped) rfl (idx he)) rfl rfl ?_| refine z02 (z3g rfl) rfl rfl ?_))|(apply z0p;(first|refine z02 (z0q z1c) rfl rfl ?_| refine z02 (z22 z1c) rfl rfl ?_))|(apply z0t;(first|refine z02 (z18 rfl) rfl rfl ?_| refine z2q (g:=pcc) e.2.2 rfl ?_| refine z2q (g:=z2l) (e.1,e.2.1,((ks2.length:Nat):Int)) rfl ?_))|(apply z0c;(first|refine z42 ((y.1,e.2.1,y.2.2):Arc) hix hse ?_| refine z23 ?_))|(apply z0h;(refine z0b z2i ?_))|(apply z0z;(refine z3s ?_))|(apply z1w;(refine z29 rfl ?_))|refine z3y (et:=3) (a:=e.2.2) (v:=z1m (ks2.length:Nat)) (py:=pcP e.2.2) (q:=z38 0 ks2) (by kernel_rfl) zrc rfl rfl zrd rfl rfl rfl ?_))|(apply z08;(first|refine z0n ?_|apply z07))|(apply z06;(first|apply z0a|apply z00|refine z1h ?_| refine z11 ?_| apply z04|apply z01|apply z2p|apply z03|refine z0g (fun _=>?_) (fun _=>?_)| refine z0j ?_))|(apply z2r;(first|(apply z15;refine z1o mix ?_)|refine z2y ?_| refine z2s ?_| (apply z0r;(first|refine z0m (z2d (u:=z3e y.2.1) hix) rfl rfl ?_| refine z0m (z2d (u:=z1m y.2.2) hix) rfl rfl ?_| refine z0m z1d rfl rfl ?_))|(apply z0s;(first|refine z0m z0i rfl rfl ?_| refine z0m z3u rfl rfl ?_))|(apply z14;(refine z0m (z3g rfl) rfl rfl ?_))|(apply z2f;(first|refine z0m (z0q (z8x (by omega) (by omega))) rfl rfl ?_| refine z0m (z22 z1c) rfl rfl ?_))|(refine z1n rfl rfl (fun hg=>?_) (fun hg=>?_) <;> simp only[hg] <;> (try simp only[decide_eq_true_eq,decide_eq_false_iff_not,Bool.not_eq_true',Bool.not_eq_false'] at hg)))))
           all_goals try (exfalso;omega)
           all_goals refine z1s 61 1000 ?_
           all_goals refine z1s 103 1003 ?_
           all_goals exact z0e ihj' rfl rfl
   · obtain rfl:j=es.length:=by omega
     rw[List.drop_length,List.foldl_nil] at j6
     rw[← j6] at i6
     simp only at i6
     have hi2:=(List.getElem?_eq_some_iff.1 j4).1
     refine z1g 1003 rfl ?_
     by_cases hlim:lim.toNat<ks2.length
     · rw[if_pos hlim] at i6
       rw[← i6]
       repeat' (first|(apply z05;(first|refine z0o ?_| (apply z0t;(refine z02 (z18 rfl) rfl rfl ?_))|(apply z0c;(refine z23 ?_))|(apply z0z;(refine z3s ?_))))|(apply z08;(first|refine z0n ?_|apply z07))|(apply z06;(first|apply z0a|apply z00|apply z04|apply z01|apply z2p|refine z0g (fun _=>?_) (fun _=>?_)| refine z0j ?_))|(apply z2r;(first|refine z2s ?_| (apply z0r;(refine z0m z1d rfl rfl ?_))|(apply z0s;(refine z0m z0i rfl rfl ?_)))))
       all_goals try (exfalso;omega)
       all_goals exact z0l Tryz.func101 _ (z0x rfl rfl rfl rfl rfl rfl rfl) ⟨rfl,rfl⟩
     · rw[if_neg hlim] at i6
       have ih':=ih (i+1,ks2,⟨F++[fb],A++[arcs]⟩) ⟨by simp only;omega,by simp only;omega,by simp only;omega,by simp[i4],by simp[i5],j7,by rw[← i6];simp only;rw[show lim.toNat+1-(i+1)=n by omega]⟩ (by simp only;omega)
       simp only at ih'
       repeat' (first|(apply z05;(first|refine z0o ?_| (apply z09;(refine z02 z1d rfl rfl ?_))|(apply z0d;(refine z02 z0i rfl rfl ?_))|(apply z0p;(refine z02 (z0q z1c) rfl rfl ?_))|(apply z0t;(first|refine z02 (z18 rfl) rfl rfl ?_| refine z2q (g:=z4a) arcs rfl ?_))|(apply z0c;(refine z23 ?_))|(apply z0z;(refine z3s ?_))|(apply z1w;(refine z29 rfl ?_))))|(apply z08;(first|refine z0n ?_|apply z07))|(apply z06;(first|apply z0a|apply z00|apply z04|apply z01|apply z2p|apply z03|refine z0g (fun _=>?_) (fun _=>?_)| refine z0j ?_))|(apply z2r;(first|(apply z15;refine z1o mix ?_)|refine z2s ?_| (apply z0r;(first|refine z0m (z5l j4 rfl rfl) rfl rfl ?_| refine z0m z1d rfl rfl ?_))|(apply z0s;(refine z0m z0i rfl rfl ?_))|(apply z14;(refine z0m (z1v rfl (by omega) (by simp only[List.length_map];omega) rfl) rfl rfl ?_))|(apply z47;(refine z5y (g:=boc) (by first|exact rfl|exact⟨_,rfl,rfl,rfl⟩) rfl rfl fb rfl rfl rfl rfl rfl rfl rfl (by decide) (by omega) ?_))|(apply z3a;(refine ztv (first:=[]) (cap:=[.ptr (1,5) 0,.ptr (1,3) 0,.ptr (1,4) 0]) (ps:=[pcP k]) hff (by first|exact rfl|exact⟨_,rfl,rfl,rfl⟩) rfl rfl (hb _ _ _) (by decide) ?_))|(apply z36;(refine z89 (by first|exact rfl|exact⟨_,rfl,rfl,rfl⟩) rfl rfl rfl rfl rfl ?_))|(apply z5j;(refine z8u rfl ?_)))))
       all_goals try (exfalso;omega)
       all_goals refine z1s 119 1001 ?_
       all_goals refine z1s 125 1002 ?_
       all_goals exact z0e ih' rfl rfl
 · obtain rfl:i=ks.length:=by omega
   obtain⟨n,hn⟩:∃ n,lim.toNat+1-ks.length=n+1:=⟨lim.toNat-ks.length,by omega⟩
   rw[hn,exL,List.getElem?_eq_none (Nat.le_refl _)] at i6
   simp only at i6
   rw[← i6]
   refine z1g 1001 rfl ?_
   refine z1g 1002 rfl ?_
   repeat' (first|(apply z05;(first|refine z0o ?_| (apply z09;(refine z02 z1z rfl rfl ?_))|(apply z0t;(refine z02 (z18 rfl) rfl rfl ?_))|(apply z0c;(refine z23 ?_))))|(apply z08;(first|refine z0n ?_|apply z07))|(apply z06;(first|apply z0a|apply z00|apply z04|apply z01|refine z0g (fun _=>?_) (fun _=>?_)| refine z0j ?_)))
   all_goals try (exfalso;omega)
   all_goals exact z0l Tryz.func101 _ (z0x rfl rfl rfl rfl rfl rfl rfl) ⟨rfl,rfl⟩
end Go.Proofs.YthdfkabdoidjfaaGreatDoor
