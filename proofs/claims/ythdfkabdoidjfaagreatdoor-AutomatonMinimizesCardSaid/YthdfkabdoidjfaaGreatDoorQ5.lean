/- A part of the proof: A14, A30, A31. -/
import Derived.Test.YthdfkabdoidjfaaGreatDoorQ3
import Derived.Test.YthdfkabdoidjfaaGreatDoorQ4
import Derived.Test.YthdfkabdoidjfaaGreatDoorQv
set_option linter.all false
set_option linter.unusedVariables false
set_option linter.unusedSimpArgs false
namespace Go.Proofs.YthdfkabdoidjfaaGreatDoor
open Go.Ab Go.Ax
set_option maxHeartbeats 20000000
set_option maxRecDepth 100000
attribute [local irreducible] Run Ops Op1 z2b Val Tr z0v z2c NF Rel z3w z3x
theorem zmi (b1 b2:Blk) (ok:Bool × Nat→Prop) (fin:Bool × Nat→Bool) (edg:Bool × Nat→List (Go.Ax.Edge (Bool × Nat))) (first:Bool × Nat) (lim:Int) (hl0:1≤lim) (hl1:lim≤2000000) (hok0:ok first)
 (hfin:∀ k,ok k→z2c Tryz.prog 58 [scP k,.ptr (1,4) 0] [((1,4),b1),((1,14),b2)] [] (B (fin k))) (hedg:∀ k,ok k→z2c Tryz.prog 59 [scP k,.ptr (1,4) 0] [((1,4),b1),((1,14),b2)] [] (.d (.slice ((edg k).map sed)))) (hE:∀ k,ok k→edE (edg k)∧∀ e∈edg k,ok e.2.2)
 (H:Hf) (hb1:H 0 4=some b1) (hb2:H 0 14=some b2) :
 Ab.Spec Tryz.prog 63 [scP first,.fn (.func 58) [] [.ptr (0,4) 0],.fn (.func 59) [] [.ptr (0,4) 0],I .i64 lim] H (fun r H'=>r=.v (exR (exL fin edg lim.toNat (lim.toNat+1) 0 [first] ⟨[],[]⟩))∧H'=H):=by
 have hb:∀ (n:Nat) (tm:List (Nat × PV)) (hp:Hp),BkE ⟨n,tm,hp,H⟩ [((1,4),b1),((1,14),b2)]:=fun n tm hp=>by simp[BkE,z4k,push,hb1,hb2]
 refine z0k Tryz.func63 (by kernel_rfl) rfl (by simp) ?_
 dsimp only[Tryz.f63]
 repeat' (first|(apply z05;(first|refine z94 (by decide) rfl ?_|refine zd6 (et:=3) (a:=first) (v:=z1m 0) (py:=scP first) (q:=([]:List ((Bool × Nat) × D))) (by kernel_rfl) zra rfl rfl zrg rfl rfl rfl ?_|refine z0o ?_| (apply z09;(refine z02 z3t rfl rfl ?_))|(apply z0h;(refine z0b z2i ?_))|(apply z1q;(refine z0b z25 ?_))|(apply z1w;(refine zb3 rfl rfl rfl rfl rfl rfl rfl rfl rfl (by decide) ?_))))|(apply z08;(first|refine z0n ?_|apply z07))|(apply z06;(first|apply z0a|apply z00|apply z01)))
 refine z1s 24 1000 ?_
 refine z2z 10 0 1001 4 1 rfl rfl rfl rfl ?_
 refine z2z 10 1 1002 39 1 rfl rfl rfl rfl ?_
 generalize hres:exL fin edg lim.toNat (lim.toNat+1) 0 [first] ⟨[],[]⟩=res
 refine z1a ?_
 refine z0e (z1y (fun q:Nat × List (Bool × Nat) × Au=>⟨128,[(1,.fn (.func 58) [] [.ptr (1,4) 0]),(2,.fn (.func 59) [] [.ptr (1,4) 0]),(3,I .i64 lim),(8,.ptr (0,8) 0),(10,.ptr (0,10) 0),(11,.ref (0,20)),(12,.ref (0,1000)),(13,I .i64 (q.1:Nat))],[(20,mpS q.2.1),(1000,.row 78 2 (q.2.1.map scc)),(10,.box [.ref (0,1001),.ref (0,1002)]),(1001,.row 4 1 (q.2.2.F.map boc)),(1002,.row 39 1 (q.2.2.A.map z4a)),(8,.box [.d (.lit z30),.d (.lit z30)])],H⟩) (fun q=>q.1≤q.2.1.length∧1≤q.2.1.length∧q.2.1.length≤lim.toNat∧q.2.2.F.length=q.1∧q.2.2.A.length=q.1∧(∀ x∈q.2.1,ok x)∧exL fin edg lim.toNat (lim.toNat+1-q.1) q.1 q.2.1 q.2.2=res) (fun q=>lim.toNat+1-q.1) ?_ (0,[first],⟨[],[]⟩) ⟨Nat.zero_le _,Nat.le_refl _,by simp only[List.length_singleton];omega,rfl,rfl,fun x hx=>by rw[List.mem_singleton] at hx;rw[hx];exact hok0,hres⟩) rfl rfl
 rintro⟨i,ks,⟨F,A⟩⟩ ⟨i1,i2,i3,i4,i5,i7,i6⟩ ih
 simp only at i1 i2 i3 i4 i5 i6 i7 ih ⊢
 by_cases hlt:i<ks.length
 · obtain⟨k,hk⟩:∃ k,ks[i]? =some k:=⟨_,List.getElem?_eq_getElem hlt⟩
   obtain⟨n,hn⟩:∃ n,lim.toNat+1-i=n+1:=⟨lim.toNat-i,by omega⟩
   rw[hn,exL,hk] at i6
   simp only at i6
   have hok:=i7 k (List.mem_of_getElem? hk)
   have hff:=hfin k hok
   have hee:=hedg k hok
   obtain⟨⟨hE1,hE2⟩,hE3⟩:=hE k hok
   generalize edg k=es at *
   generalize fin k=fb at *
   repeat' (first|(apply z05;(first|refine z0o ?_| (apply z09;(refine z02 (z5l hk rfl rfl) rfl rfl ?_))|(apply z0f;(refine z02 (z3g rfl) rfl rfl ?_))|(apply z0t;(first|refine z02 (zb1 rfl) rfl rfl ?_| refine z02 (z1b rfl) rfl rfl ?_))|(apply z0u;(refine zry (first:=[]) (cap:=[.ptr (1,4) 0]) (ps:=[scP k]) hee rfl rfl (hb _ _ _) (by decide) ?_))))|(apply z08;(first|refine z0n ?_|apply z07))|(apply z06;(first|apply z0a|apply z00|apply z04|apply z01|refine z0g (fun _=>?_) (fun _=>?_)| refine z0j ?_)))
   all_goals try (exfalso;simp only[List.length_map] at *;omega)
   refine z2e 14 1003 38 3 rfl rfl rfl ?_
   refine z1a ?_
   refine z0e (z1y (fun q:Nat × List (Bool × Nat) × List Arc=>⟨128,[(1,.fn (.func 58) [] [.ptr (1,4) 0]),(2,.fn (.func 59) [] [.ptr (1,4) 0]),(3,I .i64 lim),(8,.ptr (0,8) 0),(10,.ptr (0,10) 0),(11,.ref (0,20)),(12,.ref (0,1000)),(13,I .i64 (i:Nat)),(14,.ref (0,1003)),(36,.d (.slice (es.map sed))),(37,I .i64 es.length),(38,I .i64 (q.1:Nat))],[(20,mpS q.2.1),(1000,.row 78 2 (q.2.1.map scc)),(1003,.row 38 3 (q.2.2.map z2l)),(10,.box [.ref (0,1001),.ref (0,1002)]),(1001,.row 4 1 (F.map boc)),(1002,.row 39 1 (A.map z4a)),(8,.box [.d (.lit z30),.d (.lit z30)])],H⟩) (fun q=>q.1≤es.length∧q.2.2.length≤q.1∧q.2.1.length≤ks.length+q.1∧q.2.1[i]? =some k∧(∀ y∈q.2.2,0≤y.2.1∧y.2.1≤1114111)∧(∀ x∈q.2.1,ok x)∧(es.drop q.1).foldl z5a q.2=es.foldl z5a (ks,[])) (fun q=>es.length-q.1) ?_ (0,ks,[]) ⟨Nat.zero_le _,Nat.le_refl _,Nat.le_refl _,hk,by simp,i7,rfl⟩) rfl rfl
   rintro⟨j,ks2,arcs⟩ ⟨j1,j2,j3,j4,j5,j7,j6⟩ ihj
   simp only at j1 j2 j3 j4 j5 j6 j7 ihj ⊢
   by_cases hjl:j<es.length
   · obtain⟨e,he⟩:∃ e,es[j]? =some e:=⟨_,List.getElem?_eq_getElem hjl⟩
     obtain⟨r1,r2,r3⟩:=hE2 e (List.mem_of_getElem? he)
     rw[drop_cons he,List.foldl_cons,z5a] at j6
     simp only at j6
     have hal:=z8e ks2 e.2.2
     have hln:=z8z arcs e.1 e.2.1 (z3l e.2.2 ks2:Nat)
     have ihj':=ihj (j+1,z5q ks2 e.2.2,ext arcs e.1 e.2.1 (z3l e.2.2 ks2:Nat)) ⟨by simp only;omega,by simp only;omega,by simp only;omega,by simp only;obtain⟨x,hx⟩:=z6o ks2 e.2.2;rw[hx,List.getElem?_append_left (List.getElem?_eq_some_iff.1 j4).1];exact j4,fun y hy=>by
      rcases ext_mem hy with h|h
      · omega
      · exact j5 y h,fun x hx=>by
      rcases z7q hx with h|h
      · rw[h];exact hE3 e (List.mem_of_getElem? he)
      · exact j7 x h,j6⟩ (by simp only;omega)
     have hget:=z6v e.2.2 ks2 0
     clear ihj hal
     by_cases hknown:e.2.2∈ks2
     · rw[z5q,if_pos hknown] at ihj'
       rw[if_pos hknown,Nat.zero_add] at hget
       have hget1:(z4y (z38 0 ks2) e.2.2).getD (.lit (.int .i64 0))=z1m (z3l e.2.2 ks2:Nat):=by rw[hget];rfl
       have hget2:(z4y (z38 0 ks2) e.2.2).isSome=true:=by rw[hget];rfl
       generalize z3l e.2.2 ks2=qv at *
       rcases zfn arcs with rfl|⟨m,y,rfl⟩
       · rw[ext_nil] at ihj'
         repeat' (first|(apply z05;(first|refine z0b (z4d (et:=3) (a:=e.2.2) (q:=z38 0 ks2) (z0:=Value.int .i64 0) (py:=scP e.2.2) zra (z2a (by kernel_rfl)) rfl rfl rfl zrg rfl hget1 hget2) ?_|refine z0o ?_| (apply z09;(first|refine z02 z1d rfl rfl ?_| refine z02 z27 rfl rfl ?_| refine z02 z1z rfl rfl ?_))|(apply z0d;(refine z02 z0i rfl rfl ?_))|(apply z0f;(refine z02 (z1i (ys:=es.map sed) rfl (idx he)) rfl rfl ?_))|(apply z0p;(refine z02 (z0q z1c) rfl rfl ?_))|(apply z0t;(first|refine z02 (z18 rfl) rfl rfl ?_| refine z50 (g:=z2l) rfl rfl (e.1,e.2.1,((qv:Nat):Int)) rfl rfl rfl rfl rfl rfl rfl (by decide) (by simp) ?_))|(apply z0c;(refine z23 ?_))|(apply z0h;(refine z0b z2i ?_))|(apply z0z;(refine z3s ?_))|(apply z1w;(refine z29 rfl ?_))))|(apply z08;(first|refine z0n ?_|apply z07))|(apply z06;(first|apply z0a|apply z00|refine z11 ?_| apply z04|apply z01|apply z2p|apply z03|refine z0g (fun _=>?_) (fun _=>?_)| refine z0j ?_))|(apply z2r;(first|(apply z15;refine z1o mix ?_)|refine z2y ?_| refine z2s ?_| (apply z0r;(refine z0m z1d rfl rfl ?_))|(apply z0s;(refine z0m z0i rfl rfl ?_)))))
         all_goals try (exfalso;first|omega|(simp at *;done))
         all_goals skip
         all_goals refine z1s 103 1003 ?_
         all_goals exact z0e ihj' rfl rfl
       · have hy:=j5 y (by simp)
         have hal:((m++[y]).map z2l).length=m.length+1:=by simp
         have hal2:(m++[y]).length=m.length+1:=by simp
         have hix:(m++[y])[(((((m++[y]).length:Nat):Int)-1)).toNat]? =some y:=by
          rw[hal2,show (((m.length+1:Nat):Int)-1).toNat=m.length by omega];simp
         have hse:(m++[y]).set (((((m++[y]).length:Nat):Int)-1)).toNat ((y.1,e.2.1,y.2.2):Arc)=m++[(y.1,e.2.1,y.2.2)]:=by
          rw[hal2,show (((m.length+1:Nat):Int)-1).toNat=m.length by omega];simp
         rw[z3p] at ihj'
         by_cases hj:y.2.1+1=e.1∧y.2.2=(qv:Nat)
         · have hyq:(y.1,e.2.1,((qv:Nat):Int))=((y.1,e.2.1,y.2.2):Arc):=by rw[hj.2]
           rw[if_pos hj,hyq] at ihj'
           repeat' (first|(apply z05;(first|refine z0b (z4d (et:=3) (a:=e.2.2) (q:=z38 0 ks2) (z0:=Value.int .i64 0) (py:=scP e.2.2) zra (z2a (by kernel_rfl)) rfl rfl rfl zrg rfl hget1 hget2) ?_|refine z0o ?_| (apply z09;(first|refine z02 z1d rfl rfl ?_| refine z02 z27 rfl rfl ?_| refine z02 z1z rfl rfl ?_))|(apply z0d;(first|refine z02 z0i rfl rfl ?_| refine z02 z3u rfl rfl ?_))|(apply z0f;(first|refine z02 (z1i (ys:=es.map sed) rfl (idx he)) rfl rfl ?_| refine z02 (z3g rfl) rfl rfl ?_))|(apply z0p;(first|refine z02 (z0q z1c) rfl rfl ?_| refine z02 (z22 z1c) rfl rfl ?_))|(apply z0t;(first|refine z02 (z18 rfl) rfl rfl ?_| refine z2q (g:=z2l) (e.1,e.2.1,((qv:Nat):Int)) rfl ?_))|(apply z0c;(first|refine z42 ((y.1,e.2.1,y.2.2):Arc) hix hse ?_| refine z23 ?_))|(apply z0h;(refine z0b z2i ?_))|(apply z0z;(refine z3s ?_))|(apply z1w;(refine z29 rfl ?_))))|(apply z08;(first|refine z0n ?_|apply z07))|(apply z06;(first|apply z0a|apply z00|refine z11 ?_| apply z04|apply z01|apply z2p|apply z03|refine z0g (fun _=>?_) (fun _=>?_)| refine z0j ?_))|(apply z2r;(first|(apply z15;refine z1o mix ?_)|refine z2y ?_| refine z2s ?_| (apply z0r;(first|refine z0m (z2d (u:=z3e y.2.1) hix) rfl rfl ?_| refine z0m (z2d (u:=z1m y.2.2) hix) rfl rfl ?_| refine z0m z1d rfl rfl ?_))|(apply z0s;(first|refine z0m z0i rfl rfl ?_| refine z0m z3u rfl rfl ?_))|(apply z14;(refine z0m (z3g rfl) rfl rfl ?_))|(apply z2f;(first|refine z0m (z0q (z8x (by omega) (by omega))) rfl rfl ?_| refine z0m (z22 z1c) rfl rfl ?_))|(refine z1n rfl rfl (fun hg=>?_) (fun hg=>?_) <;> simp only[hg] <;> (try simp only[decide_eq_true_eq,decide_eq_false_iff_not,Bool.not_eq_true',Bool.not_eq_false'] at hg)))))
           all_goals try (exfalso;omega)
           all_goals skip
           all_goals exact z0e ihj' rfl rfl
         · rw[if_neg hj] at ihj'
           repeat' (first|(apply z05;(first|refine z0b (z4d (et:=3) (a:=e.2.2) (q:=z38 0 ks2) (z0:=Value.int .i64 0) (py:=scP e.2.2) zra (z2a (by kernel_rfl)) rfl rfl rfl zrg rfl hget1 hget2) ?_|refine z0o ?_| (apply z09;(first|refine z02 z1d rfl rfl ?_| refine z02 z27 rfl rfl ?_| refine z02 z1z rfl rfl ?_))|(apply z0d;(first|refine z02 z0i rfl rfl ?_| refine z02 z3u rfl rfl ?_))|(apply z0f;(first|refine z02 (z1i (ys:=es.map sed) rfl (idx he)) rfl rfl ?_| refine z02 (z3g rfl) rfl rfl ?_))|(apply z0p;(first|refine z02 (z0q z1c) rfl rfl ?_| refine z02 (z22 z1c) rfl rfl ?_))|(apply z0t;(first|refine z02 (z18 rfl) rfl rfl ?_| refine z2q (g:=z2l) (e.1,e.2.1,((qv:Nat):Int)) rfl ?_))|(apply z0c;(first|refine z42 ((y.1,e.2.1,y.2.2):Arc) hix hse ?_| refine z23 ?_))|(apply z0h;(refine z0b z2i ?_))|(apply z0z;(refine z3s ?_))|(apply z1w;(refine z29 rfl ?_))))|(apply z08;(first|refine z0n ?_|apply z07))|(apply z06;(first|apply z0a|apply z00|refine z11 ?_| apply z04|apply z01|apply z2p|apply z03|refine z0g (fun _=>?_) (fun _=>?_)| refine z0j ?_))|(apply z2r;(first|(apply z15;refine z1o mix ?_)|refine z2y ?_| refine z2s ?_| (apply z0r;(first|refine z0m (z2d (u:=z3e y.2.1) hix) rfl rfl ?_| refine z0m (z2d (u:=z1m y.2.2) hix) rfl rfl ?_| refine z0m z1d rfl rfl ?_))|(apply z0s;(first|refine z0m z0i rfl rfl ?_| refine z0m z3u rfl rfl ?_))|(apply z14;(refine z0m (z3g rfl) rfl rfl ?_))|(apply z2f;(first|refine z0m (z0q (z8x (by omega) (by omega))) rfl rfl ?_| refine z0m (z22 z1c) rfl rfl ?_))|(refine z1n rfl rfl (fun hg=>?_) (fun hg=>?_) <;> simp only[hg] <;> (try simp only[decide_eq_true_eq,decide_eq_false_iff_not,Bool.not_eq_true',Bool.not_eq_false'] at hg)))))
           all_goals try (exfalso;omega)
           all_goals skip
           all_goals refine z1s 103 1003 ?_
           all_goals exact z0e ihj' rfl rfl
     · rw[z5q,if_neg hknown,z3o hknown] at ihj'
       rw[z3o hknown] at hln
       rw[if_neg hknown] at hget
       have hget1:(z4y (z38 0 ks2) e.2.2).getD (.lit (.int .i64 0))=z1m 0:=by rw[hget];rfl
       have hget2:(z4y (z38 0 ks2) e.2.2).isSome=false:=by rw[hget];rfl
       have hput:=z8b hknown
       dsimp only[mpS] at ihj'
       rw[← hput] at ihj'
       rcases zfn arcs with rfl|⟨m,y,rfl⟩
       · rw[ext_nil] at ihj'
         repeat' (first|(apply z05;(first|refine z0b (z4d (et:=3) (a:=e.2.2) (q:=z38 0 ks2) (z0:=Value.int .i64 0) (py:=scP e.2.2) zra (z2a (by kernel_rfl)) rfl rfl rfl zrg rfl hget1 hget2) ?_|refine z0o ?_| (apply z09;(first|refine z02 z1d rfl rfl ?_| refine z02 z27 rfl rfl ?_| refine z02 z1z rfl rfl ?_))|(apply z0d;(refine z02 z0i rfl rfl ?_))|(apply z0f;(refine z02 (z1i (ys:=es.map sed) rfl (idx he)) rfl rfl ?_))|(apply z0p;(refine z02 (z0q z1c) rfl rfl ?_))|(apply z0t;(first|refine z02 (z18 rfl) rfl rfl ?_| refine z2q (g:=scc) e.2.2 rfl ?_| refine z50 (g:=z2l) rfl rfl (e.1,e.2.1,((ks2.length:Nat):Int)) rfl rfl rfl rfl rfl rfl rfl (by decide) (by simp) ?_))|(apply z0c;(refine z23 ?_))|(apply z0h;(refine z0b z2i ?_))|(apply z0z;(refine z3s ?_))|(apply z1w;(refine z29 rfl ?_))|refine z3y (et:=3) (a:=e.2.2) (v:=z1m (ks2.length:Nat)) (py:=scP e.2.2) (q:=z38 0 ks2) (by kernel_rfl) zra rfl rfl zrg rfl rfl rfl ?_))|(apply z08;(first|refine z0n ?_|apply z07))|(apply z06;(first|apply z0a|apply z00|refine z1h ?_| refine z11 ?_| apply z04|apply z01|apply z2p|apply z03|refine z0g (fun _=>?_) (fun _=>?_)| refine z0j ?_))|(apply z2r;(first|(apply z15;refine z1o mix ?_)|refine z2y ?_| refine z2s ?_| (apply z0r;(refine z0m z1d rfl rfl ?_))|(apply z0s;(refine z0m z0i rfl rfl ?_)))))
         all_goals try (exfalso;first|omega|(simp at *;done))
         all_goals refine z1s 61 1000 ?_
         all_goals refine z1s 103 1003 ?_
         all_goals exact z0e ihj' rfl rfl
       · have hy:=j5 y (by simp)
         have hal:((m++[y]).map z2l).length=m.length+1:=by simp
         have hal2:(m++[y]).length=m.length+1:=by simp
         have hix:(m++[y])[(((((m++[y]).length:Nat):Int)-1)).toNat]? =some y:=by
          rw[hal2,show (((m.length+1:Nat):Int)-1).toNat=m.length by omega];simp
         have hse:(m++[y]).set (((((m++[y]).length:Nat):Int)-1)).toNat ((y.1,e.2.1,y.2.2):Arc)=m++[(y.1,e.2.1,y.2.2)]:=by
          rw[hal2,show (((m.length+1:Nat):Int)-1).toNat=m.length by omega];simp
         rw[z3p] at ihj'
         by_cases hj:y.2.1+1=e.1∧y.2.2=(ks2.length:Nat)
         · have hyq:(y.1,e.2.1,((ks2.length:Nat):Int))=((y.1,e.2.1,y.2.2):Arc):=by rw[hj.2]
           rw[if_pos hj,hyq] at ihj'
           repeat' (first|(apply z05;(first|refine z0b (z4d (et:=3) (a:=e.2.2) (q:=z38 0 ks2) (z0:=Value.int .i64 0) (py:=scP e.2.2) zra (z2a (by kernel_rfl)) rfl rfl rfl zrg rfl hget1 hget2) ?_|refine z0o ?_| (apply z09;(first|refine z02 z1d rfl rfl ?_| refine z02 z27 rfl rfl ?_| refine z02 z1z rfl rfl ?_))|(apply z0d;(first|refine z02 z0i rfl rfl ?_| refine z02 z3u rfl rfl ?_))|(apply z0f;(first|refine z02 (z1i (ys:=es.map sed) rfl (idx he)) rfl rfl ?_| refine z02 (z3g rfl) rfl rfl ?_))|(apply z0p;(first|refine z02 (z0q z1c) rfl rfl ?_| refine z02 (z22 z1c) rfl rfl ?_))|(apply z0t;(first|refine z02 (z18 rfl) rfl rfl ?_| refine z2q (g:=scc) e.2.2 rfl ?_| refine z2q (g:=z2l) (e.1,e.2.1,((ks2.length:Nat):Int)) rfl ?_))|(apply z0c;(first|refine z42 ((y.1,e.2.1,y.2.2):Arc) hix hse ?_| refine z23 ?_))|(apply z0h;(refine z0b z2i ?_))|(apply z0z;(refine z3s ?_))|(apply z1w;(refine z29 rfl ?_))|refine z3y (et:=3) (a:=e.2.2) (v:=z1m (ks2.length:Nat)) (py:=scP e.2.2) (q:=z38 0 ks2) (by kernel_rfl) zra rfl rfl zrg rfl rfl rfl ?_))|(apply z08;(first|refine z0n ?_|apply z07))|(apply z06;(first|apply z0a|apply z00|refine z1h ?_| refine z11 ?_| apply z04|apply z01|apply z2p|apply z03|refine z0g (fun _=>?_) (fun _=>?_)| refine z0j ?_))|(apply z2r;(first|(apply z15;refine z1o mix ?_)|refine z2y ?_| refine z2s ?_| (apply z0r;(first|refine z0m (z2d (u:=z3e y.2.1) hix) rfl rfl ?_| refine z0m (z2d (u:=z1m y.2.2) hix) rfl rfl ?_| refine z0m z1d rfl rfl ?_))|(apply z0s;(first|refine z0m z0i rfl rfl ?_| refine z0m z3u rfl rfl ?_))|(apply z14;(refine z0m (z3g rfl) rfl rfl ?_))|(apply z2f;(first|refine z0m (z0q (z8x (by omega) (by omega))) rfl rfl ?_| refine z0m (z22 z1c) rfl rfl ?_))|(refine z1n rfl rfl (fun hg=>?_) (fun hg=>?_) <;> simp only[hg] <;> (try simp only[decide_eq_true_eq,decide_eq_false_iff_not,Bool.not_eq_true',Bool.not_eq_false'] at hg)))))
           all_goals try (exfalso;omega)
           all_goals refine z1s 61 1000 ?_
           all_goals exact z0e ihj' rfl rfl
         · rw[if_neg hj] at ihj'
           repeat' (first|(apply z05;(first|refine z0b (z4d (et:=3) (a:=e.2.2) (q:=z38 0 ks2) (z0:=Value.int .i64 0) (py:=scP e.2.2) zra (z2a (by kernel_rfl)) rfl rfl rfl zrg rfl hget1 hget2) ?_|refine z0o ?_| (apply z09;(first|refine z02 z1d rfl rfl ?_| refine z02 z27 rfl rfl ?_| refine z02 z1z rfl rfl ?_))|(apply z0d;(first|refine z02 z0i rfl rfl ?_| refine z02 z3u rfl rfl ?_))|(apply z0f;(first|refine z02 (z1i (ys:=es.map sed) rfl (idx he)) rfl rfl ?_| refine z02 (z3g rfl) rfl rfl ?_))|(apply z0p;(first|refine z02 (z0q z1c) rfl rfl ?_| refine z02 (z22 z1c) rfl rfl ?_))|(apply z0t;(first|refine z02 (z18 rfl) rfl rfl ?_| refine z2q (g:=scc) e.2.2 rfl ?_| refine z2q (g:=z2l) (e.1,e.2.1,((ks2.length:Nat):Int)) rfl ?_))|(apply z0c;(first|refine z42 ((y.1,e.2.1,y.2.2):Arc) hix hse ?_| refine z23 ?_))|(apply z0h;(refine z0b z2i ?_))|(apply z0z;(refine z3s ?_))|(apply z1w;(refine z29 rfl ?_))|refine z3y (et:=3) (a:=e.2.2) (v:=z1m (ks2.length:Nat)) (py:=scP e.2.2) (q:=z38 0 ks2) (by kernel_rfl) zra rfl rfl zrg rfl rfl rfl ?_))|(apply z08;(first|refine z0n ?_|apply z07))|(apply z06;(first|apply z0a|apply z00|refine z1h ?_| refine z11 ?_| apply z04|apply z01|apply z2p|apply z03|refine z0g (fun _=>?_) (fun _=>?_)| refine z0j ?_))|(apply z2r;(first|(apply z15;refine z1o mix ?_)|refine z2y ?_| refine z2s ?_| (apply z0r;(first|refine z0m (z2d (u:=z3e y.2.1) hix) rfl rfl ?_| refine z0m (z2d (u:=z1m y.2.2) hix) rfl rfl ?_| refine z0m z1d rfl rfl ?_))|(apply z0s;(first|refine z0m z0i rfl rfl ?_| refine z0m z3u rfl rfl ?_))|(apply z14;(refine z0m (z3g rfl) rfl rfl ?_))|(apply z2f;(first|refine z0m (z0q (z8x (by omega) (by omega))) rfl rfl ?_| refine z0m (z22 z1c) rfl rfl ?_))|(refine z1n rfl rfl (fun hg=>?_) (fun hg=>?_) <;> simp only[hg] <;> (try simp only[decide_eq_true_eq,decide_eq_false_iff_not,Bool.not_eq_true',Bool.not_eq_false'] at hg)))))
           all_goals try (exfalso;omega)
           all_goals refine z1s 61 1000 ?_
           all_goals refine z1s 103 1003 ?_
           all_goals exact z0e ihj' rfl rfl
   · obtain rfl:j=es.length:=by omega
     rw[List.drop_length,List.foldl_nil] at j6
     rw[← j6] at i6
     simp only at i6
     have hi2:=(List.getElem?_eq_some_iff.1 j4).1
     refine z1g 1003 rfl ?_
     by_cases hlim:lim.toNat<ks2.length
     · rw[if_pos hlim] at i6
       rw[← i6]
       repeat' (first|(apply z05;(first|refine z0o ?_| (apply z0t;(refine z02 (z18 rfl) rfl rfl ?_))|(apply z0c;(refine z23 ?_))|(apply z0z;(refine z3s ?_))))|(apply z08;(first|refine z0n ?_|apply z07))|(apply z06;(first|apply z0a|apply z00|apply z04|apply z01|apply z2p|refine z0g (fun _=>?_) (fun _=>?_)| refine z0j ?_))|(apply z2r;(first|refine z2s ?_| (apply z0r;(refine z0m z1d rfl rfl ?_))|(apply z0s;(refine z0m z0i rfl rfl ?_)))))
       all_goals try (exfalso;omega)
       all_goals exact z0l Tryz.func63 _ (z0x rfl rfl rfl rfl rfl rfl rfl) ⟨rfl,rfl⟩
     · rw[if_neg hlim] at i6
       have ih':=ih (i+1,ks2,⟨F++[fb],A++[arcs]⟩) ⟨by simp only;omega,by simp only;omega,by simp only;omega,by simp[i4],by simp[i5],j7,by rw[← i6];simp only;rw[show lim.toNat+1-(i+1)=n by omega]⟩ (by simp only;omega)
       simp only at ih'
       repeat' (first|(apply z05;(first|refine z0o ?_| (apply z09;(refine z02 z1d rfl rfl ?_))|(apply z0d;(refine z02 z0i rfl rfl ?_))|(apply z0p;(refine z02 (z0q z1c) rfl rfl ?_))|(apply z0t;(first|refine z02 (z18 rfl) rfl rfl ?_| refine z2q (g:=z4a) arcs rfl ?_))|(apply z0c;(refine z23 ?_))|(apply z0z;(refine z3s ?_))|(apply z1w;(refine z29 rfl ?_))))|(apply z08;(first|refine z0n ?_|apply z07))|(apply z06;(first|apply z0a|apply z00|apply z04|apply z01|apply z2p|apply z03|refine z0g (fun _=>?_) (fun _=>?_)| refine z0j ?_))|(apply z2r;(first|(apply z15;refine z1o mix ?_)|refine z2s ?_| (apply z0r;(first|refine z0m (z5l j4 rfl rfl) rfl rfl ?_| refine z0m z1d rfl rfl ?_))|(apply z0s;(refine z0m z0i rfl rfl ?_))|(apply z14;(refine z0m (z1v rfl (by omega) (by simp only[List.length_map];omega) rfl) rfl rfl ?_))|(apply z47;(refine z5y (g:=boc) (by first|exact rfl|exact⟨_,rfl,rfl,rfl⟩) rfl rfl fb rfl rfl rfl rfl rfl rfl rfl (by decide) (by omega) ?_))|(apply z3a;(refine ztv (first:=[]) (cap:=[.ptr (1,4) 0]) (ps:=[scP k]) hff (by first|exact rfl|exact⟨_,rfl,rfl,rfl⟩) rfl rfl (hb _ _ _) (by decide) ?_))|(apply z36;(refine z89 (by first|exact rfl|exact⟨_,rfl,rfl,rfl⟩) rfl rfl rfl rfl rfl ?_))|(apply z5j;(refine z8u rfl ?_)))))
       all_goals try (exfalso;omega)
       all_goals refine z1s 119 1001 ?_
       all_goals refine z1s 125 1002 ?_
       all_goals exact z0e ih' rfl rfl
 · obtain rfl:i=ks.length:=by omega
   obtain⟨n,hn⟩:∃ n,lim.toNat+1-ks.length=n+1:=⟨lim.toNat-ks.length,by omega⟩
   rw[hn,exL,List.getElem?_eq_none (Nat.le_refl _)] at i6
   simp only at i6
   rw[← i6]
   refine z1g 1001 rfl ?_
   refine z1g 1002 rfl ?_
   repeat' (first|(apply z05;(first|refine z0o ?_| (apply z09;(refine z02 z1z rfl rfl ?_))|(apply z0t;(refine z02 (z18 rfl) rfl rfl ?_))|(apply z0c;(refine z23 ?_))))|(apply z08;(first|refine z0n ?_|apply z07))|(apply z06;(first|apply z0a|apply z00|apply z04|apply z01|refine z0g (fun _=>?_) (fun _=>?_)| refine z0j ?_)))
   all_goals try (exfalso;omega)
   all_goals exact z0l Tryz.func63 _ (z0x rfl rfl rfl rfl rfl rfl rfl) ⟨rfl,rfl⟩
end Go.Proofs.YthdfkabdoidjfaaGreatDoor
namespace Go.Proofs.YthdfkabdoidjfaaGreatDoor
open Go.Ab Go.Ax Go.Rx
set_option maxHeartbeats 20000000
set_option maxRecDepth 100000
attribute [local irreducible] Run Ops Op1 z2b Val Tr z0v z2c NF Rel z3w z3x
section
variable (lv:List (List Rg)) (f l:Nat) (fo:List Nat) (nu:Bool)
abbrev bsC:List (Nm × Blk):=[((1,4),.box [.ptr (0,14) 0]),((1,14),tbx lv f l fo nu)]
theorem zyb (k:Bool × Nat) (hk:k.2<2 ^ 64) (hl:l<2 ^ 64):z2c Tryz.prog 58 [scP k,.ptr (1,4) 0] (bsC lv f l fo nu) [] (B ((k.1&&nu)||decide (k.2 &&& l≠0))):=by
 refine z2n fun H hH=>?_
 have h4:H 1 4=some (.box [.ptr (0,14) 0]):=hH ((1,4),.box [.ptr (0,14) 0]) (by simp)
 have h14:H 1 14=some (tbx lv f l fo nu):=hH ((1,14),tbx lv f l fo nu) (by simp)
 obtain⟨b,S⟩:=k
 have hfin:(!decide (zys .u64 (S:Nat) (l:Nat)=0))=decide (S &&& l≠0):=by
  rw[zzk hk hl,← decide_not]
  exact decide_eq_decide.2 (by rw[Ne,not_congr];exact_mod_cast Iff.rfl)
 simp only[← hfin]
 refine z0k Tryz.func58 (by kernel_rfl) rfl (by simp) ?_
 dsimp only[Tryz.f58]
 cases b <;> cases nu
 all_goals repeat' (first|(apply z05;(first|refine z0o ?_| (apply z1q;(refine z0b z25 ?_))))|(apply z08;(first|refine z0n ?_|apply z07))|(apply z06;(first|apply z0a|apply z00|apply z2p))|(apply z2r;(first|(apply z15;refine z1o mix ?_)|refine z2y ?_| refine z2s ?_| (apply z0r;(first|refine za8 (by first|exact rfl|exact⟨_,rfl,rfl,rfl⟩) rfl h14 rfl rfl rfl rfl (by decide) ?_|refine za8 (by first|exact rfl|exact⟨_,rfl,rfl,rfl⟩) rfl h4 rfl rfl rfl rfl (by decide) ?_|refine z0m z1d rfl rfl ?_))|(apply z0s;(refine z0m z0i rfl rfl ?_))|(apply z2f;(refine z0m z8n rfl rfl ?_)))))
 all_goals exact z0l Tryz.func58 _ z16 ⟨rfl,rfl⟩
def z9z (N:Nat):Nat→List (List Rg)→List (List Rg)
 | _,[]=>[]
 | k,r::ls=>if N.testBit k=true then r::z9z N (k+1) ls else z9z N (k+1) ls
theorem zqj (N:Nat) {lv:List (List Rg)} {k:Nat} {r:List Rg} (hr:lv[k]? =some r):z9z N k (lv.drop k)=(if N.testBit k=true then [r] else [])++z9z N (k+1) (lv.drop (k+1)):=by
 obtain⟨h1,h2⟩:=List.getElem?_eq_some_iff.1 hr
 rw[List.drop_eq_getElem_cons h1,h2,z9z]
 split <;> simp
theorem z96 (N:Nat):∀ (lv:List (List Rg)) (k:Nat),∀ r∈z9z N k lv,r∈lv
 | [],_,r,h=>by simp[z9z] at h
 | x::ls,k,r,h=>by
  rw[z9z] at h
  split at h
  · rcases List.mem_cons.1 h with rfl|h
    · simp
    · exact List.mem_cons_of_mem _ (z96 N ls _ r h)
  · exact List.mem_cons_of_mem _ (z96 N ls _ r h)
theorem zkg (N:Nat):∀ (lv:List (List Rg)) (k:Nat),(z9z N k lv).length≤lv.length
 | [],_=>by simp[z9z]
 | x::ls,k=>by
  have:=zkg N ls (k+1)
  rw[z9z];split <;> simp <;> omega
def nxN (f:Nat) (fo:List Nat) (k:Bool × Nat):Nat:=if k.1=true then f else nxF k.2 0 0 fo
def zyo (N:Nat) (lv:List (List Rg)) (c:Int):Nat:=rdF (fun c l=>inR l c) c N 0 0 lv
def cE (N:Nat) (lv:List (List Rg)) (pts:List Int) (i:Nat):Option (Go.Ax.Edge (Bool × Nat)) :=
 if zyo N lv (pts.getD i 0)=0 then none else some (pts.getD i 0,pts.getD (i+1) 0-1,(false,zyo N lv (pts.getD i 0)))
def zgs (N:Nat) (lv:List (List Rg)):List Int:=z8y (z9z N 0 lv)
def zdg (N:Nat) (lv:List (List Rg)):List (Go.Ax.Edge (Bool × Nat)):=(List.range ((zgs N lv).length-1)).filterMap (cE N lv (zgs N lv))
theorem zxu {M:Nat} (hS:zd0 M) (hM:M≤200000000) (k:Bool × Nat) (hk:k.2<2 ^ 64) (hf:f<2 ^ 64) (hfo:fo.length=lv.length) (hl64:lv.length≤64) (hfx:∀ x∈fo,x<2 ^ 64) (hlr:∀ r∈lv,∀ x∈r,0≤x.1∧x.1≤1114111∧0≤x.2∧x.2≤1114111) (hln:∀ r∈lv,r.length≤200000000)
 (hsz:∀ N:Nat,(z68 (z9z N 0 lv)).length≤M) :
 z2c Tryz.prog 59 [scP k,.ptr (1,4) 0] (bsC lv f l fo nu) [] (.d (.slice ((zdg (nxN f fo k) lv).map sed))):=by
 refine z2n fun H hH=>?_
 have h4:H 1 4=some (.box [.ptr (0,14) 0]):=hH ((1,4),.box [.ptr (0,14) 0]) (by simp)
 have h14:H 1 14=some (tbx lv f l fo nu):=hH ((1,14),tbx lv f l fo nu) (by simp)
 obtain⟨b,S⟩:=k
 have hnx:=zs7 (X:=14) lv f l fo nu S hk (by omega) hfx b 2
 change z2c Tryz.prog 60 [.ptr (2,14) 0,I .u64 (S:Nat),B b] [((2,14),tbx lv f l fo nu)] [] (I .u64 ((nxN f fo (b,S):Nat):Int)) at hnx
 have hNl:nxN f fo (b,S)<2 ^ 64:=by
  rw[nxN]
  split
  · exact hf
  · exact zvg S fo 0 0 (by decide) hfx
 generalize nxN f fo (b,S)=N at *
 have hrr:∀ r∈z9z N 0 lv,∀ x∈r,0≤x.1∧x.1≤1114111∧0≤x.2∧x.2≤1114111:=fun r hr=>hlr r (z96 N lv 0 r hr)
 have hal:=zkg N lv 0
 have hcuts:=zvb hS (z9z N 0 lv) (hsz N) hM hrr (by omega) (fun r hr=>hln r (z96 N lv 0 r hr))
 have hpr:=zbv hrr
 have hpl:=zkh (z9z N 0 lv)
 have hpl2:(z8y (z9z N 0 lv)).length≤200000000:=by have:=zph (Go.Ax.srt (z68 (z9z N 0 lv)));rw[Go.Ax.zi1] at this;have:=hsz N;rw[z8y];omega
 have hEq:zdg N lv=(List.range ((zgs N lv).length-1)).filterMap (cE N lv (zgs N lv)):=rfl
 rw[hEq]
 change z0v Tryz.prog 61 [.d (lvs (z9z N 0 lv))] (.d (.slice ((zgs N lv).map rcc))) at hcuts
 change ∀ z∈zgs N lv,0≤z∧z≤1114112 at hpr
 change 1≤(zgs N lv).length at hpl
 change (zgs N lv).length≤200000000 at hpl2
 generalize zgs N lv=pts at *
 clear hEq
 refine z0k Tryz.func59 (by kernel_rfl) rfl (by simp) ?_
 dsimp only[Tryz.f59]
 repeat' (first|(apply z05;(first|refine z0o ?_| (apply z09;(first|refine z3f rfl h14 rfl rfl rfl rfl (by decide) ?_|refine z3f rfl h4 rfl rfl rfl rfl (by decide) ?_|refine z02 z1d rfl rfl ?_))|(apply z0d;(refine z02 z0i rfl rfl ?_))|(apply z0t;(refine z02 (z1b rfl) rfl rfl ?_))|(apply z0u;(refine z3i hnx rfl (bkN h14) (by decide) ?_))|(apply z1q;(refine z0b z25 ?_))))|(apply z08;(first|refine z0n ?_|apply z07))|(apply z06;(first|apply z0a|apply z00|apply z01)))
 all_goals try (exfalso;omega)
 refine z2e 5 1001 41 1 rfl rfl rfl ?_
 refine z1a ?_
 refine z0e (z1y (fun q:Nat × List (List Rg)=>⟨99,[(1,.ptr (2,4) 0),(2,.ptr (0,2) 0),(3,.d (.lit z30)),(4,I .u64 (N:Nat)),(5,.ref (0,1001)),(23,.d (lvs lv)),(24,I .i64 lv.length),(25,I .i64 (q.1:Nat))],[(1001,.row 41 1 (q.2.map fun r=>[rgs r]))],H⟩) (fun q=>q.1≤lv.length∧q.2.length≤q.1∧q.2++z9z N q.1 (lv.drop q.1)=z9z N 0 lv) (fun q=>lv.length-q.1) ?_ (0,[]) ⟨Nat.zero_le _,Nat.le_refl _,rfl⟩) rfl rfl
 rintro⟨i,acc⟩ ⟨i1,i2,i3⟩ ih
 simp only at i1 i2 i3 ih ⊢
 by_cases hlt:i<lv.length
 · obtain⟨r,hr⟩:∃ r,lv[i]? =some r:=⟨_,List.getElem?_eq_getElem hlt⟩
   have hbt:=zsm (S:=N) (i:=i) hNl (by omega)
   rw[zqj N hr] at i3
   by_cases htb:N.testBit i=true
   · rw[if_pos htb] at hbt i3
     have ih':=ih (i+1,acc++[r]) ⟨by simp only;omega,by simp;omega,by simp only;rw[← i3,List.append_assoc]⟩ (by simp only;omega)
     repeat' (first|(apply z05;(first|refine z0o ?_| (apply z09;(refine z02 z1p rfl rfl ?_))|(apply z0f;(refine z02 (z1i (ys:=lv.map fun r=>[rgs r]) rfl (idx (g:=fun r=>[rgs r]) hr)) rfl rfl ?_))|(apply z0p;(first|refine z02 (zcg (by omega)) rfl rfl ?_| refine z02 z8n rfl rfl ?_| refine z02 (z0q z1c) rfl rfl ?_))|(apply z0t;(refine z2q (g:=fun r:List Rg=>[rgs r]) r rfl ?_))|(apply z1w;(refine z29 rfl ?_))))|(apply z08;(first|refine z0n ?_|apply z07))|(apply z06;(first|apply z0a|apply z00|apply z04|apply z01|apply z03|refine z0g (fun _=>?_) (fun _=>?_)| refine z0j ?_)))
     all_goals try (exfalso;omega)
     all_goals refine z1s 38 1001 ?_
     all_goals exact z0e ih' rfl rfl
   · rw[if_neg htb] at hbt i3
     have ih':=ih (i+1,acc) ⟨by simp only;omega,by simp only;omega,by simp only;rw[← i3,List.nil_append]⟩ (by simp only;omega)
     repeat' (first|(apply z05;(first|refine z0o ?_| (apply z09;(refine z02 z1p rfl rfl ?_))|(apply z0f;(refine z02 (z1i (ys:=lv.map fun r=>[rgs r]) rfl (idx (g:=fun r=>[rgs r]) hr)) rfl rfl ?_))|(apply z0p;(first|refine z02 (zcg (by omega)) rfl rfl ?_| refine z02 z8n rfl rfl ?_| refine z02 (z0q z1c) rfl rfl ?_))|(apply z0t;(refine z2q _ rfl ?_))|(apply z1w;(refine z29 rfl ?_))))|(apply z08;(first|refine z0n ?_|apply z07))|(apply z06;(first|apply z0a|apply z00|apply z04|apply z01|apply z03|refine z0g (fun _=>?_) (fun _=>?_)| refine z0j ?_)))
     all_goals try (exfalso;omega)
     all_goals exact z0e ih' rfl rfl
 · obtain rfl:i=lv.length:=by omega
   rw[List.drop_length,z9z,List.append_nil] at i3
   subst i3
   clear ih
   refine z1g 1001 rfl ?_
   repeat' (first|(apply z05;(first|refine z0o ?_| (apply z0p;(refine z02 (z22 z1c) rfl rfl ?_))|(apply z0t;(refine z02 (z1b rfl) rfl rfl ?_))|(apply z0u;(refine z1j hcuts ?_))))|(apply z08;(first|refine z0n ?_|apply z07))|(apply z06;(first|apply z0a|apply z00|apply z04|apply z01|refine z0g (fun _=>?_) (fun _=>?_)| refine z0j ?_)))
   all_goals try (exfalso;omega)
   refine z2e 8 1002 89 4 rfl rfl rfl ?_
   refine z1a ?_
   refine z0e (z1y (fun q:Nat=>⟨99,[(1,.ptr (2,4) 0),(3,.d (.lit z30)),(4,I .u64 (N:Nat)),(8,.ref (0,1002)),(9,.d (.slice (pts.map rcc))),(44,I .i64 ((pts.length:Int)-1)),(45,I .i64 (q:Nat))],[(1002,.row 89 4 (((List.range q).filterMap (cE N lv pts)).map sed))],H⟩) (fun q=>q≤pts.length-1) (fun q=>pts.length-1-q) ?_ 0 (Nat.zero_le _)) rfl rfl
   intro i hi ih
   by_cases hlt2:i<pts.length-1
   · obtain⟨x,hx⟩:∃ x,pts[i]? =some x:=⟨_,List.getElem?_eq_getElem (by omega)⟩
     obtain⟨y,hy⟩:∃ y,pts[i+1]? =some y:=⟨_,List.getElem?_eq_getElem (by omega)⟩
     have hyi:pts[(((i:Nat):Int)+1).toNat]? =some y:=by rw[show (((i:Nat):Int)+1).toNat=i+1 by omega];exact hy
     have hxr:=hpr x (List.mem_of_getElem? hx)
     have hyr:=hpr y (List.mem_of_getElem? hy)
     have hfl:=z55 (cE N lv pts) (List.range i)
     rw[List.length_range] at hfl
     have ih':=ih (i+1) (by omega) (by omega)
     have hstep:(List.range (i+1)).filterMap (cE N lv pts)=(List.range i).filterMap (cE N lv pts)++(cE N lv pts i).toList:=by
      rw[List.range_succ,List.filterMap_append];simp[List.filterMap_cons];cases cE N lv pts i <;> rfl
     rw[hstep,cE,z2g hx,z2g hy] at ih'
     clear ih hstep
     generalize (List.range i).filterMap (cE N lv pts)=out at *
     obtain⟨m,hm⟩:∃ m,zyo N lv x=m:=⟨_,rfl⟩
     have hml:m<2 ^ 64:=by rw[← hm];exact zvc _ _ _ hl64 (by decide)
     rw[hm] at ih'
     rw[zyo] at hm
     repeat' (first|(apply z05;(first|refine z0o ?_| (apply z09;(first|refine z3f rfl h14 rfl rfl rfl rfl (by decide) ?_|refine z3f rfl h4 rfl rfl rfl rfl (by decide) ?_))|(apply z0d;(refine z02 z0i rfl rfl ?_))|(apply z0t;(refine z02 (z1b rfl) rfl rfl ?_))|(apply z0c;(refine z23 ?_))|(apply z0h;(refine z0b z2i ?_))|(apply z0z;(refine z3s ?_))))|(apply z08;(first|refine z0n ?_|apply z07))|(apply z06;(first|apply z0a|apply z00|apply z04|apply z01|refine z0g (fun _=>?_) (fun _=>?_)| refine z0j ?_)))
     all_goals try (exfalso;first|omega|(simp at *;done))
     refine z1a ?_
     refine z0e (z1y (fun q:Nat × Nat=>⟨99,[(1,.ptr (2,4) 0),(3,.d (.lit z30)),(4,I .u64 (N:Nat)),(8,.ref (0,1002)),(9,.d (.slice (pts.map rcc))),(10,I .i64 (i:Nat)),(11,.ptr (0,11) 0),(44,I .i64 ((pts.length:Int)-1)),(45,I .i64 (i:Nat)),(52,.d (lvs lv)),(53,I .i64 lv.length),(54,I .i64 (q.1:Nat))],[(1002,.row 89 4 (out.map sed)),(11,.box [B false,I .u64 (q.2:Nat)])],H⟩) (fun q=>q.1≤lv.length∧q.2<2 ^ 64∧rdF (fun c l=>inR l c) x N q.1 q.2 (lv.drop q.1)=m) (fun q=>lv.length-q.1) ?_ (0,0) ⟨Nat.zero_le _,by decide,hm⟩) rfl rfl
     rintro⟨k,B'⟩ ⟨n1,n2,n3⟩ ihn
     simp only at n1 n2 n3 ihn ⊢
     by_cases hk2:k<lv.length
     · obtain⟨r,hr⟩:∃ r,lv[k]? =some r:=⟨_,List.getElem?_eq_getElem hk2⟩
       have hcl:=zi6 r (by have:=hln r (List.mem_of_getElem? hr);omega) x
       rw[zsc _ _ _ hr] at n3
       have hbt:=zsm (S:=N) (i:=k) hNl (by omega)
       have hsh:=y0d (i:=k) (by omega)
       have hp2:2 ^ k<2 ^ 64:=Nat.pow_lt_pow_right (by decide) (by omega)
       have hor:=y00 n2 hp2
       rw[← hsh] at hor
       rw[zxq] at hcl
       by_cases htb:N.testBit k=true
       · rw[if_pos htb] at hbt
         cases hin:inR r x with
         | true =>
          rw[if_pos ⟨htb,hin⟩] at n3
          rw[hin] at hcl
          have ihn':=ihn (k+1,B' ||| 2 ^ k) ⟨by simp only;omega,Nat.or_lt_two_pow n2 hp2,n3⟩ (by simp only;omega)
          dsimp only at ihn'
          rw[← hor] at ihn'
          repeat' (first|(apply z05;(first|refine z0o ?_| (apply z09;(first|refine z02 z1d rfl rfl ?_| refine z02 z1p rfl rfl ?_))|(apply z0d;(refine z02 z0i rfl rfl ?_))|(apply z0f;(first|refine z02 (z1i (ys:=lv.map fun r=>[rgs r]) rfl (idx (g:=fun r=>[rgs r]) hr)) rfl rfl ?_| refine z02 (z1i (ys:=pts.map rcc) rfl (idx (g:=rcc) hx)) rfl rfl ?_))|(apply z0p;(first|refine z02 (zcg (by omega)) rfl rfl ?_| refine z02 z8n rfl rfl ?_| refine z02 (z0q z1c) rfl rfl ?_))|(apply z0u;(refine z1j hcl ?_))))|(apply z08;(first|refine z0n ?_|apply z07|refine z1r ?_| refine z2h (fun _=>?_) (fun _=>?_)))|(apply z06;(first|apply z0a|apply z00|refine z1h ?_| refine z11 ?_| apply z04|apply z01|apply z2p|apply z03|refine z0g (fun _=>?_) (fun _=>?_)| refine z3z rfl (fun _=>?_) (fun _=>?_)|refine z0j ?_))|(apply z2r;(first|(apply z15;refine z1o mix ?_)|refine z2s ?_| (apply z0r;(first|refine z0m z1d rfl rfl ?_| refine z0m z1p rfl rfl ?_))|(apply z0s;(refine z0m z0i rfl rfl ?_))|(apply z14;(first|refine z0m (z1i (ys:=pts.map rcc) rfl (idx (g:=rcc) hx)) rfl rfl ?_| refine z0m (z1i rfl (idx hy)) rfl rfl ?_))|(apply z2f;(first|refine z0m (zxz (by omega)) rfl rfl ?_| refine z0m zh1 rfl rfl ?_| refine z0m (z0q z1c) rfl rfl ?_))|(apply z36;(refine z5b (by first|exact rfl|exact⟨_,rfl,rfl,rfl⟩) rfl rfl rfl rfl rfl rfl ?_)))))
          all_goals try (exfalso;omega)
          all_goals exact z0e ihn' rfl rfl
         | false =>
          rw[if_neg (fun h=>by rw[hin] at h;cases h.2)] at n3
          rw[hin] at hcl
          have ihn':=ihn (k+1,B') ⟨by simp only;omega,n2,n3⟩ (by simp only;omega)
          repeat' (first|(apply z05;(first|refine z0o ?_| (apply z09;(first|refine z02 z1d rfl rfl ?_| refine z02 z1p rfl rfl ?_))|(apply z0d;(refine z02 z0i rfl rfl ?_))|(apply z0f;(first|refine z02 (z1i (ys:=lv.map fun r=>[rgs r]) rfl (idx (g:=fun r=>[rgs r]) hr)) rfl rfl ?_| refine z02 (z1i (ys:=pts.map rcc) rfl (idx (g:=rcc) hx)) rfl rfl ?_))|(apply z0p;(first|refine z02 (zcg (by omega)) rfl rfl ?_| refine z02 z8n rfl rfl ?_| refine z02 (z0q z1c) rfl rfl ?_))|(apply z0u;(refine z1j hcl ?_))))|(apply z08;(first|refine z0n ?_|apply z07|refine z1r ?_| refine z2h (fun _=>?_) (fun _=>?_)))|(apply z06;(first|apply z0a|apply z00|refine z11 ?_| apply z04|apply z01|apply z2p|apply z03|refine z0g (fun _=>?_) (fun _=>?_)| refine z3z rfl (fun _=>?_) (fun _=>?_)|refine z0j ?_))|(apply z2r;(first|refine z2s ?_| (apply z0r;(refine z0m z1p rfl rfl ?_))|(apply z14;(first|refine z0m (z1i (ys:=pts.map rcc) rfl (idx (g:=rcc) hx)) rfl rfl ?_| refine z0m (z1i rfl (idx hy)) rfl rfl ?_))|(apply z2f;(refine z0m (z0q z1c) rfl rfl ?_)))))
          all_goals try (exfalso;omega)
          all_goals exact z0e ihn' rfl rfl
       · rw[if_neg htb] at hbt
         rw[if_neg (fun h=>htb h.1)] at n3
         have ihn':=ihn (k+1,B') ⟨by simp only;omega,n2,n3⟩ (by simp only;omega)
         repeat' (first|(apply z05;(first|refine z0o ?_| (apply z09;(first|refine z02 z1d rfl rfl ?_| refine z02 z1p rfl rfl ?_))|(apply z0d;(refine z02 z0i rfl rfl ?_))|(apply z0f;(first|refine z02 (z1i (ys:=lv.map fun r=>[rgs r]) rfl (idx (g:=fun r=>[rgs r]) hr)) rfl rfl ?_| refine z02 (z1i (ys:=pts.map rcc) rfl (idx (g:=rcc) hx)) rfl rfl ?_))|(apply z0p;(first|refine z02 (zcg (by omega)) rfl rfl ?_| refine z02 z8n rfl rfl ?_| refine z02 (z0q z1c) rfl rfl ?_))|(apply z0u;(refine z1j hcl ?_))))|(apply z08;(first|refine z0n ?_|apply z07|refine z1r ?_| refine z2h (fun _=>?_) (fun _=>?_)))|(apply z06;(first|apply z0a|apply z00|refine z11 ?_| apply z04|apply z01|apply z2p|apply z03|refine z0g (fun _=>?_) (fun _=>?_)| refine z3z rfl (fun _=>?_) (fun _=>?_)|refine zdl rfl (fun _=>?_) (fun _=>?_)|refine z0j ?_))|(apply z2r;(first|(apply z15;refine z1o mix ?_)|refine z2s ?_| (apply z0r;(first|refine z0m z1d rfl rfl ?_| refine z0m z1p rfl rfl ?_))|(apply z0s;(refine z0m z0i rfl rfl ?_))|(apply z14;(first|refine z0m (z1i (ys:=pts.map rcc) rfl (idx (g:=rcc) hx)) rfl rfl ?_| refine z0m (z1i rfl (idx hy)) rfl rfl ?_))|(apply z2f;(first|refine z0m (zxz (by omega)) rfl rfl ?_| refine z0m zh1 rfl rfl ?_| refine z0m (z0q z1c) rfl rfl ?_))|(apply z36;(refine z5b (by first|exact rfl|exact⟨_,rfl,rfl,rfl⟩) rfl rfl rfl rfl rfl rfl ?_)))))
         all_goals try (exfalso;omega)
         all_goals exact z0e ihn' rfl rfl
     · obtain rfl:k=lv.length:=by omega
       rw[List.drop_length,rdF] at n3
       subst n3
       clear ihn
       by_cases hz:B'=0
       · subst hz
         rw[if_pos rfl,Option.toList_none,List.append_nil] at ih'
         repeat' (first|(apply z05;(first|refine z0o ?_| (apply z09;(refine z02 z1d rfl rfl ?_))|(apply z0d;(refine z02 z0i rfl rfl ?_))|(apply z0p;(refine z02 (z0q z1c) rfl rfl ?_))))|(apply z08;(first|refine z0n ?_|apply z07))|(apply z06;(first|apply z0a|apply z00|refine z11 ?_| apply z04|apply z01|apply z03|refine z0g (fun _=>?_) (fun _=>?_)| refine z0j ?_)))
         all_goals try (exfalso;first|omega|(simp at *;done))
         all_goals exact z0e ih' rfl rfl
       · have hzi:¬ ((B':Nat):Int)=0:=by omega
         rw[if_neg hz,Option.toList_some] at ih'
         repeat' (first|(apply z05;(first|refine z0o ?_| (apply z09;(refine z02 z1d rfl rfl ?_))|(apply z0d;(refine z02 z0i rfl rfl ?_))|(apply z0p;(refine z02 (z0q z1c) rfl rfl ?_))))|(apply z08;(first|refine z0n ?_|apply z07))|(apply z06;(first|apply z0a|apply z00|apply z04|apply z01|apply z2p|apply z03|refine z0g (fun _=>?_) (fun _=>?_)| refine z3z rfl (fun _=>?_) (fun _=>?_)|refine z0j ?_))|(apply z2r;(first|(apply z15;refine z1o mix ?_)|refine z2s ?_| (apply z0r;(first|refine z0m z1p rfl rfl ?_| refine z0m z1z rfl rfl ?_))|(apply z14;(first|refine z0m (z1i (ys:=pts.map rcc) rfl (idx (g:=rcc) hx)) rfl rfl ?_| refine z0m (z1i (ys:=pts.map rcc) rfl (z52 (g:=rcc) hyi)) rfl rfl ?_))|(apply z2f;(first|refine z0m (z22 (z8x (by omega) (by omega))) rfl rfl ?_| refine z0m (z0q z1c) rfl rfl ?_))|(apply z47;(refine z5y (g:=sed) (by first|exact rfl|exact⟨_,rfl,rfl,rfl⟩) rfl rfl ((x,y-1,(false,B')):Go.Ax.Edge (Bool × Nat)) rfl rfl rfl rfl rfl rfl rfl (by decide) (by omega) ?_))|(apply zf9;(refine zj5 (by first|exact rfl|exact⟨_,rfl,rfl,rfl⟩) rfl rfl rfl rfl rfl rfl rfl (by decide) ?_))|(apply z5j;(refine z8u rfl ?_)))))
         all_goals try (exfalso;first|omega|(simp at *;done))
         all_goals refine z1s 96 1002 ?_
         all_goals exact z0e ih' rfl rfl
   · obtain rfl:i=pts.length-1:=by omega
     clear ih
     repeat' (first|(apply z05;(first|refine z0o ?_| (apply z0c;(refine z23 ?_))|(apply z0h;(refine z0b z2i ?_))|(apply z0z;(refine z3s ?_))))|(apply z08;(first|refine z0n ?_|apply z07))|(apply z06;(first|apply z0a|apply z00|apply z04|apply z01|refine z0g (fun _=>?_) (fun _=>?_)| refine z0j ?_)))
     all_goals try (exfalso;omega)
     all_goals refine z1g 1002 rfl ?_
     all_goals exact z0l Tryz.func59 _ z16 ⟨rfl,rfl⟩
end
end Go.Proofs.YthdfkabdoidjfaaGreatDoor
namespace Go.Proofs.YthdfkabdoidjfaaGreatDoor
open Go.Ab Go.Ax Go.Rx
set_option maxHeartbeats 20000000
set_option maxRecDepth 100000
attribute [local irreducible] Run Ops Op1 z2b Val Tr z0v z2c NF Rel z3w z3x
theorem zgt {N:Nat} {lv:List (List Rg)} {e:Go.Ax.Edge (Bool × Nat)} (h:e∈zdg N lv):∃ i x y,(zgs N lv)[i]? =some x∧(zgs N lv)[i+1]? =some y∧e=(x,y-1,(false,zyo N lv x))∧zyo N lv x≠0:=by
 rw[zdg,List.mem_filterMap] at h
 obtain⟨i,hi,he⟩:=h
 rw[List.mem_range] at hi
 obtain⟨x,hx⟩:∃ x,(zgs N lv)[i]? =some x:=⟨_,List.getElem?_eq_getElem (by omega)⟩
 obtain⟨y,hy⟩:∃ y,(zgs N lv)[i+1]? =some y:=⟨_,List.getElem?_eq_getElem (by omega)⟩
 rw[cE,z2g hx,z2g hy] at he
 split at he
 · cases he
 · rename_i hu
   simp only[Option.some.injEq] at he
   exact⟨i,x,y,hx,hy,he.symm,hu⟩
theorem zst {N:Nat} {lv:List (List Rg)} (hl64:lv.length≤64) (hlr:∀ r∈lv,∀ x∈r,0≤x.1∧x.1≤1114111∧0≤x.2∧x.2≤1114111):edE (zdg N lv)∧∀ e∈zdg N lv,e.2.2.2<2 ^ 64:=by
 have hr:=zbv (L:=z9z N 0 lv) fun r h=>hlr r (z96 N lv 0 r h)
 have hlt:=zoy (z9z N 0 lv)
 have hlen:=zix (B:=1114112) hlt (fun z hz=>by have:=hr z hz;omega)
 refine⟨⟨?_,fun e he=>?_⟩,fun e he=>?_⟩
 · have:=z55 (cE N lv (zgs N lv)) (List.range ((zgs N lv).length-1))
   rw[List.length_range] at this
   rw[zdg];rw[zgs] at *;omega
 · obtain⟨i,x,y,hx,hy,rfl,_⟩:=zgt he
   have h1:=hr x (List.mem_of_getElem? hx)
   have h2:=hr y (List.mem_of_getElem? hy)
   have:x<y:=by
    obtain⟨a1,a2⟩:=List.getElem?_eq_some_iff.1 hx
    obtain⟨b1,b2⟩:=List.getElem?_eq_some_iff.1 hy
    have:=List.pairwise_iff_getElem.1 hlt i (i+1) a1 b1 (by omega)
    rw[← a2,← b2];exact this
   simp only;omega
 · obtain⟨i,x,y,hx,hy,rfl,_⟩:=zgt he
   simp only;exact zvc _ _ _ hl64 (by decide)
def zss (lv:List (List Rg)) (f l:Nat) (fo:List Nat) (nu:Bool):Option Au:=exL (fun k=>(k.1&&nu)||decide (k.2 &&& l≠0)) (fun k=>zdg (nxN f fo k) lv) 256 257 0 [(true,0)] ⟨[],[]⟩
def zsu (e:Rx):Option Au:=zss (bd e tb0).1.lv (bd e tb0).2.f (bd e tb0).2.l (bd e tb0).1.fo (bd e tb0).2.nu
theorem zqt {M:Nat} (hS:zd0 M) (hM:M≤200000000) (e:Rx) (hf:fit e) (h0:val e=0) (hbd:zii 105 [.d (Drx e)] tb0 (bd e tb0)) (hsm:(bd e tb0).1.fo.length=(bd e tb0).1.lv.length∧(bd e tb0).1.lv.length≤64∧(∀ x∈(bd e tb0).1.fo,x<2 ^ 64)∧(bd e tb0).2.f<2 ^ 64∧(bd e tb0).2.l<2 ^ 64) (hlr:∀ r∈(bd e tb0).1.lv,∀ x∈r,0≤x.1∧x.1≤1114111∧0≤x.2∧x.2≤1114111) (hln:∀ r∈(bd e tb0).1.lv,r.length≤200000000)
 (hsz:∀ N:Nat,(z68 (z9z N 0 (bd e tb0).1.lv)).length≤M):z0v Tryz.prog 33 [.d (Drx e)] (zxe (zsu e)):=by
 refine z1e fun H=>?_
 have hval:=zeb e hf
 have hof:=y45 e hbd
 clear hbd
 rw[h0] at hval
 rw[zsu]
 dsimp only[ofB] at hof
 generalize hB:bd e tb0=r1 at *
 obtain⟨t1,p⟩:=r1
 obtain⟨lv,fo⟩:=t1
 obtain⟨hfo,hl64,hfx,pf,pl⟩:=hsm
 simp only at hfo hl64 hfx pf pl hof hlr hln hsz ⊢
 obtain⟨f,l,nu⟩:=p
 simp only at pf pl hof ⊢
 have hex:z2c Tryz.prog 63 [scP (true,0),.fn (.func 58) [] [.ptr (0,4) 0],.fn (.func 59) [] [.ptr (0,4) 0],I .i64 256] [((0,4),.box [.ptr (0,14) 0]),((0,14),tbx lv f l fo nu)] [] (exR (zss lv f l fo nu)):=z2n fun H hH =>
  zmi (.box [.ptr (0,14) 0]) (tbx lv f l fo nu) (fun k=>k.2<2 ^ 64) _ _ (true,0) 256 (by decide) (by decide) (by decide)
   (fun k hk=>zyb lv f l fo nu k hk pl) (fun k hk=>zxu lv f l fo nu hS hM k hk pf hfo hl64 hfx hlr hln hsz) (fun k hk=>zst hl64 hlr) H (hH ((0,4),.box [.ptr (0,14) 0]) (by simp)) (hH ((0,14),tbx lv f l fo nu) (by simp))
 generalize zss lv f l fo nu=o at *
 obtain⟨op,mn,mx,rs,ks⟩:=e
 rw[zcv] at hval hof ⊢
 cases o with
 | some x =>
  simp only[exR] at hex
  simp only[zxe]
  refine z0k Tryz.func33 (by kernel_rfl) rfl (by simp) ?_
  dsimp only[Tryz.f33]
  repeat' (first | (apply z05; (first | refine za1 rfl rfl (by decide) ?_ | refine z0o ?_| (apply z09; (first | refine z02 z3t rfl rfl ?_| refine z02 z1z rfl rfl ?_)) | (apply z0u; (first | refine z3i hex rfl rfl (by decide) ?_ | refine z1j hval ?_| (refine zq2 rfl (hof _) (by decide) rfl (fun r H' h => ⟨_, h.1, h.2, rfl, rfl, ?_⟩)) /- zga -/)) | (apply z0c; (refine z23 ?_)) | (apply z0h; (refine z0b z2i ?_)) | (apply z1q; (refine z0b z25 ?_)) | (apply z0z; (refine z3s ?_)))) | (apply z08; (first | refine z0n ?_ | apply z07)) | (apply z06; (first | apply z0a | apply z00 | refine z11 ?_| apply z04)))
  all_goals try (exfalso;first|omega|(simp at *;done)|(simp at *;omega))
  all_goals exact z0l Tryz.func33 _ (z0x rfl rfl rfl rfl rfl rfl rfl) ⟨rfl,rfl⟩
 | none =>
  simp only[exR] at hex
  simp only[zxe]
  refine z0k Tryz.func33 (by kernel_rfl) rfl (by simp) ?_
  dsimp only[Tryz.f33]
  repeat' (first | (apply z05; (first | refine za1 rfl rfl (by decide) ?_ | refine z0o ?_| (apply z09; (refine z02 z3t rfl rfl ?_)) | (apply z0u; (first | refine z3i hex rfl rfl (by decide) ?_ | refine z1j hval ?_| (refine zq2 rfl (hof _) (by decide) rfl (fun r H' h => ⟨_, h.1, h.2, rfl, rfl, ?_⟩)) /- zga -/)) | (apply z0c; (refine z23 ?_)) | (apply z0h; (refine z0b z2i ?_)) | (apply z1q; (refine z0b z25 ?_)) | (apply z0z; (refine z3s ?_)))) | (apply z08; (first | refine z0n ?_ | apply z07)) | (apply z06; (first | apply z0a | apply z00 | refine z1h ?_| refine z11 ?_| apply z04)))
  all_goals try (exfalso;first|omega|(simp at *;done)|(simp at *;omega))
  all_goals exact z0l Tryz.func33 _ (z0x rfl rfl rfl rfl rfl rfl rfl) ⟨rfl,rfl⟩
end Go.Proofs.YthdfkabdoidjfaaGreatDoor
