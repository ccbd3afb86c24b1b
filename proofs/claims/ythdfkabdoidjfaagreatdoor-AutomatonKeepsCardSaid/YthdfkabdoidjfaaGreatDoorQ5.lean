/- A part of the proof: A14, A30, A31. -/
import Derived.Test.YthdfkabdoidjfaaGreatDoorQ3
import Derived.Test.YthdfkabdoidjfaaGreatDoorQ4
import Derived.Test.YthdfkabdoidjfaaGreatDoorQv
set_option linter.all false
set_option linter.unusedVariables false
set_option linter.unusedSimpArgs false
namespace Go.Proofs.YthdfkabdoidjfaaGreatDoor
open Go.Ab Go.Ax
set_option maxHeartbeats 20000000
set_option maxRecDepth 100000
attribute [local irreducible] Run Ops Op1 z1t Val Tr z11 z1s NF Rel z43 z42
theorem zki (b1 b2:Blk) (ok:Bool × Nat→Prop) (fin:Bool × Nat→Bool) (edg:Bool × Nat→List (Go.Ax.Edge (Bool × Nat))) (first:Bool × Nat) (lim:Int) (hl0:1≤lim) (hl1:lim≤2000000) (hok0:ok first)
 (hfin:∀ k,ok k→z1s Tryz.prog 58 [scP k,.ptr (1,4) 0] [((1,4),b1),((1,14),b2)] [] (B (fin k))) (hedg:∀ k,ok k→z1s Tryz.prog 59 [scP k,.ptr (1,4) 0] [((1,4),b1),((1,14),b2)] [] (.d (.slice ((edg k).map sed)))) (hE:∀ k,ok k→edE (edg k)∧∀ e∈edg k,ok e.2.2)
 (H:Hf) (hb1:H 0 4=some b1) (hb2:H 0 14=some b2) :
 Ab.Spec Tryz.prog 63 [scP first,.fn (.func 58) [] [.ptr (0,4) 0],.fn (.func 59) [] [.ptr (0,4) 0],I .i64 lim] H (fun r H'=>r=.v (exR (exL fin edg lim.toNat (lim.toNat+1) 0 [first] ⟨[],[]⟩))∧H'=H):=by
 have hb:∀ (n:Nat) (tm:List (Nat × PV)) (hp:Hp),BkE ⟨n,tm,hp,H⟩ [((1,4),b1),((1,14),b2)]:=fun n tm hp=>by simp[BkE,z45,push,hb1,hb2]
 refine z0j Tryz.func63 (by kernel_rfl) rfl (by simp) ?_
 dsimp only[Tryz.f63]
 repeat' (first|(apply z07;(first|refine za0 (by decide) rfl ?_|refine zdb (et:=3) (a:=first) (v:=z2o 0) (py:=scP first) (q:=([]:List ((Bool × Nat) × D))) (by kernel_rfl) zoq rfl rfl zor rfl rfl rfl ?_|refine z0o ?_| (apply z06;(refine z02 z3q rfl rfl ?_))|(apply z0e;(refine z05 z2e ?_))|(apply z1p;(refine z05 z22 ?_))|(apply z1v;(refine zcp rfl rfl rfl rfl rfl rfl rfl rfl rfl (by decide) ?_))))|(apply z09;(first|refine z0n ?_|apply z0a))|(apply z08;(first|apply z0b|apply z00|apply z01)))
 refine z1w 24 1000 ?_
 refine z3t 10 0 1001 4 1 rfl rfl rfl rfl ?_
 refine z3t 10 1 1002 39 1 rfl rfl rfl rfl ?_
 generalize hres:exL fin edg lim.toNat (lim.toNat+1) 0 [first] ⟨[],[]⟩=res
 refine z1g ?_
 refine z0f (z2i (fun q:Nat × List (Bool × Nat) × Au=>⟨128,[(1,.fn (.func 58) [] [.ptr (1,4) 0]),(2,.fn (.func 59) [] [.ptr (1,4) 0]),(3,I .i64 lim),(8,.ptr (0,8) 0),(10,.ptr (0,10) 0),(11,.ref (0,20)),(12,.ref (0,1000)),(13,I .i64 (q.1:Nat))],[(20,mpS q.2.1),(1000,.row 78 2 (q.2.1.map scc)),(10,.box [.ref (0,1001),.ref (0,1002)]),(1001,.row 4 1 (q.2.2.F.map boc)),(1002,.row 39 1 (q.2.2.A.map z4v)),(8,.box [.d (.lit z3h),.d (.lit z3h)])],H⟩) (fun q=>q.1≤q.2.1.length∧1≤q.2.1.length∧q.2.1.length≤lim.toNat∧q.2.2.F.length=q.1∧q.2.2.A.length=q.1∧(∀ x∈q.2.1,ok x)∧exL fin edg lim.toNat (lim.toNat+1-q.1) q.1 q.2.1 q.2.2=res) (fun q=>lim.toNat+1-q.1) ?_ (0,[first],⟨[],[]⟩) ⟨Nat.zero_le _,Nat.le_refl _,by simp only[List.length_singleton];omega,rfl,rfl,fun x hx=>by rw[List.mem_singleton] at hx;rw[hx];exact hok0,hres⟩) rfl rfl
 rintro⟨i,ks,⟨F,A⟩⟩ ⟨i1,i2,i3,i4,i5,i7,i6⟩ ih
 simp only at i1 i2 i3 i4 i5 i6 i7 ih ⊢
 by_cases hlt:i<ks.length
 · obtain⟨k,hk⟩:∃ k,ks[i]? =some k:=⟨_,List.getElem?_eq_getElem hlt⟩
   obtain⟨n,hn⟩:∃ n,lim.toNat+1-i=n+1:=⟨lim.toNat-i,by omega⟩
   rw[hn,exL,hk] at i6
   simp only at i6
   have hok:=i7 k (List.mem_of_getElem? hk)
   have hff:=hfin k hok
   have hee:=hedg k hok
   obtain⟨⟨hE1,hE2⟩,hE3⟩:=hE k hok
   generalize edg k=es at *
   generalize fin k=fb at *
   repeat' (first|(apply z07;(first|refine z0o ?_| (apply z06;(refine z02 (z8p hk rfl rfl) rfl rfl ?_))|(apply z0g;(refine z02 (z3b rfl) rfl rfl ?_))|(apply z10;(first|refine z02 (za3 rfl) rfl rfl ?_| refine z02 (z1f rfl) rfl rfl ?_))|(apply z0t;(refine zpj (first:=[]) (cap:=[.ptr (1,4) 0]) (ps:=[scP k]) hee rfl rfl (hb _ _ _) (by decide) ?_))))|(apply z09;(first|refine z0n ?_|apply z0a))|(apply z08;(first|apply z0b|apply z00|apply z04|apply z01|refine z0h (fun _=>?_) (fun _=>?_)| refine z0m ?_)))
   all_goals try (exfalso;simp only[List.length_map] at *;omega)
   refine z2f 14 1003 38 3 rfl rfl rfl ?_
   refine z1g ?_
   refine z0f (z2i (fun q:Nat × List (Bool × Nat) × List Arc=>⟨128,[(1,.fn (.func 58) [] [.ptr (1,4) 0]),(2,.fn (.func 59) [] [.ptr (1,4) 0]),(3,I .i64 lim),(8,.ptr (0,8) 0),(10,.ptr (0,10) 0),(11,.ref (0,20)),(12,.ref (0,1000)),(13,I .i64 (i:Nat)),(14,.ref (0,1003)),(36,.d (.slice (es.map sed))),(37,I .i64 es.length),(38,I .i64 (q.1:Nat))],[(20,mpS q.2.1),(1000,.row 78 2 (q.2.1.map scc)),(1003,.row 38 3 (q.2.2.map z2r)),(10,.box [.ref (0,1001),.ref (0,1002)]),(1001,.row 4 1 (F.map boc)),(1002,.row 39 1 (A.map z4v)),(8,.box [.d (.lit z3h),.d (.lit z3h)])],H⟩) (fun q=>q.1≤es.length∧q.2.2.length≤q.1∧q.2.1.length≤ks.length+q.1∧q.2.1[i]? =some k∧(∀ y∈q.2.2,0≤y.2.1∧y.2.1≤1114111)∧(∀ x∈q.2.1,ok x)∧(es.drop q.1).foldl z5n q.2=es.foldl z5n (ks,[])) (fun q=>es.length-q.1) ?_ (0,ks,[]) ⟨Nat.zero_le _,Nat.le_refl _,Nat.le_refl _,hk,by simp,i7,rfl⟩) rfl rfl
   rintro⟨j,ks2,arcs⟩ ⟨j1,j2,j3,j4,j5,j7,j6⟩ ihj
   simp only at j1 j2 j3 j4 j5 j6 j7 ihj ⊢
   by_cases hjl:j<es.length
   · obtain⟨e,he⟩:∃ e,es[j]? =some e:=⟨_,List.getElem?_eq_getElem hjl⟩
     obtain⟨r1,r2,r3⟩:=hE2 e (List.mem_of_getElem? he)
     rw[drop_cons he,List.foldl_cons,z5n] at j6
     simp only at j6
     have hal:=zao ks2 e.2.2
     have hln:=z9s arcs e.1 e.2.1 (z3y e.2.2 ks2:Nat)
     have ihj':=ihj (j+1,z6n ks2 e.2.2,ext arcs e.1 e.2.1 (z3y e.2.2 ks2:Nat)) ⟨by simp only;omega,by simp only;omega,by simp only;omega,by simp only;obtain⟨x,hx⟩:=z7o ks2 e.2.2;rw[hx,List.getElem?_append_left (List.getElem?_eq_some_iff.1 j4).1];exact j4,fun y hy=>by
      rcases ext_mem hy with h|h
      · omega
      · exact j5 y h,fun x hx=>by
      rcases z8z hx with h|h
      · rw[h];exact hE3 e (List.mem_of_getElem? he)
      · exact j7 x h,j6⟩ (by simp only;omega)
     have hget:=z7n e.2.2 ks2 0
     clear ihj hal
     by_cases hknown:e.2.2∈ks2
     · rw[z6n,if_pos hknown] at ihj'
       rw[if_pos hknown,Nat.zero_add] at hget
       have hget1:(z55 (z3d 0 ks2) e.2.2).getD (.lit (.int .i64 0))=z2o (z3y e.2.2 ks2:Nat):=by rw[hget];rfl
       have hget2:(z55 (z3d 0 ks2) e.2.2).isSome=true:=by rw[hget];rfl
       generalize z3y e.2.2 ks2=qv at *
       rcases zgh arcs with rfl|⟨m,y,rfl⟩
       · rw[ext_nil] at ihj'
         repeat' (first|(apply z07;(first|refine z05 (z4k (et:=3) (a:=e.2.2) (q:=z3d 0 ks2) (z0:=Value.int .i64 0) (py:=scP e.2.2) zoq (z25 (by kernel_rfl)) rfl rfl rfl zor rfl hget1 hget2) ?_|refine z0o ?_| (apply z06;(first|refine z02 z1c rfl rfl ?_| refine z02 z1u rfl rfl ?_| refine z02 z23 rfl rfl ?_))|(apply z0d;(refine z02 z0i rfl rfl ?_))|(apply z0g;(refine z02 (z1x (ys:=es.map sed) rfl (idx he)) rfl rfl ?_))|(apply z0y;(refine z02 (z0v z1e) rfl rfl ?_))|(apply z10;(first|refine z02 (z1d rfl) rfl rfl ?_| refine z4w (g:=z2r) rfl rfl (e.1,e.2.1,((qv:Nat):Int)) rfl rfl rfl rfl rfl rfl rfl (by decide) (by simp) ?_))|(apply z0c;(refine z1r ?_))|(apply z0e;(refine z05 z2e ?_))|(apply z0z;(refine z3p ?_))|(apply z1v;(refine z2b rfl ?_))))|(apply z09;(first|refine z0n ?_|apply z0a))|(apply z08;(first|apply z0b|apply z00|refine z14 ?_| apply z04|apply z01|apply z38|apply z03|refine z0h (fun _=>?_) (fun _=>?_)| refine z0m ?_))|(apply z34;(first|(apply z1a;refine z1q mix ?_)|refine z36 ?_| refine z3a ?_| (apply z0s;(refine z0l z1c rfl rfl ?_))|(apply z0p;(refine z0l z0i rfl rfl ?_)))))
         all_goals try (exfalso;first|omega|(simp at *;done))
         all_goals skip
         all_goals refine z1w 103 1003 ?_
         all_goals exact z0f ihj' rfl rfl
       · have hy:=j5 y (by simp)
         have hal:((m++[y]).map z2r).length=m.length+1:=by simp
         have hal2:(m++[y]).length=m.length+1:=by simp
         have hix:(m++[y])[(((((m++[y]).length:Nat):Int)-1)).toNat]? =some y:=by
          rw[hal2,show (((m.length+1:Nat):Int)-1).toNat=m.length by omega];simp
         have hse:(m++[y]).set (((((m++[y]).length:Nat):Int)-1)).toNat ((y.1,e.2.1,y.2.2):Arc)=m++[(y.1,e.2.1,y.2.2)]:=by
          rw[hal2,show (((m.length+1:Nat):Int)-1).toNat=m.length by omega];simp
         rw[z3u] at ihj'
         by_cases hj:y.2.1+1=e.1∧y.2.2=(qv:Nat)
         · have hyq:(y.1,e.2.1,((qv:Nat):Int))=((y.1,e.2.1,y.2.2):Arc):=by rw[hj.2]
           rw[if_pos hj,hyq] at ihj'
           repeat' (first|(apply z07;(first|refine z05 (z4k (et:=3) (a:=e.2.2) (q:=z3d 0 ks2) (z0:=Value.int .i64 0) (py:=scP e.2.2) zoq (z25 (by kernel_rfl)) rfl rfl rfl zor rfl hget1 hget2) ?_|refine z0o ?_| (apply z06;(first|refine z02 z1c rfl rfl ?_| refine z02 z1u rfl rfl ?_| refine z02 z23 rfl rfl ?_))|(apply z0d;(first|refine z02 z0i rfl rfl ?_| refine z02 z3n rfl rfl ?_))|(apply z0g;(first|refine z02 (z1x (ys:=es.map sed) rfl (idx he)) rfl rfl ?_| refine z02 (z3b rfl) rfl rfl ?_))|(apply z0y;(first|refine z02 (z0v z1e) rfl rfl ?_| refine z02 (z1y z1e) rfl rfl ?_))|(apply z10;(first|refine z02 (z1d rfl) rfl rfl ?_| refine z30 (g:=z2r) (e.1,e.2.1,((qv:Nat):Int)) rfl ?_))|(apply z0c;(first|refine z4g ((y.1,e.2.1,y.2.2):Arc) hix hse ?_| refine z1r ?_))|(apply z0e;(refine z05 z2e ?_))|(apply z0z;(refine z3p ?_))|(apply z1v;(refine z2b rfl ?_))))|(apply z09;(first|refine z0n ?_|apply z0a))|(apply z08;(first|apply z0b|apply z00|refine z14 ?_| apply z04|apply z01|apply z38|apply z03|refine z0h (fun _=>?_) (fun _=>?_)| refine z0m ?_))|(apply z34;(first|(apply z1a;refine z1q mix ?_)|refine z36 ?_| refine z3a ?_| (apply z0s;(first|refine z0l (z2c (u:=z5p y.2.1) hix) rfl rfl ?_| refine z0l (z2c (u:=z2o y.2.2) hix) rfl rfl ?_| refine z0l z1c rfl rfl ?_))|(apply z0p;(first|refine z0l z0i rfl rfl ?_| refine z0l z3n rfl rfl ?_))|(apply z15;(refine z0l (z3b rfl) rfl rfl ?_))|(apply z1z;(first|refine z0l (z0v (zal (by omega) (by omega))) rfl rfl ?_| refine z0l (z1y z1e) rfl rfl ?_))|(refine z1o rfl rfl (fun hg=>?_) (fun hg=>?_) <;> simp only[hg] <;> (try simp only[decide_eq_true_eq,decide_eq_false_iff_not,Bool.not_eq_true',Bool.not_eq_false'] at hg)))))
           all_goals try (exfalso;omega)
           all_goals skip
           all_goals exact z0f ihj' rfl rfl
         · rw[if_neg hj] at ihj'
           repeat' (first|(apply z07;(first|refine z05 (z4k (et:=3) (a:=e.2.2) (q:=z3d 0 ks2) (z0:=Value.int .i64 0) (py:=scP e.2.2) zoq (z25 (by kernel_rfl)) rfl rfl rfl zor rfl hget1 hget2) ?_|refine z0o ?_| (apply z06;(first|refine z02 z1c rfl rfl ?_| refine z02 z1u rfl rfl ?_| refine z02 z23 rfl rfl ?_))|(apply z0d;(first|refine z02 z0i rfl rfl ?_| refine z02 z3n rfl rfl ?_))|(apply z0g;(first|refine z02 (z1x (ys:=es.map sed) rfl (idx he)) rfl rfl ?_| refine z02 (z3b rfl) rfl rfl ?_))|(apply z0y;(first|refine z02 (z0v z1e) rfl rfl ?_| refine z02 (z1y z1e) rfl rfl ?_))|(apply z10;(first|refine z02 (z1d rfl) rfl rfl ?_| refine z30 (g:=z2r) (e.1,e.2.1,((qv:Nat):Int)) rfl ?_))|(apply z0c;(first|refine z4g ((y.1,e.2.1,y.2.2):Arc) hix hse ?_| refine z1r ?_))|(apply z0e;(refine z05 z2e ?_))|(apply z0z;(refine z3p ?_))|(apply z1v;(refine z2b rfl ?_))))|(apply z09;(first|refine z0n ?_|apply z0a))|(apply z08;(first|apply z0b|apply z00|refine z14 ?_| apply z04|apply z01|apply z38|apply z03|refine z0h (fun _=>?_) (fun _=>?_)| refine z0m ?_))|(apply z34;(first|(apply z1a;refine z1q mix ?_)|refine z36 ?_| refine z3a ?_| (apply z0s;(first|refine z0l (z2c (u:=z5p y.2.1) hix) rfl rfl ?_| refine z0l (z2c (u:=z2o y.2.2) hix) rfl rfl ?_| refine z0l z1c rfl rfl ?_))|(apply z0p;(first|refine z0l z0i rfl rfl ?_| refine z0l z3n rfl rfl ?_))|(apply z15;(refine z0l (z3b rfl) rfl rfl ?_))|(apply z1z;(first|refine z0l (z0v (zal (by omega) (by omega))) rfl rfl ?_| refine z0l (z1y z1e) rfl rfl ?_))|(refine z1o rfl rfl (fun hg=>?_) (fun hg=>?_) <;> simp only[hg] <;> (try simp only[decide_eq_true_eq,decide_eq_false_iff_not,Bool.not_eq_true',Bool.not_eq_false'] at hg)))))
           all_goals try (exfalso;omega)
           all_goals skip
           all_goals refine z1w 103 1003 ?_
           all_goals exact z0f ihj' rfl rfl
     · rw[z6n,if_neg hknown,z3o hknown] at ihj'
       rw[z3o hknown] at hln
       rw[if_neg hknown] at hget
       have hget1:(z55 (z3d 0 ks2) e.2.2).getD (.lit (.int .i64 0))=z2o 0:=by rw[hget];rfl
       have hget2:(z55 (z3d 0 ks2) e.2.2).isSome=false:=by rw[hget];rfl
       have hput:=z8s hknown
       dsimp only[mpS] at ihj'
       rw[← hput] at ihj'
       rcases zgh arcs with rfl|⟨m,y,rfl⟩
       · rw[ext_nil] at ihj'
         repeat' (first|(apply z07;(first|refine z05 (z4k (et:=3) (a:=e.2.2) (q:=z3d 0 ks2) (z0:=Value.int .i64 0) (py:=scP e.2.2) zoq (z25 (by kernel_rfl)) rfl rfl rfl zor rfl hget1 hget2) ?_|refine z0o ?_| (apply z06;(first|refine z02 z1c rfl rfl ?_| refine z02 z1u rfl rfl ?_| refine z02 z23 rfl rfl ?_))|(apply z0d;(refine z02 z0i rfl rfl ?_))|(apply z0g;(refine z02 (z1x (ys:=es.map sed) rfl (idx he)) rfl rfl ?_))|(apply z0y;(refine z02 (z0v z1e) rfl rfl ?_))|(apply z10;(first|refine z02 (z1d rfl) rfl rfl ?_| refine z30 (g:=scc) e.2.2 rfl ?_| refine z4w (g:=z2r) rfl rfl (e.1,e.2.1,((ks2.length:Nat):Int)) rfl rfl rfl rfl rfl rfl rfl (by decide) (by simp) ?_))|(apply z0c;(refine z1r ?_))|(apply z0e;(refine z05 z2e ?_))|(apply z0z;(refine z3p ?_))|(apply z1v;(refine z2b rfl ?_))|refine z4b (et:=3) (a:=e.2.2) (v:=z2o (ks2.length:Nat)) (py:=scP e.2.2) (q:=z3d 0 ks2) (by kernel_rfl) zoq rfl rfl zor rfl rfl rfl ?_))|(apply z09;(first|refine z0n ?_|apply z0a))|(apply z08;(first|apply z0b|apply z00|refine z1i ?_| refine z14 ?_| apply z04|apply z01|apply z38|apply z03|refine z0h (fun _=>?_) (fun _=>?_)| refine z0m ?_))|(apply z34;(first|(apply z1a;refine z1q mix ?_)|refine z36 ?_| refine z3a ?_| (apply z0s;(refine z0l z1c rfl rfl ?_))|(apply z0p;(refine z0l z0i rfl rfl ?_)))))
         all_goals try (exfalso;first|omega|(simp at *;done))
         all_goals refine z1w 61 1000 ?_
         all_goals refine z1w 103 1003 ?_
         all_goals exact z0f ihj' rfl rfl
       · have hy:=j5 y (by simp)
         have hal:((m++[y]).map z2r).length=m.length+1:=by simp
         have hal2:(m++[y]).length=m.length+1:=by simp
         have hix:(m++[y])[(((((m++[y]).length:Nat):Int)-1)).toNat]? =some y:=by
          rw[hal2,show (((m.length+1:Nat):Int)-1).toNat=m.length by omega];simp
         have hse:(m++[y]).set (((((m++[y]).length:Nat):Int)-1)).toNat ((y.1,e.2.1,y.2.2):Arc)=m++[(y.1,e.2.1,y.2.2)]:=by
          rw[hal2,show (((m.length+1:Nat):Int)-1).toNat=m.length by omega];simp
         rw[z3u] at ihj'
         by_cases hj:y.2.1+1=e.1∧y.2.2=(ks2.length:Nat)
         · have hyq:(y.1,e.2.1,((ks2.length:Nat):Int))=((y.1,e.2.1,y.2.2):Arc):=by rw[hj.2]
           rw[if_pos hj,hyq] at ihj'
           repeat' (first|(apply z07;(first|refine z05 (z4k (et:=3) (a:=e.2.2) (q:=z3d 0 ks2) (z0:=Value.int .i64 0) (py:=scP e.2.2) zoq (z25 (by kernel_rfl)) rfl rfl rfl zor rfl hget1 hget2) ?_|refine z0o ?_| (apply z06;(first|refine z02 z1c rfl rfl ?_| refine z02 z1u rfl rfl ?_| refine z02 z23 rfl rfl ?_))|(apply z0d;(first|refine z02 z0i rfl rfl ?_| refine z02 z3n rfl rfl ?_))|(apply z0g;(first|refine z02 (z1x (ys:=es.map sed) rfl (idx he)) rfl rfl ?_| refine z02 (z3b rfl) rfl rfl ?_))|(apply z0y;(first|refine z02 (z0v z1e) rfl rfl ?_| refine z02 (z1y z1e) rfl rfl ?_))|(apply z10;(first|refine z02 (z1d rfl) rfl rfl ?_| refine z30 (g:=scc) e.2.2 rfl ?_| refine z30 (g:=z2r) (e.1,e.2.1,((ks2.length:Nat):Int)) rfl ?_))|(apply z0c;(first|refine z4g ((y.1,e.2.1,y.2.2):Arc) hix hse ?_| refine z1r ?_))|(apply z0e;(refine z05 z2e ?_))|(apply z0z;(refine z3p ?_))|(apply z1v;(refine z2b rfl ?_))|refine z4b (et:=3) (a:=e.2.2) (v:=z2o (ks2.length:Nat)) (py:=scP e.2.2) (q:=z3d 0 ks2) (by kernel_rfl) zoq rfl rfl zor rfl rfl rfl ?_))|(apply z09;(first|refine z0n ?_|apply z0a))|(apply z08;(first|apply z0b|apply z00|refine z1i ?_| refine z14 ?_| apply z04|apply z01|apply z38|apply z03|refine z0h (fun _=>?_) (fun _=>?_)| refine z0m ?_))|(apply z34;(first|(apply z1a;refine z1q mix ?_)|refine z36 ?_| refine z3a ?_| (apply z0s;(first|refine z0l (z2c (u:=z5p y.2.1) hix) rfl rfl ?_| refine z0l (z2c (u:=z2o y.2.2) hix) rfl rfl ?_| refine z0l z1c rfl rfl ?_))|(apply z0p;(first|refine z0l z0i rfl rfl ?_| refine z0l z3n rfl rfl ?_))|(apply z15;(refine z0l (z3b rfl) rfl rfl ?_))|(apply z1z;(first|refine z0l (z0v (zal (by omega) (by omega))) rfl rfl ?_| refine z0l (z1y z1e) rfl rfl ?_))|(refine z1o rfl rfl (fun hg=>?_) (fun hg=>?_) <;> simp only[hg] <;> (try simp only[decide_eq_true_eq,decide_eq_false_iff_not,Bool.not_eq_true',Bool.not_eq_false'] at hg)))))
           all_goals try (exfalso;omega)
           all_goals refine z1w 61 1000 ?_
           all_goals exact z0f ihj' rfl rfl
         · rw[if_neg hj] at ihj'
           repeat' (first|(apply z07;(first|refine z05 (z4k (et:=3) (a:=e.2.2) (q:=z3d 0 ks2) (z0:=Value.int .i64 0) (py:=scP e.2.2) zoq (z25 (by kernel_rfl)) rfl rfl rfl zor rfl hget1 hget2) ?_|refine z0o ?_| (apply z06;(first|refine z02 z1c rfl rfl ?_| refine z02 z1u rfl rfl ?_| refine z02 z23 rfl rfl ?_))|(apply z0d;(first|refine z02 z0i rfl rfl ?_| refine z02 z3n rfl rfl ?_))|(apply z0g;(first|refine z02 (z1x (ys:=es.map sed) rfl (idx he)) rfl rfl ?_| refine z02 (z3b rfl) rfl rfl ?_))|(apply z0y;(first|refine z02 (z0v z1e) rfl rfl ?_| refine z02 (z1y z1e) rfl rfl ?_))|(apply z10;(first|refine z02 (z1d rfl) rfl rfl ?_| refine z30 (g:=scc) e.2.2 rfl ?_| refine z30 (g:=z2r) (e.1,e.2.1,((ks2.length:Nat):Int)) rfl ?_))|(apply z0c;(first|refine z4g ((y.1,e.2.1,y.2.2):Arc) hix hse ?_| refine z1r ?_))|(apply z0e;(refine z05 z2e ?_))|(apply z0z;(refine z3p ?_))|(apply z1v;(refine z2b rfl ?_))|refine z4b (et:=3) (a:=e.2.2) (v:=z2o (ks2.length:Nat)) (py:=scP e.2.2) (q:=z3d 0 ks2) (by kernel_rfl) zoq rfl rfl zor rfl rfl rfl ?_))|(apply z09;(first|refine z0n ?_|apply z0a))|(apply z08;(first|apply z0b|apply z00|refine z1i ?_| refine z14 ?_| apply z04|apply z01|apply z38|apply z03|refine z0h (fun _=>?_) (fun _=>?_)| refine z0m ?_))|(apply z34;(first|(apply z1a;refine z1q mix ?_)|refine z36 ?_| refine z3a ?_| (apply z0s;(first|refine z0l (z2c (u:=z5p y.2.1) hix) rfl rfl ?_| refine z0l (z2c (u:=z2o y.2.2) hix) rfl rfl ?_| refine z0l z1c rfl rfl ?_))|(apply z0p;(first|refine z0l z0i rfl rfl ?_| refine z0l z3n rfl rfl ?_))|(apply z15;(refine z0l (z3b rfl) rfl rfl ?_))|(apply z1z;(first|refine z0l (z0v (zal (by omega) (by omega))) rfl rfl ?_| refine z0l (z1y z1e) rfl rfl ?_))|(refine z1o rfl rfl (fun hg=>?_) (fun hg=>?_) <;> simp only[hg] <;> (try simp only[decide_eq_true_eq,decide_eq_false_iff_not,Bool.not_eq_true',Bool.not_eq_false'] at hg)))))
           all_goals try (exfalso;omega)
           all_goals refine z1w 61 1000 ?_
           all_goals refine z1w 103 1003 ?_
           all_goals exact z0f ihj' rfl rfl
   · obtain rfl:j=es.length:=by omega
     rw[List.drop_length,List.foldl_nil] at j6
     rw[← j6] at i6
     simp only at i6
     have hi2:=(List.getElem?_eq_some_iff.1 j4).1
     refine z1m 1003 rfl ?_
     by_cases hlim:lim.toNat<ks2.length
     · rw[if_pos hlim] at i6
       rw[← i6]
       repeat' (first|(apply z07;(first|refine z0o ?_| (apply z10;(refine z02 (z1d rfl) rfl rfl ?_))|(apply z0c;(refine z1r ?_))|(apply z0z;(refine z3p ?_))))|(apply z09;(first|refine z0n ?_|apply z0a))|(apply z08;(first|apply z0b|apply z00|apply z04|apply z01|apply z38|refine z0h (fun _=>?_) (fun _=>?_)| refine z0m ?_))|(apply z34;(first|refine z3a ?_| (apply z0s;(refine z0l z1c rfl rfl ?_))|(apply z0p;(refine z0l z0i rfl rfl ?_)))))
       all_goals try (exfalso;omega)
       all_goals exact z0k Tryz.func63 _ (z0u rfl rfl rfl rfl rfl rfl rfl) ⟨rfl,rfl⟩
     · rw[if_neg hlim] at i6
       have ih':=ih (i+1,ks2,⟨F++[fb],A++[arcs]⟩) ⟨by simp only;omega,by simp only;omega,by simp only;omega,by simp[i4],by simp[i5],j7,by rw[← i6];simp only;rw[show lim.toNat+1-(i+1)=n by omega]⟩ (by simp only;omega)
       simp only at ih'
       repeat' (first|(apply z07;(first|refine z0o ?_| (apply z06;(refine z02 z1c rfl rfl ?_))|(apply z0d;(refine z02 z0i rfl rfl ?_))|(apply z0y;(refine z02 (z0v z1e) rfl rfl ?_))|(apply z10;(first|refine z02 (z1d rfl) rfl rfl ?_| refine z30 (g:=z4v) arcs rfl ?_))|(apply z0c;(refine z1r ?_))|(apply z0z;(refine z3p ?_))|(apply z1v;(refine z2b rfl ?_))))|(apply z09;(first|refine z0n ?_|apply z0a))|(apply z08;(first|apply z0b|apply z00|apply z04|apply z01|apply z38|apply z03|refine z0h (fun _=>?_) (fun _=>?_)| refine z0m ?_))|(apply z34;(first|(apply z1a;refine z1q mix ?_)|refine z3a ?_| (apply z0s;(first|refine z0l (z8p j4 rfl rfl) rfl rfl ?_| refine z0l z1c rfl rfl ?_))|(apply z0p;(refine z0l z0i rfl rfl ?_))|(apply z15;(refine z0l (z2h rfl (by omega) (by simp only[List.length_map];omega) rfl) rfl rfl ?_))|(apply z5i;(refine zaf (g:=boc) (by first|exact rfl|exact⟨_,rfl,rfl,rfl⟩) rfl rfl fb rfl rfl rfl rfl rfl rfl rfl (by decide) (by omega) ?_))|(apply z3k;(refine zq6 (first:=[]) (cap:=[.ptr (1,4) 0]) (ps:=[scP k]) hff (by first|exact rfl|exact⟨_,rfl,rfl,rfl⟩) rfl rfl (hb _ _ _) (by decide) ?_))|(apply z3m;(refine zar (by first|exact rfl|exact⟨_,rfl,rfl,rfl⟩) rfl rfl rfl rfl rfl ?_))|(apply z8y;(refine zd6 rfl ?_)))))
       all_goals try (exfalso;omega)
       all_goals refine z1w 119 1001 ?_
       all_goals refine z1w 125 1002 ?_
       all_goals exact z0f ih' rfl rfl
 · obtain rfl:i=ks.length:=by omega
   obtain⟨n,hn⟩:∃ n,lim.toNat+1-ks.length=n+1:=⟨lim.toNat-ks.length,by omega⟩
   rw[hn,exL,List.getElem?_eq_none (Nat.le_refl _)] at i6
   simp only at i6
   rw[← i6]
   refine z1m 1001 rfl ?_
   refine z1m 1002 rfl ?_
   repeat' (first|(apply z07;(first|refine z0o ?_| (apply z06;(refine z02 z23 rfl rfl ?_))|(apply z10;(refine z02 (z1d rfl) rfl rfl ?_))|(apply z0c;(refine z1r ?_))))|(apply z09;(first|refine z0n ?_|apply z0a))|(apply z08;(first|apply z0b|apply z00|apply z04|apply z01|refine z0h (fun _=>?_) (fun _=>?_)| refine z0m ?_)))
   all_goals try (exfalso;omega)
   all_goals exact z0k Tryz.func63 _ (z0u rfl rfl rfl rfl rfl rfl rfl) ⟨rfl,rfl⟩
end Go.Proofs.YthdfkabdoidjfaaGreatDoor
namespace Go.Proofs.YthdfkabdoidjfaaGreatDoor
open Go.Ab Go.Ax Go.Rx
set_option maxHeartbeats 20000000
set_option maxRecDepth 100000
attribute [local irreducible] Run Ops Op1 z1t Val Tr z11 z1s NF Rel z43 z42
section
variable (lv:List (List Rg)) (f l:Nat) (fo:List Nat) (nu:Bool)
abbrev bsC:List (Nm × Blk):=[((1,4),.box [.ptr (0,14) 0]),((1,14),tbx lv f l fo nu)]
theorem zur (k:Bool × Nat) (hk:k.2<2 ^ 64) (hl:l<2 ^ 64):z1s Tryz.prog 58 [scP k,.ptr (1,4) 0] (bsC lv f l fo nu) [] (B ((k.1&&nu)||decide (k.2 &&& l≠0))):=by
 refine z2g fun H hH=>?_
 have h4:H 1 4=some (.box [.ptr (0,14) 0]):=hH ((1,4),.box [.ptr (0,14) 0]) (by simp)
 have h14:H 1 14=some (tbx lv f l fo nu):=hH ((1,14),tbx lv f l fo nu) (by simp)
 obtain⟨b,S⟩:=k
 have hfin:(!decide (zv8 .u64 (S:Nat) (l:Nat)=0))=decide (S &&& l≠0):=by
  rw[zxn hk hl,← decide_not]
  exact decide_eq_decide.2 (by rw[Ne,not_congr];exact_mod_cast Iff.rfl)
 simp only[← hfin]
 refine z0j Tryz.func58 (by kernel_rfl) rfl (by simp) ?_
 dsimp only[Tryz.f58]
 cases b <;> cases nu
 all_goals repeat' (first|(apply z07;(first|refine z0o ?_| (apply z1p;(refine z05 z22 ?_))))|(apply z09;(first|refine z0n ?_|apply z0a))|(apply z08;(first|apply z0b|apply z00|apply z38))|(apply z34;(first|(apply z1a;refine z1q mix ?_)|refine z36 ?_| refine z3a ?_| (apply z0s;(first|refine z99 (by first|exact rfl|exact⟨_,rfl,rfl,rfl⟩) rfl h14 rfl rfl rfl rfl (by decide) ?_|refine z99 (by first|exact rfl|exact⟨_,rfl,rfl,rfl⟩) rfl h4 rfl rfl rfl rfl (by decide) ?_|refine z0l z1c rfl rfl ?_))|(apply z0p;(refine z0l z0i rfl rfl ?_))|(apply z1z;(refine z0l z7y rfl rfl ?_)))))
 all_goals exact z0k Tryz.func58 _ z19 ⟨rfl,rfl⟩
def z8q (N:Nat):Nat→List (List Rg)→List (List Rg)
 | _,[]=>[]
 | k,r::ls=>if N.testBit k=true then r::z8q N (k+1) ls else z8q N (k+1) ls
theorem zo0 (N:Nat) {lv:List (List Rg)} {k:Nat} {r:List Rg} (hr:lv[k]? =some r):z8q N k (lv.drop k)=(if N.testBit k=true then [r] else [])++z8q N (k+1) (lv.drop (k+1)):=by
 obtain⟨h1,h2⟩:=List.getElem?_eq_some_iff.1 hr
 rw[List.drop_eq_getElem_cons h1,h2,z8q]
 split <;> simp
theorem z8x (N:Nat):∀ (lv:List (List Rg)) (k:Nat),∀ r∈z8q N k lv,r∈lv
 | [],_,r,h=>by simp[z8q] at h
 | x::ls,k,r,h=>by
  rw[z8q] at h
  split at h
  · rcases List.mem_cons.1 h with rfl|h
    · simp
    · exact List.mem_cons_of_mem _ (z8x N ls _ r h)
  · exact List.mem_cons_of_mem _ (z8x N ls _ r h)
theorem zjh (N:Nat):∀ (lv:List (List Rg)) (k:Nat),(z8q N k lv).length≤lv.length
 | [],_=>by simp[z8q]
 | x::ls,k=>by
  have:=zjh N ls (k+1)
  rw[z8q];split <;> simp <;> omega
def nxN (f:Nat) (fo:List Nat) (k:Bool × Nat):Nat:=if k.1=true then f else nxF k.2 0 0 fo
def zv9 (N:Nat) (lv:List (List Rg)) (c:Int):Nat:=rdF (fun c l=>inR l c) c N 0 0 lv
def cE (N:Nat) (lv:List (List Rg)) (pts:List Int) (i:Nat):Option (Go.Ax.Edge (Bool × Nat)) :=
 if zv9 N lv (pts.getD i 0)=0 then none else some (pts.getD i 0,pts.getD (i+1) 0-1,(false,zv9 N lv (pts.getD i 0)))
def zf6 (N:Nat) (lv:List (List Rg)):List Int:=z81 (z8q N 0 lv)
def zcf (N:Nat) (lv:List (List Rg)):List (Go.Ax.Edge (Bool × Nat)):=(List.range ((zf6 N lv).length-1)).filterMap (cE N lv (zf6 N lv))
theorem ztc {M:Nat} (hS:zbr M) (hM:M≤200000000) (k:Bool × Nat) (hk:k.2<2 ^ 64) (hf:f<2 ^ 64) (hfo:fo.length=lv.length) (hl64:lv.length≤64) (hfx:∀ x∈fo,x<2 ^ 64) (hlr:∀ r∈lv,∀ x∈r,0≤x.1∧x.1≤1114111∧0≤x.2∧x.2≤1114111) (hln:∀ r∈lv,r.length≤200000000)
 (hsz:∀ N:Nat,(z5u (z8q N 0 lv)).length≤M) :
 z1s Tryz.prog 59 [scP k,.ptr (1,4) 0] (bsC lv f l fo nu) [] (.d (.slice ((zcf (nxN f fo k) lv).map sed))):=by
 refine z2g fun H hH=>?_
 have h4:H 1 4=some (.box [.ptr (0,14) 0]):=hH ((1,4),.box [.ptr (0,14) 0]) (by simp)
 have h14:H 1 14=some (tbx lv f l fo nu):=hH ((1,14),tbx lv f l fo nu) (by simp)
 obtain⟨b,S⟩:=k
 have hnx:=zqv (X:=14) lv f l fo nu S hk (by omega) hfx b 2
 change z1s Tryz.prog 60 [.ptr (2,14) 0,I .u64 (S:Nat),B b] [((2,14),tbx lv f l fo nu)] [] (I .u64 ((nxN f fo (b,S):Nat):Int)) at hnx
 have hNl:nxN f fo (b,S)<2 ^ 64:=by
  rw[nxN]
  split
  · exact hf
  · exact zsf S fo 0 0 (by decide) hfx
 generalize nxN f fo (b,S)=N at *
 have hrr:∀ r∈z8q N 0 lv,∀ x∈r,0≤x.1∧x.1≤1114111∧0≤x.2∧x.2≤1114111:=fun r hr=>hlr r (z8x N lv 0 r hr)
 have hal:=zjh N lv 0
 have hcuts:=zrj hS (z8q N 0 lv) (hsz N) hM hrr (by omega) (fun r hr=>hln r (z8x N lv 0 r hr))
 have hpr:=zb5 hrr
 have hpl:=zih (z8q N 0 lv)
 have hpl2:(z81 (z8q N 0 lv)).length≤200000000:=by have:=zlr (Go.Ax.srt (z5u (z8q N 0 lv)));rw[Go.Ax.zh0] at this;have:=hsz N;rw[z81];omega
 have hEq:zcf N lv=(List.range ((zf6 N lv).length-1)).filterMap (cE N lv (zf6 N lv)):=rfl
 rw[hEq]
 change z11 Tryz.prog 61 [.d (lvs (z8q N 0 lv))] (.d (.slice ((zf6 N lv).map rcc))) at hcuts
 change ∀ z∈zf6 N lv,0≤z∧z≤1114112 at hpr
 change 1≤(zf6 N lv).length at hpl
 change (zf6 N lv).length≤200000000 at hpl2
 generalize zf6 N lv=pts at *
 clear hEq
 refine z0j Tryz.func59 (by kernel_rfl) rfl (by simp) ?_
 dsimp only[Tryz.f59]
 repeat' (first|(apply z07;(first|refine z0o ?_| (apply z06;(first|refine z2y rfl h14 rfl rfl rfl rfl (by decide) ?_|refine z2y rfl h4 rfl rfl rfl rfl (by decide) ?_|refine z02 z1c rfl rfl ?_))|(apply z0d;(refine z02 z0i rfl rfl ?_))|(apply z10;(refine z02 (z1f rfl) rfl rfl ?_))|(apply z0t;(refine z3c hnx rfl (bkN h14) (by decide) ?_))|(apply z1p;(refine z05 z22 ?_))))|(apply z09;(first|refine z0n ?_|apply z0a))|(apply z08;(first|apply z0b|apply z00|apply z01)))
 all_goals try (exfalso;omega)
 refine z2f 5 1001 41 1 rfl rfl rfl ?_
 refine z1g ?_
 refine z0f (z2i (fun q:Nat × List (List Rg)=>⟨99,[(1,.ptr (2,4) 0),(2,.ptr (0,2) 0),(3,.d (.lit z3h)),(4,I .u64 (N:Nat)),(5,.ref (0,1001)),(23,.d (lvs lv)),(24,I .i64 lv.length),(25,I .i64 (q.1:Nat))],[(1001,.row 41 1 (q.2.map fun r=>[rgs r]))],H⟩) (fun q=>q.1≤lv.length∧q.2.length≤q.1∧q.2++z8q N q.1 (lv.drop q.1)=z8q N 0 lv) (fun q=>lv.length-q.1) ?_ (0,[]) ⟨Nat.zero_le _,Nat.le_refl _,rfl⟩) rfl rfl
 rintro⟨i,acc⟩ ⟨i1,i2,i3⟩ ih
 simp only at i1 i2 i3 ih ⊢
 by_cases hlt:i<lv.length
 · obtain⟨r,hr⟩:∃ r,lv[i]? =some r:=⟨_,List.getElem?_eq_getElem hlt⟩
   have hbt:=zox (S:=N) (i:=i) hNl (by omega)
   rw[zo0 N hr] at i3
   by_cases htb:N.testBit i=true
   · rw[if_pos htb] at hbt i3
     have ih':=ih (i+1,acc++[r]) ⟨by simp only;omega,by simp;omega,by simp only;rw[← i3,List.append_assoc]⟩ (by simp only;omega)
     repeat' (first|(apply z07;(first|refine z0o ?_| (apply z06;(refine z02 z2d rfl rfl ?_))|(apply z0g;(refine z02 (z1x (ys:=lv.map fun r=>[rgs r]) rfl (idx (g:=fun r=>[rgs r]) hr)) rfl rfl ?_))|(apply z0y;(first|refine z02 (zbl (by omega)) rfl rfl ?_| refine z02 z7y rfl rfl ?_| refine z02 (z0v z1e) rfl rfl ?_))|(apply z10;(refine z30 (g:=fun r:List Rg=>[rgs r]) r rfl ?_))|(apply z1v;(refine z2b rfl ?_))))|(apply z09;(first|refine z0n ?_|apply z0a))|(apply z08;(first|apply z0b|apply z00|apply z04|apply z01|apply z03|refine z0h (fun _=>?_) (fun _=>?_)| refine z0m ?_)))
     all_goals try (exfalso;omega)
     all_goals refine z1w 38 1001 ?_
     all_goals exact z0f ih' rfl rfl
   · rw[if_neg htb] at hbt i3
     have ih':=ih (i+1,acc) ⟨by simp only;omega,by simp only;omega,by simp only;rw[← i3,List.nil_append]⟩ (by simp only;omega)
     repeat' (first|(apply z07;(first|refine z0o ?_| (apply z06;(refine z02 z2d rfl rfl ?_))|(apply z0g;(refine z02 (z1x (ys:=lv.map fun r=>[rgs r]) rfl (idx (g:=fun r=>[rgs r]) hr)) rfl rfl ?_))|(apply z0y;(first|refine z02 (zbl (by omega)) rfl rfl ?_| refine z02 z7y rfl rfl ?_| refine z02 (z0v z1e) rfl rfl ?_))|(apply z10;(refine z30 _ rfl ?_))|(apply z1v;(refine z2b rfl ?_))))|(apply z09;(first|refine z0n ?_|apply z0a))|(apply z08;(first|apply z0b|apply z00|apply z04|apply z01|apply z03|refine z0h (fun _=>?_) (fun _=>?_)| refine z0m ?_)))
     all_goals try (exfalso;omega)
     all_goals exact z0f ih' rfl rfl
 · obtain rfl:i=lv.length:=by omega
   rw[List.drop_length,z8q,List.append_nil] at i3
   subst i3
   clear ih
   refine z1m 1001 rfl ?_
   repeat' (first|(apply z07;(first|refine z0o ?_| (apply z0y;(refine z02 (z1y z1e) rfl rfl ?_))|(apply z10;(refine z02 (z1f rfl) rfl rfl ?_))|(apply z0t;(refine z1h hcuts ?_))))|(apply z09;(first|refine z0n ?_|apply z0a))|(apply z08;(first|apply z0b|apply z00|apply z04|apply z01|refine z0h (fun _=>?_) (fun _=>?_)| refine z0m ?_)))
   all_goals try (exfalso;omega)
   refine z2f 8 1002 89 4 rfl rfl rfl ?_
   refine z1g ?_
   refine z0f (z2i (fun q:Nat=>⟨99,[(1,.ptr (2,4) 0),(3,.d (.lit z3h)),(4,I .u64 (N:Nat)),(8,.ref (0,1002)),(9,.d (.slice (pts.map rcc))),(44,I .i64 ((pts.length:Int)-1)),(45,I .i64 (q:Nat))],[(1002,.row 89 4 (((List.range q).filterMap (cE N lv pts)).map sed))],H⟩) (fun q=>q≤pts.length-1) (fun q=>pts.length-1-q) ?_ 0 (Nat.zero_le _)) rfl rfl
   intro i hi ih
   by_cases hlt2:i<pts.length-1
   · obtain⟨x,hx⟩:∃ x,pts[i]? =some x:=⟨_,List.getElem?_eq_getElem (by omega)⟩
     obtain⟨y,hy⟩:∃ y,pts[i+1]? =some y:=⟨_,List.getElem?_eq_getElem (by omega)⟩
     have hyi:pts[(((i:Nat):Int)+1).toNat]? =some y:=by rw[show (((i:Nat):Int)+1).toNat=i+1 by omega];exact hy
     have hxr:=hpr x (List.mem_of_getElem? hx)
     have hyr:=hpr y (List.mem_of_getElem? hy)
     have hfl:=z4r (cE N lv pts) (List.range i)
     rw[List.length_range] at hfl
     have ih':=ih (i+1) (by omega) (by omega)
     have hstep:(List.range (i+1)).filterMap (cE N lv pts)=(List.range i).filterMap (cE N lv pts)++(cE N lv pts i).toList:=by
      rw[List.range_succ,List.filterMap_append];simp[List.filterMap_cons];cases cE N lv pts i <;> rfl
     rw[hstep,cE,z3f hx,z3f hy] at ih'
     clear ih hstep
     generalize (List.range i).filterMap (cE N lv pts)=out at *
     obtain⟨m,hm⟩:∃ m,zv9 N lv x=m:=⟨_,rfl⟩
     have hml:m<2 ^ 64:=by rw[← hm];exact zs1 _ _ _ hl64 (by decide)
     rw[hm] at ih'
     rw[zv9] at hm
     repeat' (first|(apply z07;(first|refine z0o ?_| (apply z06;(first|refine z2y rfl h14 rfl rfl rfl rfl (by decide) ?_|refine z2y rfl h4 rfl rfl rfl rfl (by decide) ?_))|(apply z0d;(refine z02 z0i rfl rfl ?_))|(apply z10;(refine z02 (z1f rfl) rfl rfl ?_))|(apply z0c;(refine z1r ?_))|(apply z0e;(refine z05 z2e ?_))|(apply z0z;(refine z3p ?_))))|(apply z09;(first|refine z0n ?_|apply z0a))|(apply z08;(first|apply z0b|apply z00|apply z04|apply z01|refine z0h (fun _=>?_) (fun _=>?_)| refine z0m ?_)))
     all_goals try (exfalso;first|omega|(simp at *;done))
     refine z1g ?_
     refine z0f (z2i (fun q:Nat × Nat=>⟨99,[(1,.ptr (2,4) 0),(3,.d (.lit z3h)),(4,I .u64 (N:Nat)),(8,.ref (0,1002)),(9,.d (.slice (pts.map rcc))),(10,I .i64 (i:Nat)),(11,.ptr (0,11) 0),(44,I .i64 ((pts.length:Int)-1)),(45,I .i64 (i:Nat)),(52,.d (lvs lv)),(53,I .i64 lv.length),(54,I .i64 (q.1:Nat))],[(1002,.row 89 4 (out.map sed)),(11,.box [B false,I .u64 (q.2:Nat)])],H⟩) (fun q=>q.1≤lv.length∧q.2<2 ^ 64∧rdF (fun c l=>inR l c) x N q.1 q.2 (lv.drop q.1)=m) (fun q=>lv.length-q.1) ?_ (0,0) ⟨Nat.zero_le _,by decide,hm⟩) rfl rfl
     rintro⟨k,B'⟩ ⟨n1,n2,n3⟩ ihn
     simp only at n1 n2 n3 ihn ⊢
     by_cases hk2:k<lv.length
     · obtain⟨r,hr⟩:∃ r,lv[k]? =some r:=⟨_,List.getElem?_eq_getElem hk2⟩
       have hcl:=zh3 r (by have:=hln r (List.mem_of_getElem? hr);omega) x
       rw[zr6 _ _ _ hr] at n3
       have hbt:=zox (S:=N) (i:=k) hNl (by omega)
       have hsh:=zvr (i:=k) (by omega)
       have hp2:2 ^ k<2 ^ 64:=Nat.pow_lt_pow_right (by decide) (by omega)
       have hor:=zwd n2 hp2
       rw[← hsh] at hor
       rw[zv3] at hcl
       by_cases htb:N.testBit k=true
       · rw[if_pos htb] at hbt
         cases hin:inR r x with
         | true =>
          rw[if_pos ⟨htb,hin⟩] at n3
          rw[hin] at hcl
          have ihn':=ihn (k+1,B' ||| 2 ^ k) ⟨by simp only;omega,Nat.or_lt_two_pow n2 hp2,n3⟩ (by simp only;omega)
          dsimp only at ihn'
          rw[← hor] at ihn'
          repeat' (first|(apply z07;(first|refine z0o ?_| (apply z06;(first|refine z02 z1c rfl rfl ?_| refine z02 z2d rfl rfl ?_))|(apply z0d;(refine z02 z0i rfl rfl ?_))|(apply z0g;(first|refine z02 (z1x (ys:=lv.map fun r=>[rgs r]) rfl (idx (g:=fun r=>[rgs r]) hr)) rfl rfl ?_| refine z02 (z1x (ys:=pts.map rcc) rfl (idx (g:=rcc) hx)) rfl rfl ?_))|(apply z0y;(first|refine z02 (zbl (by omega)) rfl rfl ?_| refine z02 z7y rfl rfl ?_| refine z02 (z0v z1e) rfl rfl ?_))|(apply z0t;(refine z1h hcl ?_))))|(apply z09;(first|refine z0n ?_|apply z0a|refine z29 ?_| refine z2z (fun _=>?_) (fun _=>?_)))|(apply z08;(first|apply z0b|apply z00|refine z1i ?_| refine z14 ?_| apply z04|apply z01|apply z38|apply z03|refine z0h (fun _=>?_) (fun _=>?_)| refine z56 rfl (fun _=>?_) (fun _=>?_)|refine z0m ?_))|(apply z34;(first|(apply z1a;refine z1q mix ?_)|refine z3a ?_| (apply z0s;(first|refine z0l z1c rfl rfl ?_| refine z0l z2d rfl rfl ?_))|(apply z0p;(refine z0l z0i rfl rfl ?_))|(apply z15;(first|refine z0l (z1x (ys:=pts.map rcc) rfl (idx (g:=rcc) hx)) rfl rfl ?_| refine z0l (z1x rfl (idx hy)) rfl rfl ?_))|(apply z1z;(first|refine z0l (zu4 (by omega)) rfl rfl ?_| refine z0l zfz rfl rfl ?_| refine z0l (z0v z1e) rfl rfl ?_))|(apply z3m;(refine z6b (by first|exact rfl|exact⟨_,rfl,rfl,rfl⟩) rfl rfl rfl rfl rfl rfl ?_)))))
          all_goals try (exfalso;omega)
          all_goals exact z0f ihn' rfl rfl
         | false =>
          rw[if_neg (fun h=>by rw[hin] at h;cases h.2)] at n3
          rw[hin] at hcl
          have ihn':=ihn (k+1,B') ⟨by simp only;omega,n2,n3⟩ (by simp only;omega)
          repeat' (first|(apply z07;(first|refine z0o ?_| (apply z06;(first|refine z02 z1c rfl rfl ?_| refine z02 z2d rfl rfl ?_))|(apply z0d;(refine z02 z0i rfl rfl ?_))|(apply z0g;(first|refine z02 (z1x (ys:=lv.map fun r=>[rgs r]) rfl (idx (g:=fun r=>[rgs r]) hr)) rfl rfl ?_| refine z02 (z1x (ys:=pts.map rcc) rfl (idx (g:=rcc) hx)) rfl rfl ?_))|(apply z0y;(first|refine z02 (zbl (by omega)) rfl rfl ?_| refine z02 z7y rfl rfl ?_| refine z02 (z0v z1e) rfl rfl ?_))|(apply z0t;(refine z1h hcl ?_))))|(apply z09;(first|refine z0n ?_|apply z0a|refine z29 ?_| refine z2z (fun _=>?_) (fun _=>?_)))|(apply z08;(first|apply z0b|apply z00|refine z14 ?_| apply z04|apply z01|apply z38|apply z03|refine z0h (fun _=>?_) (fun _=>?_)| refine z56 rfl (fun _=>?_) (fun _=>?_)|refine z0m ?_))|(apply z34;(first|refine z3a ?_| (apply z0s;(refine z0l z2d rfl rfl ?_))|(apply z15;(first|refine z0l (z1x (ys:=pts.map rcc) rfl (idx (g:=rcc) hx)) rfl rfl ?_| refine z0l (z1x rfl (idx hy)) rfl rfl ?_))|(apply z1z;(refine z0l (z0v z1e) rfl rfl ?_)))))
          all_goals try (exfalso;omega)
          all_goals exact z0f ihn' rfl rfl
       · rw[if_neg htb] at hbt
         rw[if_neg (fun h=>htb h.1)] at n3
         have ihn':=ihn (k+1,B') ⟨by simp only;omega,n2,n3⟩ (by simp only;omega)
         repeat' (first|(apply z07;(first|refine z0o ?_| (apply z06;(first|refine z02 z1c rfl rfl ?_| refine z02 z2d rfl rfl ?_))|(apply z0d;(refine z02 z0i rfl rfl ?_))|(apply z0g;(first|refine z02 (z1x (ys:=lv.map fun r=>[rgs r]) rfl (idx (g:=fun r=>[rgs r]) hr)) rfl rfl ?_| refine z02 (z1x (ys:=pts.map rcc) rfl (idx (g:=rcc) hx)) rfl rfl ?_))|(apply z0y;(first|refine z02 (zbl (by omega)) rfl rfl ?_| refine z02 z7y rfl rfl ?_| refine z02 (z0v z1e) rfl rfl ?_))|(apply z0t;(refine z1h hcl ?_))))|(apply z09;(first|refine z0n ?_|apply z0a|refine z29 ?_| refine z2z (fun _=>?_) (fun _=>?_)))|(apply z08;(first|apply z0b|apply z00|refine z14 ?_| apply z04|apply z01|apply z38|apply z03|refine z0h (fun _=>?_) (fun _=>?_)| refine z56 rfl (fun _=>?_) (fun _=>?_)|refine zcr rfl (fun _=>?_) (fun _=>?_)|refine z0m ?_))|(apply z34;(first|(apply z1a;refine z1q mix ?_)|refine z3a ?_| (apply z0s;(first|refine z0l z1c rfl rfl ?_| refine z0l z2d rfl rfl ?_))|(apply z0p;(refine z0l z0i rfl rfl ?_))|(apply z15;(first|refine z0l (z1x (ys:=pts.map rcc) rfl (idx (g:=rcc) hx)) rfl rfl ?_| refine z0l (z1x rfl (idx hy)) rfl rfl ?_))|(apply z1z;(first|refine z0l (zu4 (by omega)) rfl rfl ?_| refine z0l zfz rfl rfl ?_| refine z0l (z0v z1e) rfl rfl ?_))|(apply z3m;(refine z6b (by first|exact rfl|exact⟨_,rfl,rfl,rfl⟩) rfl rfl rfl rfl rfl rfl ?_)))))
         all_goals try (exfalso;omega)
         all_goals exact z0f ihn' rfl rfl
     · obtain rfl:k=lv.length:=by omega
       rw[List.drop_length,rdF] at n3
       subst n3
       clear ihn
       by_cases hz:B'=0
       · subst hz
         rw[if_pos rfl,Option.toList_none,List.append_nil] at ih'
         repeat' (first|(apply z07;(first|refine z0o ?_| (apply z06;(refine z02 z1c rfl rfl ?_))|(apply z0d;(refine z02 z0i rfl rfl ?_))|(apply z0y;(refine z02 (z0v z1e) rfl rfl ?_))))|(apply z09;(first|refine z0n ?_|apply z0a))|(apply z08;(first|apply z0b|apply z00|refine z14 ?_| apply z04|apply z01|apply z03|refine z0h (fun _=>?_) (fun _=>?_)| refine z0m ?_)))
         all_goals try (exfalso;first|omega|(simp at *;done))
         all_goals exact z0f ih' rfl rfl
       · have hzi:¬ ((B':Nat):Int)=0:=by omega
         rw[if_neg hz,Option.toList_some] at ih'
         repeat' (first|(apply z07;(first|refine z0o ?_| (apply z06;(refine z02 z1c rfl rfl ?_))|(apply z0d;(refine z02 z0i rfl rfl ?_))|(apply z0y;(refine z02 (z0v z1e) rfl rfl ?_))))|(apply z09;(first|refine z0n ?_|apply z0a))|(apply z08;(first|apply z0b|apply z00|apply z04|apply z01|apply z38|apply z03|refine z0h (fun _=>?_) (fun _=>?_)| refine z56 rfl (fun _=>?_) (fun _=>?_)|refine z0m ?_))|(apply z34;(first|(apply z1a;refine z1q mix ?_)|refine z3a ?_| (apply z0s;(first|refine z0l z2d rfl rfl ?_| refine z0l z23 rfl rfl ?_))|(apply z15;(first|refine z0l (z1x (ys:=pts.map rcc) rfl (idx (g:=rcc) hx)) rfl rfl ?_| refine z0l (z1x (ys:=pts.map rcc) rfl (zf2 (g:=rcc) hyi)) rfl rfl ?_))|(apply z1z;(first|refine z0l (z1y (zal (by omega) (by omega))) rfl rfl ?_| refine z0l (z0v z1e) rfl rfl ?_))|(apply z5i;(refine zaf (g:=sed) (by first|exact rfl|exact⟨_,rfl,rfl,rfl⟩) rfl rfl ((x,y-1,(false,B')):Go.Ax.Edge (Bool × Nat)) rfl rfl rfl rfl rfl rfl rfl (by decide) (by omega) ?_))|(apply zdp;(refine zgl (by first|exact rfl|exact⟨_,rfl,rfl,rfl⟩) rfl rfl rfl rfl rfl rfl rfl (by decide) ?_))|(apply z8y;(refine zd6 rfl ?_)))))
         all_goals try (exfalso;first|omega|(simp at *;done))
         all_goals refine z1w 96 1002 ?_
         all_goals exact z0f ih' rfl rfl
   · obtain rfl:i=pts.length-1:=by omega
     clear ih
     repeat' (first|(apply z07;(first|refine z0o ?_| (apply z0c;(refine z1r ?_))|(apply z0e;(refine z05 z2e ?_))|(apply z0z;(refine z3p ?_))))|(apply z09;(first|refine z0n ?_|apply z0a))|(apply z08;(first|apply z0b|apply z00|apply z04|apply z01|refine z0h (fun _=>?_) (fun _=>?_)| refine z0m ?_)))
     all_goals try (exfalso;omega)
     all_goals refine z1m 1002 rfl ?_
     all_goals exact z0k Tryz.func59 _ z19 ⟨rfl,rfl⟩
end
end Go.Proofs.YthdfkabdoidjfaaGreatDoor
namespace Go.Proofs.YthdfkabdoidjfaaGreatDoor
open Go.Ab Go.Ax Go.Rx
set_option maxHeartbeats 20000000
set_option maxRecDepth 100000
attribute [local irreducible] Run Ops Op1 z1t Val Tr z11 z1s NF Rel z43 z42
theorem zes {N:Nat} {lv:List (List Rg)} {e:Go.Ax.Edge (Bool × Nat)} (h:e∈zcf N lv):∃ i x y,(zf6 N lv)[i]? =some x∧(zf6 N lv)[i+1]? =some y∧e=(x,y-1,(false,zv9 N lv x))∧zv9 N lv x≠0:=by
 rw[zcf,List.mem_filterMap] at h
 obtain⟨i,hi,he⟩:=h
 rw[List.mem_range] at hi
 obtain⟨x,hx⟩:∃ x,(zf6 N lv)[i]? =some x:=⟨_,List.getElem?_eq_getElem (by omega)⟩
 obtain⟨y,hy⟩:∃ y,(zf6 N lv)[i+1]? =some y:=⟨_,List.getElem?_eq_getElem (by omega)⟩
 rw[cE,z3f hx,z3f hy] at he
 split at he
 · cases he
 · rename_i hu
   simp only[Option.some.injEq] at he
   exact⟨i,x,y,hx,hy,he.symm,hu⟩
theorem zq3 {N:Nat} {lv:List (List Rg)} (hl64:lv.length≤64) (hlr:∀ r∈lv,∀ x∈r,0≤x.1∧x.1≤1114111∧0≤x.2∧x.2≤1114111):edE (zcf N lv)∧∀ e∈zcf N lv,e.2.2.2<2 ^ 64:=by
 have hr:=zb5 (L:=z8q N 0 lv) fun r h=>hlr r (z8x N lv 0 r h)
 have hlt:=zlw (z8q N 0 lv)
 have hlen:=zhr (B:=1114112) hlt (fun z hz=>by have:=hr z hz;omega)
 refine⟨⟨?_,fun e he=>?_⟩,fun e he=>?_⟩
 · have:=z4r (cE N lv (zf6 N lv)) (List.range ((zf6 N lv).length-1))
   rw[List.length_range] at this
   rw[zcf];rw[zf6] at *;omega
 · obtain⟨i,x,y,hx,hy,rfl,_⟩:=zes he
   have h1:=hr x (List.mem_of_getElem? hx)
   have h2:=hr y (List.mem_of_getElem? hy)
   have:x<y:=by
    obtain⟨a1,a2⟩:=List.getElem?_eq_some_iff.1 hx
    obtain⟨b1,b2⟩:=List.getElem?_eq_some_iff.1 hy
    have:=List.pairwise_iff_getElem.1 hlt i (i+1) a1 b1 (by omega)
    rw[← a2,← b2];exact this
   simp only;omega
 · obtain⟨i,x,y,hx,hy,rfl,_⟩:=zes he
   simp only;exact zs1 _ _ _ hl64 (by decide)
def zqw (lv:List (List Rg)) (f l:Nat) (fo:List Nat) (nu:Bool):Option Au:=exL (fun k=>(k.1&&nu)||decide (k.2 &&& l≠0)) (fun k=>zcf (nxN f fo k) lv) 256 257 0 [(true,0)] ⟨[],[]⟩
def zp6 (e:Rx):Option Au:=zqw (bd e tb0).1.lv (bd e tb0).2.f (bd e tb0).2.l (bd e tb0).1.fo (bd e tb0).2.nu
theorem zlc {M:Nat} (hS:zbr M) (hM:M≤200000000) (e:Rx) (hf:fit e) (h0:val e=0) (hbd:zgp 105 [.d (Drx e)] tb0 (bd e tb0)) (hsm:(bd e tb0).1.fo.length=(bd e tb0).1.lv.length∧(bd e tb0).1.lv.length≤64∧(∀ x∈(bd e tb0).1.fo,x<2 ^ 64)∧(bd e tb0).2.f<2 ^ 64∧(bd e tb0).2.l<2 ^ 64) (hlr:∀ r∈(bd e tb0).1.lv,∀ x∈r,0≤x.1∧x.1≤1114111∧0≤x.2∧x.2≤1114111) (hln:∀ r∈(bd e tb0).1.lv,r.length≤200000000)
 (hsz:∀ N:Nat,(z5u (z8q N 0 (bd e tb0).1.lv)).length≤M):z11 Tryz.prog 33 [.d (Drx e)] (zuc (zp6 e)):=by
 refine z1j fun H=>?_
 have hval:=zd4 e hf
 have hof:=y0b e hbd
 clear hbd
 rw[h0] at hval
 rw[zp6]
 dsimp only[ofB] at hof
 generalize hB:bd e tb0=r1 at *
 obtain⟨t1,p⟩:=r1
 obtain⟨lv,fo⟩:=t1
 obtain⟨hfo,hl64,hfx,pf,pl⟩:=hsm
 simp only at hfo hl64 hfx pf pl hof hlr hln hsz ⊢
 obtain⟨f,l,nu⟩:=p
 simp only at pf pl hof ⊢
 have hex:z1s Tryz.prog 63 [scP (true,0),.fn (.func 58) [] [.ptr (0,4) 0],.fn (.func 59) [] [.ptr (0,4) 0],I .i64 256] [((0,4),.box [.ptr (0,14) 0]),((0,14),tbx lv f l fo nu)] [] (exR (zqw lv f l fo nu)):=z2g fun H hH =>
  zki (.box [.ptr (0,14) 0]) (tbx lv f l fo nu) (fun k=>k.2<2 ^ 64) _ _ (true,0) 256 (by decide) (by decide) (by decide)
   (fun k hk=>zur lv f l fo nu k hk pl) (fun k hk=>ztc lv f l fo nu hS hM k hk pf hfo hl64 hfx hlr hln hsz) (fun k hk=>zq3 hl64 hlr) H (hH ((0,4),.box [.ptr (0,14) 0]) (by simp)) (hH ((0,14),tbx lv f l fo nu) (by simp))
 generalize zqw lv f l fo nu=o at *
 obtain⟨op,mn,mx,rs,ks⟩:=e
 rw[zbo] at hval hof ⊢
 cases o with
 | some x =>
  simp only[exR] at hex
  simp only[zuc]
  refine z0j Tryz.func33 (by kernel_rfl) rfl (by simp) ?_
  dsimp only[Tryz.f33]
  repeat' (first | (apply z07; (first | refine z8v rfl rfl (by decide) ?_ | refine z0o ?_| (apply z06; (first | refine z02 z3q rfl rfl ?_| refine z02 z23 rfl rfl ?_)) | (apply z0t; (first | refine z3c hex rfl rfl (by decide) ?_ | refine z1h hval ?_| (refine zm2 rfl (hof _) (by decide) rfl (fun r H' h => ⟨_, h.1, h.2, rfl, rfl, ?_⟩)) /- zev -/)) | (apply z0c; (refine z1r ?_)) | (apply z0e; (refine z05 z2e ?_)) | (apply z1p; (refine z05 z22 ?_)) | (apply z0z; (refine z3p ?_)))) | (apply z09; (first | refine z0n ?_ | apply z0a)) | (apply z08; (first | apply z0b | apply z00 | refine z14 ?_| apply z04)))
  all_goals try (exfalso;first|omega|(simp at *;done)|(simp at *;omega))
  all_goals exact z0k Tryz.func33 _ (z0u rfl rfl rfl rfl rfl rfl rfl) ⟨rfl,rfl⟩
 | none =>
  simp only[exR] at hex
  simp only[zuc]
  refine z0j Tryz.func33 (by kernel_rfl) rfl (by simp) ?_
  dsimp only[Tryz.f33]
  repeat' (first | (apply z07; (first | refine z8v rfl rfl (by decide) ?_ | refine z0o ?_| (apply z06; (refine z02 z3q rfl rfl ?_)) | (apply z0t; (first | refine z3c hex rfl rfl (by decide) ?_ | refine z1h hval ?_| (refine zm2 rfl (hof _) (by decide) rfl (fun r H' h => ⟨_, h.1, h.2, rfl, rfl, ?_⟩)) /- zev -/)) | (apply z0c; (refine z1r ?_)) | (apply z0e; (refine z05 z2e ?_)) | (apply z1p; (refine z05 z22 ?_)) | (apply z0z; (refine z3p ?_)))) | (apply z09; (first | refine z0n ?_ | apply z0a)) | (apply z08; (first | apply z0b | apply z00 | refine z1i ?_| refine z14 ?_| apply z04)))
  all_goals try (exfalso;first|omega|(simp at *;done)|(simp at *;omega))
  all_goals exact z0k Tryz.func33 _ (z0u rfl rfl rfl rfl rfl rfl rfl) ⟨rfl,rfl⟩
end Go.Proofs.YthdfkabdoidjfaaGreatDoor
