/- A part of the proof: A11, A12, A22, A20, A21, A23. -/
import Derived.Test.YthdfkabdoidjfaaGreatDoorQ1
import Derived.Test.YthdfkabdoidjfaaGreatDoorQy
import Derived.Test.YthdfkabdoidjfaaGreatDoorQc
set_option linter.all false
set_option linter.unusedVariables false
set_option linter.unusedSimpArgs false
namespace Go.Proofs.YthdfkabdoidjfaaGreatDoor
open Go.Ab Go.Ax
set_option maxHeartbeats 20000000
set_option maxRecDepth 100000
attribute [local irreducible] Run Ops Op1 z2b Val Tr z0v z2c NF Rel z3w z3x
section
variable {K:Type} [DecidableEq K]
def z38:Nat→List K→List (K × D)
 | _,[]=>[]
 | i,k::ks=>(k,z1m (i:Nat))::z38 (i+1) ks
theorem z6v (k:K):∀ (ks:List K) (i:Nat),z4y (z38 i ks) k=if k∈ks then some (z1m ((i+z3l k ks:Nat):Int)) else none
 | [],i=>by simp[z38,z4y]
 | x::ks,i=>by
  rw[z38,z4y,z3l]
  by_cases h:x=k
  · rw[if_pos h,if_pos h,if_pos (by simp[h])];rfl
  · rw[if_neg h,if_neg h,z6v k ks (i+1)]
    by_cases h2:k∈ks
    · rw[if_pos h2,if_pos (by simp[h2]),show i+1+z3l k ks=i+(z3l k ks+1) by omega]
    · rw[if_neg h2,if_neg (by simp[h2,Ne.symm h])]
theorem zld (k:K):∀ (ks:List K) (i:Nat),z38 i (ks++[k])=z38 i ks++[(k,z1m ((i+ks.length:Nat):Int))]
 | [],i=>by simp[z38]
 | x::ks,i=>by
  rw[List.cons_append,z38,z38,zld k ks (i+1),List.cons_append,List.length_cons,show i+1+ks.length=i+(ks.length+1) by omega]
theorem zk5 {x:K × D}:∀ {ks:List K} {i:Nat},x∈z38 i ks→x.1∈ks
 | [],i,h=>by simp[z38] at h
 | y::ks,i,h=>by
  rw[z38,List.mem_cons] at h
  rcases h with h|h
  · rw[h];simp
  · exact List.mem_cons_of_mem _ (zk5 h)
theorem z8b {k:K} {ks:List K} (h:k∉ks):zfh (z38 0 ks) k (z1m (ks.length:Nat))=z38 0 (ks++[k]):=by
 rw[zbk (z38 0 ks) k _ (fun x hx e=>h (by rw[← e];exact zk5 hx)),zld,Nat.zero_add]
theorem z3o {k:K}:∀ {l:List K},k∉l→z3l k l=l.length
 | [],_=>rfl
 | x::l,h=>by
  rw[List.mem_cons,not_or] at h
  rw[z3l,if_neg (Ne.symm h.1),z3o h.2];rfl
end
theorem z8k:zhq Tryz.prog 3 (fun x:Int=>Value.int .i64 x):=(y12 .i64).gen (T3.int rfl)
theorem z8j {a:Int}:∀ β w own v,PR β w own (I .i64 a) v→v=Value.int .i64 a:=fun β w own v h=>h.lit
end Go.Proofs.YthdfkabdoidjfaaGreatDoor
namespace Go.Proofs.YthdfkabdoidjfaaGreatDoor
open Go.Ab Go.Ax
set_option maxHeartbeats 20000000
set_option maxRecDepth 100000
attribute [local irreducible] Run Ops Op1 z2b Val Tr z0v z2c NF Rel z3w z3x
def exR (o:Option Au):PV:=match o with
 | some a=>.tup [.d (auD a),B true]
 | none=>.tup [.d (auD ⟨[],[]⟩),B false]
def edE {K:Type} (es:List (Go.Ax.Edge K)):Prop:=es.length≤2000000∧∀ e∈es,0≤e.1∧e.1≤e.2.1∧e.2.1≤1114111
abbrev mpI (ks:List Int):Blk:=.mp ((z38 0 ks).map fun p=>(Value.int .i64 p.1,p.2))
abbrev icc (x:Int):List D:=[z1m x]
def zvq (k:Bool × Nat):Value:=.agg #[.bool k.1,.int .u64 (k.2:Nat)]
def zik (k:Int × Int):Value:=.agg #[.int .i64 k.1,.int .i64 k.2]
abbrev mpS (ks:List (Bool × Nat)):Blk:=.mp ((z38 0 ks).map fun p=>(zvq p.1,p.2))
abbrev mpP (ks:List (Int × Int)):Blk:=.mp ((z38 0 ks).map fun p=>(zik p.1,p.2))
abbrev scc (x:Bool × Nat):List D:=[z7l x.1,zue (x.2:Nat)]
abbrev pcc (x:Int × Int):List D:=[z1m x.1,z1m x.2]
abbrev scP (x:Bool × Nat):PV:=.d (.agg (scc x))
abbrev pcP (x:Int × Int):PV:=.d (.agg (pcc x))
abbrev sed (e:Go.Ax.Edge (Bool × Nat)):List D:=[z3e e.1,z3e e.2.1,z7l e.2.2.1,zue (e.2.2.2:Nat)]
abbrev ped (e:Go.Ax.Edge (Int × Int)):List D:=[z3e e.1,z3e e.2.1,z1m e.2.2.1,z1m e.2.2.2]
abbrev boc (b:Bool):List D:=[z7l b]
theorem z8e {K:Type} [DecidableEq K] (ks:List K) (k:K):(z5q ks k).length≤ks.length+1:=by rw[z5q];split <;> simp
theorem z7q {K:Type} [DecidableEq K] {ks:List K} {k x:K} (h:x∈z5q ks k):x=k∨x∈ks:=by
 rw[z5q] at h
 split at h
 · exact .inr h
 · rw[List.mem_append,List.mem_singleton] at h;exact h.symm
theorem zmb (b1:Blk) (ok:Int→Prop) (fin:Int→Bool) (edg:Int→List (Go.Ax.Edge (Int))) (first:Int) (lim:Int) (hl0:1≤lim) (hl1:lim≤2000000) (hok0:ok first)
 (hfin:∀ k,ok k→z2c Tryz.prog 83 [I .i64 k,.ptr (1,1) 0] [((1,1),b1)] [] (B (fin k))) (hedg:∀ k,ok k→z2c Tryz.prog 84 [I .i64 k,.ptr (1,1) 0] [((1,1),b1)] [] (.d (z95 (edg k)))) (hE:∀ k,ok k→edE (edg k)∧∀ e∈edg k,ok e.2.2)
 (H:Hf) (hb1:H 0 1=some b1) :
 Ab.Spec Tryz.prog 82 [I .i64 first,.fn (.func 83) [] [.ptr (0,1) 0],.fn (.func 84) [] [.ptr (0,1) 0],I .i64 lim] H (fun r H'=>r=.v (exR (exL fin edg lim.toNat (lim.toNat+1) 0 [first] ⟨[],[]⟩))∧H'=H):=by
 have hb:∀ (n:Nat) (tm:List (Nat × PV)) (hp:Hp),BkE ⟨n,tm,hp,H⟩ [((1,1),b1)]:=fun n tm hp=>by simp[BkE,z4k,push,hb1]
 refine z0k Tryz.func82 (by kernel_rfl) rfl (by simp) ?_
 dsimp only[Tryz.f82]
 repeat' (first|(apply z05;(first|refine z94 (by decide) rfl ?_|refine zd6 (et:=3) (a:=first) (v:=z1m 0) (py:=I .i64 first) (q:=([]:List ((Int) × D))) (by kernel_rfl) z8k rfl rfl z8j rfl rfl rfl ?_|refine z0o ?_| (apply z0h;(refine z0b z2i ?_))|(apply z1w;(refine zb3 rfl rfl rfl rfl rfl rfl rfl rfl rfl (by decide) ?_))))|(apply z08;(first|refine z0n ?_|apply z07))|(apply z06;(first|apply z0a|apply z00|apply z01)))
 refine z1s 24 1000 ?_
 refine z2z 10 0 1001 4 1 rfl rfl rfl rfl ?_
 refine z2z 10 1 1002 39 1 rfl rfl rfl rfl ?_
 generalize hres:exL fin edg lim.toNat (lim.toNat+1) 0 [first] ⟨[],[]⟩=res
 refine z1a ?_
 refine z0e (z1y (fun q:Nat × List (Int) × Au=>⟨128,[(1,.fn (.func 83) [] [.ptr (1,1) 0]),(2,.fn (.func 84) [] [.ptr (1,1) 0]),(3,I .i64 lim),(8,.ptr (0,8) 0),(10,.ptr (0,10) 0),(11,.ref (0,20)),(12,.ref (0,1000)),(13,I .i64 (q.1:Nat))],[(20,mpI q.2.1),(1000,.row 3 1 (q.2.1.map icc)),(10,.box [.ref (0,1001),.ref (0,1002)]),(1001,.row 4 1 (q.2.2.F.map boc)),(1002,.row 39 1 (q.2.2.A.map z4a)),(8,.box [.d (.lit z30),.d (.lit z30)])],H⟩) (fun q=>q.1≤q.2.1.length∧1≤q.2.1.length∧q.2.1.length≤lim.toNat∧q.2.2.F.length=q.1∧q.2.2.A.length=q.1∧(∀ x∈q.2.1,ok x)∧exL fin edg lim.toNat (lim.toNat+1-q.1) q.1 q.2.1 q.2.2=res) (fun q=>lim.toNat+1-q.1) ?_ (0,[first],⟨[],[]⟩) ⟨Nat.zero_le _,Nat.le_refl _,by simp only[List.length_singleton];omega,rfl,rfl,fun x hx=>by rw[List.mem_singleton] at hx;rw[hx];exact hok0,hres⟩) rfl rfl
 rintro⟨i,ks,⟨F,A⟩⟩ ⟨i1,i2,i3,i4,i5,i7,i6⟩ ih
 simp only at i1 i2 i3 i4 i5 i6 i7 ih ⊢
 by_cases hlt:i<ks.length
 · obtain⟨k,hk⟩:∃ k,ks[i]? =some k:=⟨_,List.getElem?_eq_getElem hlt⟩
   obtain⟨n,hn⟩:∃ n,lim.toNat+1-i=n+1:=⟨lim.toNat-i,by omega⟩
   rw[hn,exL,hk] at i6
   simp only at i6
   have hok:=i7 k (List.mem_of_getElem? hk)
   have hff:=hfin k hok
   have hee:=hedg k hok
   obtain⟨⟨hE1,hE2⟩,hE3⟩:=hE k hok
   generalize edg k=es at *
   generalize fin k=fb at *
   repeat' (first|(apply z05;(first|refine z0o ?_| (apply z09;(refine z02 (z2d (u:=z1m k) hk) rfl rfl ?_))|(apply z0f;(refine z02 (z3g rfl) rfl rfl ?_))|(apply z0t;(first|refine z02 (zb1 rfl) rfl rfl ?_| refine z02 (z1b rfl) rfl rfl ?_))|(apply z0u;(refine zry (first:=[]) (cap:=[.ptr (1,1) 0]) (ps:=[I .i64 k]) hee rfl rfl (hb _ _ _) (by decide) ?_))))|(apply z08;(first|refine z0n ?_|apply z07))|(apply z06;(first|apply z0a|apply z00|apply z04|apply z01|refine z0g (fun _=>?_) (fun _=>?_)| refine z0j ?_)))
   all_goals try (exfalso;simp only[List.length_map] at *;omega)
   refine z2e 14 1003 38 3 rfl rfl rfl ?_
   refine z1a ?_
   refine z0e (z1y (fun q:Nat × List (Int) × List Arc=>⟨128,[(1,.fn (.func 83) [] [.ptr (1,1) 0]),(2,.fn (.func 84) [] [.ptr (1,1) 0]),(3,I .i64 lim),(8,.ptr (0,8) 0),(10,.ptr (0,10) 0),(11,.ref (0,20)),(12,.ref (0,1000)),(13,I .i64 (i:Nat)),(14,.ref (0,1003)),(36,.d (.slice (es.map z2l))),(37,I .i64 es.length),(38,I .i64 (q.1:Nat))],[(20,mpI q.2.1),(1000,.row 3 1 (q.2.1.map icc)),(1003,.row 38 3 (q.2.2.map z2l)),(10,.box [.ref (0,1001),.ref (0,1002)]),(1001,.row 4 1 (F.map boc)),(1002,.row 39 1 (A.map z4a)),(8,.box [.d (.lit z30),.d (.lit z30)])],H⟩) (fun q=>q.1≤es.length∧q.2.2.length≤q.1∧q.2.1.length≤ks.length+q.1∧q.2.1[i]? =some k∧(∀ y∈q.2.2,0≤y.2.1∧y.2.1≤1114111)∧(∀ x∈q.2.1,ok x)∧(es.drop q.1).foldl z5a q.2=es.foldl z5a (ks,[])) (fun q=>es.length-q.1) ?_ (0,ks,[]) ⟨Nat.zero_le _,Nat.le_refl _,Nat.le_refl _,hk,by simp,i7,rfl⟩) rfl rfl
   rintro⟨j,ks2,arcs⟩ ⟨j1,j2,j3,j4,j5,j7,j6⟩ ihj
   simp only at j1 j2 j3 j4 j5 j6 j7 ihj ⊢
   by_cases hjl:j<es.length
   · obtain⟨e,he⟩:∃ e,es[j]? =some e:=⟨_,List.getElem?_eq_getElem hjl⟩
     obtain⟨r1,r2,r3⟩:=hE2 e (List.mem_of_getElem? he)
     rw[drop_cons he,List.foldl_cons,z5a] at j6
     simp only at j6
     have hal:=z8e ks2 e.2.2
     have hln:=z8z arcs e.1 e.2.1 (z3l e.2.2 ks2:Nat)
     have ihj':=ihj (j+1,z5q ks2 e.2.2,ext arcs e.1 e.2.1 (z3l e.2.2 ks2:Nat)) ⟨by simp only;omega,by simp only;omega,by simp only;omega,by simp only;obtain⟨x,hx⟩:=z6o ks2 e.2.2;rw[hx,List.getElem?_append_left (List.getElem?_eq_some_iff.1 j4).1];exact j4,fun y hy=>by
      rcases ext_mem hy with h|h
      · omega
      · exact j5 y h,fun x hx=>by
      rcases z7q hx with h|h
      · rw[h];exact hE3 e (List.mem_of_getElem? he)
      · exact j7 x h,j6⟩ (by simp only;omega)
     have hget:=z6v e.2.2 ks2 0
     clear ihj hal
     by_cases hknown:e.2.2∈ks2
     · rw[z5q,if_pos hknown] at ihj'
       rw[if_pos hknown,Nat.zero_add] at hget
       have hget1:(z4y (z38 0 ks2) e.2.2).getD (.lit (.int .i64 0))=z1m (z3l e.2.2 ks2:Nat):=by rw[hget];rfl
       have hget2:(z4y (z38 0 ks2) e.2.2).isSome=true:=by rw[hget];rfl
       generalize z3l e.2.2 ks2=qv at *
       rcases zfn arcs with rfl|⟨m,y,rfl⟩
       · rw[ext_nil] at ihj'
         repeat' (first|(apply z05;(first|refine z0b (z4d (et:=3) (a:=e.2.2) (q:=z38 0 ks2) (z0:=Value.int .i64 0) (py:=I .i64 e.2.2) z8k (z2a (by kernel_rfl)) rfl rfl rfl z8j rfl hget1 hget2) ?_|refine z0o ?_| (apply z09;(first|refine z02 z1d rfl rfl ?_| refine z02 z27 rfl rfl ?_))|(apply z0d;(refine z02 z0i rfl rfl ?_))|(apply z0f;(refine z02 (z1i (ys:=es.map z2l) rfl (idx he)) rfl rfl ?_))|(apply z0p;(refine z02 (z0q z1c) rfl rfl ?_))|(apply z0t;(first|refine z02 (z18 rfl) rfl rfl ?_| refine z50 (g:=z2l) rfl rfl (e.1,e.2.1,((qv:Nat):Int)) rfl rfl rfl rfl rfl rfl rfl (by decide) (by simp) ?_))|(apply z0c;(refine z23 ?_))|(apply z0h;(refine z0b z2i ?_))|(apply z0z;(refine z3s ?_))|(apply z1w;(refine z29 rfl ?_))))|(apply z08;(first|refine z0n ?_|apply z07))|(apply z06;(first|apply z0a|apply z00|refine z11 ?_| apply z04|apply z01|apply z2p|apply z03|refine z0g (fun _=>?_) (fun _=>?_)| refine z0j ?_))|(apply z2r;(first|(apply z15;refine z1o mix ?_)|refine z2y ?_| refine z2s ?_| (apply z0r;(refine z0m z1d rfl rfl ?_))|(apply z0s;(refine z0m z0i rfl rfl ?_)))))
         all_goals try (exfalso;first|omega|(simp at *;done))
         all_goals skip
         all_goals refine z1s 103 1003 ?_
         all_goals exact z0e ihj' rfl rfl
       · have hy:=j5 y (by simp)
         have hal:((m++[y]).map z2l).length=m.length+1:=by simp
         have hal2:(m++[y]).length=m.length+1:=by simp
         have hix:(m++[y])[(((((m++[y]).length:Nat):Int)-1)).toNat]? =some y:=by
          rw[hal2,show (((m.length+1:Nat):Int)-1).toNat=m.length by omega];simp
         have hse:(m++[y]).set (((((m++[y]).length:Nat):Int)-1)).toNat ((y.1,e.2.1,y.2.2):Arc)=m++[(y.1,e.2.1,y.2.2)]:=by
          rw[hal2,show (((m.length+1:Nat):Int)-1).toNat=m.length by omega];simp
         rw[z3p] at ihj'
         by_cases hj:y.2.1+1=e.1∧y.2.2=(qv:Nat)
         · have hyq:(y.1,e.2.1,((qv:Nat):Int))=((y.1,e.2.1,y.2.2):Arc):=by rw[hj.2]
           rw[if_pos hj,hyq] at ihj'
           repeat' (first|(apply z05;(first|refine z0b (z4d (et:=3) (a:=e.2.2) (q:=z38 0 ks2) (z0:=Value.int .i64 0) (py:=I .i64 e.2.2) z8k (z2a (by kernel_rfl)) rfl rfl rfl z8j rfl hget1 hget2) ?_|refine z0o ?_| (apply z09;(first|refine z02 z1d rfl rfl ?_| refine z02 z27 rfl rfl ?_))|(apply z0d;(first|refine z02 z0i rfl rfl ?_| refine z02 z3u rfl rfl ?_))|(apply z0f;(first|refine z02 (z1i (ys:=es.map z2l) rfl (idx he)) rfl rfl ?_| refine z02 (z3g rfl) rfl rfl ?_))|(apply z0p;(first|refine z02 (z0q z1c) rfl rfl ?_| refine z02 (z22 z1c) rfl rfl ?_))|(apply z0t;(first|refine z02 (z18 rfl) rfl rfl ?_| refine z2q (g:=z2l) (e.1,e.2.1,((qv:Nat):Int)) rfl ?_))|(apply z0c;(first|refine z42 ((y.1,e.2.1,y.2.2):Arc) hix hse ?_| refine z23 ?_))|(apply z0h;(refine z0b z2i ?_))|(apply z0z;(refine z3s ?_))|(apply z1w;(refine z29 rfl ?_))))|(apply z08;(first|refine z0n ?_|apply z07))|(apply z06;(first|apply z0a|apply z00|refine z11 ?_| apply z04|apply z01|apply z2p|apply z03|refine z0g (fun _=>?_) (fun _=>?_)| refine z0j ?_))|(apply z2r;(first|(apply z15;refine z1o mix ?_)|refine z2y ?_| refine z2s ?_| (apply z0r;(first|refine z0m (z2d (u:=z3e y.2.1) hix) rfl rfl ?_| refine z0m (z2d (u:=z1m y.2.2) hix) rfl rfl ?_| refine z0m z1d rfl rfl ?_))|(apply z0s;(first|refine z0m z0i rfl rfl ?_| refine z0m z3u rfl rfl ?_))|(apply z14;(refine z0m (z3g rfl) rfl rfl ?_))|(apply z2f;(first|refine z0m (z0q (z8x (by omega) (by omega))) rfl rfl ?_| refine z0m (z22 z1c) rfl rfl ?_))|(refine z1n rfl rfl (fun hg=>?_) (fun hg=>?_) <;> simp only[hg] <;> (try simp only[decide_eq_true_eq,decide_eq_false_iff_not,Bool.not_eq_true',Bool.not_eq_false'] at hg)))))
           all_goals try (exfalso;omega)
           all_goals skip
           all_goals exact z0e ihj' rfl rfl
         · rw[if_neg hj] at ihj'
           repeat' (first|(apply z05;(first|refine z0b (z4d (et:=3) (a:=e.2.2) (q:=z38 0 ks2) (z0:=Value.int .i64 0) (py:=I .i64 e.2.2) z8k (z2a (by kernel_rfl)) rfl rfl rfl z8j rfl hget1 hget2) ?_|refine z0o ?_| (apply z09;(first|refine z02 z1d rfl rfl ?_| refine z02 z27 rfl rfl ?_))|(apply z0d;(first|refine z02 z0i rfl rfl ?_| refine z02 z3u rfl rfl ?_))|(apply z0f;(first|refine z02 (z1i (ys:=es.map z2l) rfl (idx he)) rfl rfl ?_| refine z02 (z3g rfl) rfl rfl ?_))|(apply z0p;(first|refine z02 (z0q z1c) rfl rfl ?_| refine z02 (z22 z1c) rfl rfl ?_))|(apply z0t;(first|refine z02 (z18 rfl) rfl rfl ?_| refine z2q (g:=z2l) (e.1,e.2.1,((qv:Nat):Int)) rfl ?_))|(apply z0c;(first|refine z42 ((y.1,e.2.1,y.2.2):Arc) hix hse ?_| refine z23 ?_))|(apply z0h;(refine z0b z2i ?_))|(apply z0z;(refine z3s ?_))|(apply z1w;(refine z29 rfl ?_))))|(apply z08;(first|refine z0n ?_|apply z07))|(apply z06;(first|apply z0a|apply z00|refine z11 ?_| apply z04|apply z01|apply z2p|apply z03|refine z0g (fun _=>?_) (fun _=>?_)| refine z0j ?_))|(apply z2r;(first|(apply z15;refine z1o mix ?_)|refine z2y ?_| refine z2s ?_| (apply z0r;(first|refine z0m (z2d (u:=z3e y.2.1) hix) rfl rfl ?_| refine z0m (z2d (u:=z1m y.2.2) hix) rfl rfl ?_| refine z0m z1d rfl rfl ?_))|(apply z0s;(first|refine z0m z0i rfl rfl ?_| refine z0m z3u rfl rfl ?_))|(apply z14;(refine z0m (z3g rfl) rfl rfl ?_))|(apply z2f;(first|refine z0m (z0q (z8x (by omega) (by omega))) rfl rfl ?_| refine z0m (z22 z1c) rfl rfl ?_))|(refine z1n rfl rfl (fun hg=>?_) (fun hg=>?_) <;> simp only[hg] <;> (try simp only[decide_eq_true_eq,decide_eq_false_iff_not,Bool.not_eq_true',Bool.not_eq_false'] at hg)))))
           all_goals try (exfalso;omega)
           all_goals skip
           all_goals refine z1s 103 1003 ?_
           all_goals exact z0e ihj' rfl rfl
     · rw[z5q,if_neg hknown,z3o hknown] at ihj'
       rw[z3o hknown] at hln
       rw[if_neg hknown] at hget
       have hget1:(z4y (z38 0 ks2) e.2.2).getD (.lit (.int .i64 0))=z1m 0:=by rw[hget];rfl
       have hget2:(z4y (z38 0 ks2) e.2.2).isSome=false:=by rw[hget];rfl
       have hput:=z8b hknown
       dsimp only[mpI] at ihj'
       rw[← hput] at ihj'
       rcases zfn arcs with rfl|⟨m,y,rfl⟩
       · rw[ext_nil] at ihj'
         repeat' (first|(apply z05;(first|refine z0b (z4d (et:=3) (a:=e.2.2) (q:=z38 0 ks2) (z0:=Value.int .i64 0) (py:=I .i64 e.2.2) z8k (z2a (by kernel_rfl)) rfl rfl rfl z8j rfl hget1 hget2) ?_|refine z0o ?_| (apply z09;(first|refine z02 z1d rfl rfl ?_| refine z02 z27 rfl rfl ?_))|(apply z0d;(refine z02 z0i rfl rfl ?_))|(apply z0f;(refine z02 (z1i (ys:=es.map z2l) rfl (idx he)) rfl rfl ?_))|(apply z0p;(refine z02 (z0q z1c) rfl rfl ?_))|(apply z0t;(first|refine z02 (z18 rfl) rfl rfl ?_| refine z2q (g:=icc) e.2.2 rfl ?_| refine z50 (g:=z2l) rfl rfl (e.1,e.2.1,((ks2.length:Nat):Int)) rfl rfl rfl rfl rfl rfl rfl (by decide) (by simp) ?_))|(apply z0c;(refine z23 ?_))|(apply z0h;(refine z0b z2i ?_))|(apply z0z;(refine z3s ?_))|(apply z1w;(refine z29 rfl ?_))|refine z3y (et:=3) (a:=e.2.2) (v:=z1m (ks2.length:Nat)) (py:=I .i64 e.2.2) (q:=z38 0 ks2) (by kernel_rfl) z8k rfl rfl z8j rfl rfl rfl ?_))|(apply z08;(first|refine z0n ?_|apply z07))|(apply z06;(first|apply z0a|apply z00|refine z1h ?_| refine z11 ?_| apply z04|apply z01|apply z2p|apply z03|refine z0g (fun _=>?_) (fun _=>?_)| refine z0j ?_))|(apply z2r;(first|(apply z15;refine z1o mix ?_)|refine z2y ?_| refine z2s ?_| (apply z0r;(refine z0m z1d rfl rfl ?_))|(apply z0s;(refine z0m z0i rfl rfl ?_)))))
         all_goals try (exfalso;first|omega|(simp at *;done))
         all_goals refine z1s 61 1000 ?_
         all_goals refine z1s 103 1003 ?_
         all_goals exact z0e ihj' rfl rfl
       · have hy:=j5 y (by simp)
         have hal:((m++[y]).map z2l).length=m.length+1:=by simp
         have hal2:(m++[y]).length=m.length+1:=by simp
         have hix:(m++[y])[(((((m++[y]).length:Nat):Int)-1)).toNat]? =some y:=by
          rw[hal2,show (((m.length+1:Nat):Int)-1).toNat=m.length by omega];simp
         have hse:(m++[y]).set (((((m++[y]).length:Nat):Int)-1)).toNat ((y.1,e.2.1,y.2.2):Arc)=m++[(y.1,e.2.1,y.2.2)]:=by
          rw[hal2,show (((m.length+1:Nat):Int)-1).toNat=m.length by omega];simp
         rw[z3p] at ihj'
         by_cases hj:y.2.1+1=e.1∧y.2.2=(ks2.length:Nat)
         · have hyq:(y.1,e.2.1,((ks2.length:Nat):Int))=((y.1,e.2.1,y.2.2):Arc):=by rw[hj.2]
           rw[if_pos hj,hyq] at ihj'
           repeat' (first|(apply z05;(first|refine z0b (z4d (et:=3) (a:=e.2.2) (q:=z38 0 ks2) (z0:=Value.int .i64 0) (py:=I .i64 e.2.2) z8k (z2a (by kernel_rfl)) rfl rfl rfl z8j rfl hget1 hget2) ?_|refine z0o ?_| (apply z09;(first|refine z02 z1d rfl rfl ?_| refine z02 z27 rfl rfl ?_))|(apply z0d;(first|refine z02 z0i rfl rfl ?_| refine z02 z3u rfl rfl ?_))|(apply z0f;(first|refine z02 (z1i (ys:=es.map z2l) rfl (idx he)) rfl rfl ?_| refine z02 (z3g rfl) rfl rfl ?_))|(apply z0p;(first|refine z02 (z0q z1c) rfl rfl ?_| refine z02 (z22 z1c) rfl rfl ?_))|(apply z0t;(first|refine z02 (z18 rfl) rfl rfl ?_| refine z2q (g:=icc) e.2.2 rfl ?_| refine z2q (g:=z2l) (e.1,e.2.1,((ks2.length:Nat):Int)) rfl ?_))|(apply z0c;(first|refine z42 ((y.1,e.2.1,y.2.2):Arc) hix hse ?_| refine z23 ?_))|(apply z0h;(refine z0b z2i ?_))|(apply z0z;(refine z3s ?_))|(apply z1w;(refine z29 rfl ?_))|refine z3y (et:=3) (a:=e.2.2) (v:=z1m (ks2.length:Nat)) (py:=I .i64 e.2.2) (q:=z38 0 ks2) (by kernel_rfl) z8k rfl rfl z8j rfl rfl rfl ?_))|(apply z08;(first|refine z0n ?_|apply z07))|(apply z06;(first|apply z0a|apply z00|refine z1h ?_| refine z11 ?_| apply z04|apply z01|apply z2p|apply z03|refine z0g (fun _=>?_) (fun _=>?_)| refine z0j ?_))|(apply z2r;(first|(apply z15;refine z1o mix ?_)|refine z2y ?_| refine z2s ?_| (apply z0r;(first|refine z0m (z2d (u:=z3e y.2.1) hix) rfl rfl ?_| refine z0m (z2d (u:=z1m y.2.2) hix) rfl rfl ?_| refine z0m z1d rfl rfl ?_))|(apply z0s;(first|refine z0m z0i rfl rfl ?_| refine z0m z3u rfl rfl ?_))|(apply z14;(refine z0m (z3g rfl) rfl rfl ?_))|(apply z2f;(first|refine z0m (z0q (z8x (by omega) (by omega))) rfl rfl ?_| refine z0m (z22 z1c) rfl rfl ?_))|(refine z1n rfl rfl (fun hg=>?_) (fun hg=>?_) <;> simp only[hg] <;> (try simp only[decide_eq_true_eq,decide_eq_false_iff_not,Bool.not_eq_true',Bool.not_eq_false'] at hg)))))
           all_goals try (exfalso;omega)
           all_goals refine z1s 61 1000 ?_
           all_goals exact z0e ihj' rfl rfl
         · rw[if_neg hj] at ihj'
           repeat' (first|(apply z05;(first|refine z0b (z4d (et:=3) (a:=e.2.2) (q:=z38 0 ks2) (z0:=Value.int .i64 0) (py:=I .i64 e.2.2) z8k (z2a (by kernel_rfl)) rfl rfl rfl z8j rfl hget1 hget2) ?_|refine z0o ?_| (apply z09;(first|refine z02 z1d rfl rfl ?_| refine z02 z27 rfl rfl ?_))|(apply z0d;(first|refine z02 z0i rfl rfl ?_| refine z02 z3u rfl rfl ?_))|(apply z0f;(first|refine z02 (z1i (ys:=es.map z2l) rfl (idx he)) rfl rfl ?_| refine z02 (z3g rfl) rfl rfl ?_))|(apply z0p;(first|refine z02 (z0q z1c) rfl rfl ?_| refine z02 (z22 z1c) rfl rfl ?_))|(apply z0t;(first|refine z02 (z18 rfl) rfl rfl ?_| refine z2q (g:=icc) e.2.2 rfl ?_| refine z2q (g:=z2l) (e.1,e.2.1,((ks2.length:Nat):Int)) rfl ?_))|(apply z0c;(first|refine z42 ((y.1,e.2.1,y.2.2):Arc) hix hse ?_| refine z23 ?_))|(apply z0h;(refine z0b z2i ?_))|(apply z0z;(refine z3s ?_))|(apply z1w;(refine z29 rfl ?_))|refine z3y (et:=3) (a:=e.2.2) (v:=z1m (ks2.length:Nat)) (py:=I .i64 e.2.2) (q:=z38 0 ks2) (by kernel_rfl) z8k rfl rfl z8j rfl rfl rfl ?_))|(apply z08;(first|refine z0n ?_|apply z07))|(apply z06;(first|apply z0a|apply z00|refine z1h ?_| refine z11 ?_| apply z04|apply z01|apply z2p|apply z03|refine z0g (fun _=>?_) (fun _=>?_)| refine z0j ?_))|(apply z2r;(first|(apply z15;refine z1o mix ?_)|refine z2y ?_| refine z2s ?_| (apply z0r;(first|refine z0m (z2d (u:=z3e y.2.1) hix) rfl rfl ?_| refine z0m (z2d (u:=z1m y.2.2) hix) rfl rfl ?_| refine z0m z1d rfl rfl ?_))|(apply z0s;(first|refine z0m z0i rfl rfl ?_| refine z0m z3u rfl rfl ?_))|(apply z14;(refine z0m (z3g rfl) rfl rfl ?_))|(apply z2f;(first|refine z0m (z0q (z8x (by omega) (by omega))) rfl rfl ?_| refine z0m (z22 z1c) rfl rfl ?_))|(refine z1n rfl rfl (fun hg=>?_) (fun hg=>?_) <;> simp only[hg] <;> (try simp only[decide_eq_true_eq,decide_eq_false_iff_not,Bool.not_eq_true',Bool.not_eq_false'] at hg)))))
           all_goals try (exfalso;omega)
           all_goals refine z1s 61 1000 ?_
           all_goals refine z1s 103 1003 ?_
           all_goals exact z0e ihj' rfl rfl
   · obtain rfl:j=es.length:=by omega
     rw[List.drop_length,List.foldl_nil] at j6
     rw[← j6] at i6
     simp only at i6
     have hi2:=(List.getElem?_eq_some_iff.1 j4).1
     refine z1g 1003 rfl ?_
     by_cases hlim:lim.toNat<ks2.length
     · rw[if_pos hlim] at i6
       rw[← i6]
       repeat' (first|(apply z05;(first|refine z0o ?_| (apply z0t;(refine z02 (z18 rfl) rfl rfl ?_))|(apply z0c;(refine z23 ?_))|(apply z0z;(refine z3s ?_))))|(apply z08;(first|refine z0n ?_|apply z07))|(apply z06;(first|apply z0a|apply z00|apply z04|apply z01|apply z2p|refine z0g (fun _=>?_) (fun _=>?_)| refine z0j ?_))|(apply z2r;(first|refine z2s ?_| (apply z0r;(refine z0m z1d rfl rfl ?_))|(apply z0s;(refine z0m z0i rfl rfl ?_)))))
       all_goals try (exfalso;omega)
       all_goals exact z0l Tryz.func82 _ (z0x rfl rfl rfl rfl rfl rfl rfl) ⟨rfl,rfl⟩
     · rw[if_neg hlim] at i6
       have ih':=ih (i+1,ks2,⟨F++[fb],A++[arcs]⟩) ⟨by simp only;omega,by simp only;omega,by simp only;omega,by simp[i4],by simp[i5],j7,by rw[← i6];simp only;rw[show lim.toNat+1-(i+1)=n by omega]⟩ (by simp only;omega)
       simp only at ih'
       repeat' (first|(apply z05;(first|refine z0o ?_| (apply z09;(refine z02 z1d rfl rfl ?_))|(apply z0d;(refine z02 z0i rfl rfl ?_))|(apply z0p;(refine z02 (z0q z1c) rfl rfl ?_))|(apply z0t;(first|refine z02 (z18 rfl) rfl rfl ?_| refine z2q (g:=z4a) arcs rfl ?_))|(apply z0c;(refine z23 ?_))|(apply z0z;(refine z3s ?_))|(apply z1w;(refine z29 rfl ?_))))|(apply z08;(first|refine z0n ?_|apply z07))|(apply z06;(first|apply z0a|apply z00|apply z04|apply z01|apply z2p|apply z03|refine z0g (fun _=>?_) (fun _=>?_)| refine z0j ?_))|(apply z2r;(first|(apply z15;refine z1o mix ?_)|refine z2s ?_| (apply z0r;(first|refine z0m (z2d (u:=z1m k) j4) rfl rfl ?_| refine z0m z1d rfl rfl ?_))|(apply z0s;(refine z0m z0i rfl rfl ?_))|(apply z14;(refine z0m (z1v rfl (by omega) (by simp only[List.length_map];omega) rfl) rfl rfl ?_))|(apply z47;(refine z5y (g:=boc) (by first|exact rfl|exact⟨_,rfl,rfl,rfl⟩) rfl rfl fb rfl rfl rfl rfl rfl rfl rfl (by decide) (by omega) ?_))|(apply z3a;(refine ztv (first:=[]) (cap:=[.ptr (1,1) 0]) (ps:=[I .i64 k]) hff (by first|exact rfl|exact⟨_,rfl,rfl,rfl⟩) rfl rfl (hb _ _ _) (by decide) ?_))|(apply z36;(refine z89 (by first|exact rfl|exact⟨_,rfl,rfl,rfl⟩) rfl rfl rfl rfl rfl ?_))|(apply z5j;(refine z8u rfl ?_)))))
       all_goals try (exfalso;omega)
       all_goals refine z1s 119 1001 ?_
       all_goals refine z1s 125 1002 ?_
       all_goals exact z0e ih' rfl rfl
 · obtain rfl:i=ks.length:=by omega
   obtain⟨n,hn⟩:∃ n,lim.toNat+1-ks.length=n+1:=⟨lim.toNat-ks.length,by omega⟩
   rw[hn,exL,List.getElem?_eq_none (Nat.le_refl _)] at i6
   simp only at i6
   rw[← i6]
   refine z1g 1001 rfl ?_
   refine z1g 1002 rfl ?_
   repeat' (first|(apply z05;(first|refine z0o ?_| (apply z09;(refine z02 z1z rfl rfl ?_))|(apply z0t;(refine z02 (z18 rfl) rfl rfl ?_))|(apply z0c;(refine z23 ?_))))|(apply z08;(first|refine z0n ?_|apply z07))|(apply z06;(first|apply z0a|apply z00|apply z04|apply z01|refine z0g (fun _=>?_) (fun _=>?_)| refine z0j ?_)))
   all_goals try (exfalso;omega)
   all_goals exact z0l Tryz.func82 _ (z0x rfl rfl rfl rfl rfl rfl rfl) ⟨rfl,rfl⟩
end Go.Proofs.YthdfkabdoidjfaaGreatDoor
namespace Go.Proofs.YthdfkabdoidjfaaGreatDoor
open Go.Ab Go.Ax
set_option maxHeartbeats 20000000
set_option maxRecDepth 100000
attribute [local irreducible] Run Ops Op1 z2b Val Tr z0v z2c NF Rel z3w z3x
theorem wu8 (x:Int):IntKind.u8.wrap x=x % 256:=by
 unfold IntKind.wrap
 simp[IntKind.bits,IntKind.signed]
theorem zsr (n:Int) (h:0≤n):z0v Tryz.prog 113 [I .i64 n] (.d (.slice ((z6c n).map by8))):=by
 refine z1e fun H=>?_
 have w1:IntKind.u8.wrap (zr9 .i64 n 24)=n / 16777216 % 256:=by rw[zd2 h (by decide),wu8];rfl
 have w2:IntKind.u8.wrap (zr9 .i64 n 16)=n / 65536 % 256:=by rw[zd2 h (by decide),wu8];rfl
 have w3:IntKind.u8.wrap (zr9 .i64 n 8)=n / 256 % 256:=by rw[zd2 h (by decide),wu8];rfl
 have w4:=wu8 n
 refine z0k Tryz.func113 (by kernel_rfl) rfl (by simp) ?_
 dsimp only[Tryz.f113]
 repeat' (first|(apply z05;(first|refine z0o ?_| (apply z0p;(refine z02 (zcg (by omega)) rfl rfl ?_))|(apply z1w;(refine z29 rfl ?_))|(apply z9f;(first|refine z02 (zff rfl rfl w4) rfl rfl ?_| refine z02 (zff rfl rfl w3) rfl rfl ?_| refine z02 (zff rfl rfl w2) rfl rfl ?_| refine z02 (zff rfl rfl w1) rfl rfl ?_))))|(apply z08;(first|refine z0n ?_|apply z07))|(apply z06;(first|apply z0a|apply z00)))
 all_goals exact z0l Tryz.func113 _ z16 ⟨rfl,rfl⟩
end Go.Proofs.YthdfkabdoidjfaaGreatDoor
namespace Go.Proofs.YthdfkabdoidjfaaGreatDoor
open Go.Ab Go.Ax
set_option maxHeartbeats 20000000
set_option maxRecDepth 100000
attribute [local irreducible] Run Ops Op1 z2b Val Tr z0v z2c NF Rel z3w z3x
def zjp (xs:List Int):Blk:=if xs=[] then .gone else .row 3 1 (xs.map icc)
def zi0 (j:Nat) (xs:List Int):PV:=if xs=[] then .d (.lit z30) else .ref (0,5000+j)
def inn:Nat→List (List Int)→Hp
 | _,[]=>[]
 | j,xs::r=>(5000+j,zjp xs)::inn (j+1) r
def cel:Nat→List (List Int)→List PV
 | _,[]=>[]
 | j,xs::r=>zi0 j xs::cel (j+1) r
theorem z4r:∀ (xss:List (List Int)) (j s:Nat),Ab.look (inn j xss) s=if 5000+j≤s then (xss[s-(5000+j)]?).map zjp else none
 | [],j,s=>by simp[inn,Ab.look]
 | xs::r,j,s=>by
  rw[inn,Ab.look,z4r r (j+1) s]
  by_cases h:5000+j=s
  · rw[if_pos h,if_pos (by omega),← h,Nat.sub_self];rfl
  · rw[if_neg h]
    by_cases h2:5000+j≤s
    · rw[if_pos (by omega),if_pos h2,show s-(5000+j)=(s-(5000+(j+1)))+1 by omega,List.getElem?_cons_succ]
    · rw[if_neg (by omega),if_neg h2]
theorem zcq (xss:List (List Int)) (j:Nat) {s:Nat} (h:s<5000):Ab.look (inn j xss) s=none:=by rw[z4r,if_neg (by omega)]
theorem zau:∀ (xss:List (List Int)) (j:Nat),(cel j xss).length=xss.length
 | [],_=>rfl
 | xs::r,j=>by rw[cel,List.length_cons,zau r,List.length_cons]
theorem z6p:∀ (xss:List (List Int)) (j i:Nat),(cel j xss)[i]? =(xss[i]?).map (zi0 (j+i))
 | [],j,i=>by simp[cel]
 | xs::r,j,0=>by simp[cel]
 | xs::r,j,i+1=>by
  rw[cel,List.getElem?_cons_succ,List.getElem?_cons_succ,z6p r (j+1) i,show j+1+i=j+(i+1) by omega]
theorem zo4 (n:Nm) (xs:List Int):(zjp xs).says n=false:=by rw[zjp];split <;> rfl
theorem zjr (a b:Nat) (xs:List Int):(zjp xs).ren a b=zjp xs:=by rw[zjp];split <;> rfl
theorem zbp {d:Nat} (h:d<5000):∀ (xss:List (List Int)) (j:Nat),z0y d (inn j xss)=true
 | [],_=>rfl
 | xs::r,j=>by
  rw[inn,z0y,zbp h r (j+1),zo4]
  have:¬ 5000+j=d:=by omega
  simp[this]
theorem zc5 {d j:Nat} {xs:List Int} (h:d<5000):(zi0 j xs).says (0,d)=false:=by
 rw[zi0]
 split
 · rfl
 · simp[PV.says];omega
theorem z9x {d:Nat} (h:d<5000):∀ (xss:List (List Int)) (j:Nat),PV.saysL (0,d) (cel j xss)=false
 | [],_=>rfl
 | xs::r,j=>by rw[cel,PV.saysL,z9x h r,zc5 h];rfl
theorem z83 {n:Nm} {p:PV}:∀ {cs:List PV} {i:Nat},PV.saysL n cs=false→p.says n=false→PV.saysL n (cs.set i p)=false
 | [],i,h,hp=>by simpa using h
 | c::cs,0,h,hp=>by
  simp only[PV.saysL,Bool.or_eq_false_iff] at h
  simp only[List.set_cons_zero,PV.saysL,Bool.or_eq_false_iff]
  exact⟨hp,h.2⟩
 | c::cs,i+1,h,hp=>by
  simp only[PV.saysL,Bool.or_eq_false_iff] at h
  simp only[List.set_cons_succ,PV.saysL,Bool.or_eq_false_iff]
  exact⟨h.1,z83 h.2 hp⟩
section
variable {P:Program} {f:FuncId} {R:z3m} {k:List Go.Item} {n:Nat} {tm tm':List (Nat × PV)} {hp:Hp} {up:Hf}
theorem PV.ren_id {a b:Nat} {p:PV} (ha:p.says (0,a)=false) (hb:p.says (0,b)=false):p.ren a b=p:=by
 cases p with
 | ref q=>simp only[PV.says,beq_eq_false_iff_ne] at ha hb;simp[PV.ren,ha,hb]
 | ptr q o=>simp only[PV.says,beq_eq_false_iff_ne] at ha hb;simp[PV.ren,ha,hb]
 | _=>simp only[PV.ren];rw[if_neg];rw[hb];decide
theorem zex {a b:Nat}:∀ {tm:List (Nat × PV)},z2x (0,a) tm=false→z2x (0,b) tm=false→z8w a b tm=tm
 | [],_,_=>rfl
 | (t,p)::r,ha,hb=>by
  simp only[z2x,Bool.or_eq_false_iff] at ha hb
  rw[z8w,PV.ren_id ha.1 hb.1,zex ha.2 hb.2]
theorem zkx (m:Nat) {pre T:Hp} (hT:hp.drop m=T) (ht:y17 tm' tm) (h1:zsp pre (hp.take m)) (h2:((hp.take m).all fun q=>decide (q.1<5000))=true) (hl:∀ s,s<5000→Ab.look T s=none) (h:Run P f R k ⟨n,tm',pre++T,up⟩):Run P f R k ⟨n,tm,hp,up⟩:=by
 refine zbb (fun t p h=>(y1u ht).get h) (fun s b hb=>?_) h
 have lapp:∀ (A B:Hp),Ab.look (A++B) s=(Ab.look A s).or (Ab.look B s):=fun A B=>by
  induction A with
  | nil=>rfl
  | cons q r ih=>obtain⟨kk,c⟩:=q;simp only[List.cons_append,Ab.look];split <;> simp[ih]
 rw[← List.take_append_drop m hp,hT,lapp]
 rw[lapp] at hb
 cases hs:Ab.look pre s with
 | some c =>
  rw[hs] at hb
  simp at hb;subst hb
  rw[(zy7 h1).get hs];rfl
 | none =>
  rw[hs] at hb
  have hb':Ab.look T s=some b:=by simpa using hb
  have:Ab.look (hp.take m) s=none:=by
   have hs5:¬ s<5000:=fun h=>by rw[hl s h] at hb';cases hb'
   revert h2
   generalize hp.take m=A
   intro h2
   induction A with
   | nil=>rfl
   | cons q r ih =>
    obtain⟨kk,c⟩:=q
    simp only[List.all_cons,Bool.and_eq_true,decide_eq_true_eq] at h2
    rw[Ab.look,if_neg (by omega),ih h2.2]
  rw[this,hb'];rfl
theorem zxv {xss:List (List Int)} {i:Nat} {ys:List Int} (hi:i<xss.length) (j:Nat):(cel j xss).set i (zi0 (j+i) ys)=cel j (xss.set i ys):=by
 apply List.ext_getElem?
 intro s
 by_cases h:i=s
 · subst h
   rw[List.getElem?_set_self (by rw[zau];exact hi),z6p,List.getElem?_set_self hi];rfl
 · rw[List.getElem?_set_ne h,z6p,z6p,List.getElem?_set_ne h]
theorem y07 {i:Nat} {xss:List (List Int)} {xs:List Int} (hi:xss[i]? =some xs) (hne:xs≠[]) (pre:Hp) (hs1:z2x (0,5000+i) tm=false) (hs2:z2x (0,1001) tm=false)
 (hp1:∀ s b,Ab.look pre s=some b→s<5000∧s≠1000∧s≠1001∧b.ren (5000+i) 1001=b)
 (h:Run P f R k ⟨n,tm,(1001,.row 3 1 (xs.map icc))::(1000,.rowp 94 ((cel 0 xss).set i (.ref (0,1001))))::(pre++inn 0 (xss.set i [])),up⟩):Run P f R k ⟨n,tm,(1000,.rowp 94 (cel 0 xss))::(pre++inn 0 xss),up⟩:=by
 have hil:=(List.getElem?_eq_some_iff.1 hi).1
 have lapp:∀ (A B:Hp) (s:Nat),Ab.look (A++B) s=(Ab.look A s).or (Ab.look B s):=fun A B s=>by
  induction A with
  | nil=>rfl
  | cons q r ih=>obtain⟨kk,c⟩:=q;simp only[List.cons_append,Ab.look];split <;> simp[ih]
 have hq:Ab.look ((1000,.rowp 94 (cel 0 xss))::(pre++inn 0 xss)) (5000+i)=some (.row 3 1 (xs.map icc)):=by
  rw[Ab.look,if_neg (by omega),lapp]
  have:Ab.look pre (5000+i)=none:=by
   cases hh:Ab.look pre (5000+i) with
   | none=>rfl
   | some c=>have:=(hp1 _ _ hh).1;omega
  rw[this,z4r,if_pos (by omega),show 5000+i-(5000+0)=i by omega,hi]
  simp[zjp,hne]
 refine zs1 (5000+i) 1001 hq (by simp[Blk.says];omega) ?_
 rw[zex hs1 hs2]
 refine zbb (tm':=tm) (fun _ _ h=>h) (fun s b hb=>?_) h
 rw[Ab.look] at hb ⊢
 split at hb
 · rename_i h1;rw[if_pos h1];exact hb
 rename_i h1
 rw[if_neg h1,Ab.look]
 rw[Ab.look] at hb
 split at hb
 · rename_i h2
   subst h2
   rw[if_neg (by omega),z5d,Ab.look,if_pos rfl]
   simp only[Option.map_some,Blk.ren]
   rw[← hb]
   congr 2
   apply List.ext_getElem?
   intro s
   have hrl:∀ cs:List PV,(zn4 (5000+i) 1001 cs)[s]? =(cs[s]?).map (PV.ren (5000+i) 1001):=fun cs=>z9t _ _ cs s
   rw[hrl]
   by_cases h:i=s
   · subst h
     rw[List.getElem?_set_self (by rw[zau];exact hil),z6p,hi]
     simp[zi0,hne,PV.ren]
   · rw[List.getElem?_set_ne h,z6p]
     cases hx:xss[s]? with
     | none=>rfl
     | some ys =>
      simp only[Option.map_some]
      congr 1
      exact PV.ren_id (by rw[zi0];split;· rfl
                          · simp[PV.says];omega) (zc5 (by omega))
 · rename_i h2
   by_cases h3:5000+i=s
   · rw[if_pos h3]
     subst h3
     rw[lapp] at hb
     have:Ab.look pre (5000+i)=none:=by
      cases hh:Ab.look pre (5000+i) with
      | none=>rfl
      | some c=>have:=(hp1 _ _ hh).1;omega
     rw[this,z4r,if_pos (by omega),show 5000+i-(5000+0)=i by omega,List.getElem?_set_self hil] at hb
     exact hb
   · rw[if_neg h3,z5d,Ab.look,if_neg h2,lapp]
     rw[lapp] at hb
     cases hh:Ab.look pre s with
     | some c =>
      rw[hh] at hb
      simp at hb;subst hb
      simp[(hp1 _ _ hh).2.2.2]
     | none =>
      rw[hh] at hb
      have hb':Ab.look (inn 0 (xss.set i [])) s=some b:=by simpa using hb
      rw[z4r] at hb'
      simp only[Option.none_or]
      rw[z4r]
      split at hb'
      · rename_i h5
        rw[if_pos h5]
        rw[List.getElem?_set_ne (by omega)] at hb'
        cases hx:xss[s-(5000+0)]? with
        | none=>rw[hx] at hb';cases hb'
        | some ys =>
         rw[hx] at hb'
         simp at hb';subst hb'
         simp[zjr]
      · cases hb'
theorem zoi (a:Nat) {i:Nat} {xss:List (List Int)} {ys:List Int} (hi:i<xss.length) (hne:ys≠[]) (ha:a<5000) (pre:Hp) (hs1:z2x (0,5000+i) tm=false) (hs2:z2x (0,a) tm=false) (ha0:a≠1000)
 (hp1:∀ s b,Ab.look pre s=some b→s<5000∧s≠1000∧s≠a∧b.ren a (5000+i)=b)
 (h:Run P f R k ⟨n,tm,(1000,.rowp 94 (cel 0 (xss.set i ys)))::(pre++inn 0 (xss.set i ys)),up⟩):Run P f R k ⟨n,tm,(a,.row 3 1 (ys.map icc))::(1000,.rowp 94 ((cel 0 xss).set i (.ref (0,a))))::(pre++inn 0 (xss.set i [])),up⟩:=by
 have lapp:∀ (A B:Hp) (s:Nat),Ab.look (A++B) s=(Ab.look A s).or (Ab.look B s):=fun A B s=>by
  induction A with
  | nil=>rfl
  | cons q r ih=>obtain⟨kk,c⟩:=q;simp only[List.cons_append,Ab.look];split <;> simp[ih]
 refine zs1 a (5000+i) (q:=.row 3 1 (ys.map icc)) (by simp[Ab.look]) (by simp[Blk.says];omega) ?_
 rw[zex hs2 hs1]
 refine zbb (tm':=tm) (fun _ _ h=>h) (fun s b hb=>?_) h
 rw[Ab.look] at hb
 split at hb
 · rename_i h2
   subst h2
   rw[Ab.look,if_neg (by omega),Ab.look,if_neg ha0,z5d,Ab.look,if_neg ha0,Ab.look,if_pos rfl]
   simp only[Option.map_some,Blk.ren]
   rw[← hb,← zxv hi]
   congr 2
   apply List.ext_getElem?
   intro s
   have hrl:∀ cs:List PV,(zn4 a (5000+i) cs)[s]? =(cs[s]?).map (PV.ren a (5000+i)):=fun cs=>z9t _ _ cs s
   rw[hrl]
   by_cases h:i=s
   · subst h
     rw[List.getElem?_set_self (by rw[zau];exact hi),List.getElem?_set_self (by rw[zau];exact hi)]
     simp[zi0,hne,PV.ren]
   · rw[List.getElem?_set_ne h,List.getElem?_set_ne h,z6p]
     cases hx:xss[s]? with
     | none=>rfl
     | some ys =>
      simp only[Option.map_some]
      congr 1
      exact PV.ren_id (zc5 ha) (by rw[zi0];split;· rfl
                                   · simp[PV.says];omega)
 · rename_i h2
   by_cases h3:5000+i=s
   · subst h3
     rw[Ab.look,if_pos rfl]
     rw[lapp] at hb
     have:Ab.look pre (5000+i)=none:=by
      cases hh:Ab.look pre (5000+i) with
      | none=>rfl
      | some c=>have:=(hp1 _ _ hh).1;omega
     rw[this,z4r,if_pos (by omega),show 5000+i-(5000+0)=i by omega,List.getElem?_set_self hi] at hb
     simpa[zjp,hne] using hb
   · rw[Ab.look,if_neg h3]
     rw[lapp] at hb
     have hsa:s≠a:=by
      rintro rfl
      cases hh:Ab.look pre s with
      | some c=>exact(hp1 _ _ hh).2.2.1 rfl
      | none=>rw[hh,zcq _ _ ha] at hb;cases hb
     rw[Ab.look,if_neg (Ne.symm hsa),z5d,Ab.look,if_neg (Ne.symm hsa),Ab.look,if_neg h2,lapp]
     cases hh:Ab.look pre s with
     | some c =>
      rw[hh] at hb
      simp at hb;subst hb
      simp[(hp1 _ _ hh).2.2.2]
     | none =>
      rw[hh] at hb
      have hb':Ab.look (inn 0 (xss.set i ys)) s=some b:=by simpa using hb
      rw[z4r] at hb'
      simp only[Option.none_or]
      rw[z4r]
      split at hb'
      · rename_i h5
        rw[if_pos h5]
        rw[List.getElem?_set_ne (by omega)] at hb' ⊢
        cases hx:xss[s-(5000+0)]? with
        | none=>rw[hx] at hb';cases hb'
        | some ys =>
         rw[hx] at hb'
         simp at hb';subst hb'
         simp[zjr]
      · cases hb'
def zur (xs:List Int):D:=if xs=[] then .lit z30 else .slice (xs.map icc)
def zm1 (m:Nat):Nat→List (List Int)→List PV
 | _,[]=>[]
 | j,xs::r=>(if j<m then .d (zur xs) else zi0 j xs)::zm1 m (j+1) r
def zn1 (m:Nat):Nat→List (List Int)→Hp
 | _,[]=>[]
 | j,xs::r=>(5000+j,if j<m then .gone else zjp xs)::zn1 m (j+1) r
theorem z6q (m:Nat):∀ (xss:List (List Int)) (j i:Nat),(zm1 m j xss)[i]? =(xss[i]?).map fun xs=>if j+i<m then .d (zur xs) else zi0 (j+i) xs
 | [],j,i=>by simp[zm1]
 | xs::r,j,0=>by simp[zm1]
 | xs::r,j,i+1=>by
  rw[zm1,List.getElem?_cons_succ,List.getElem?_cons_succ,z6q m r (j+1) i,show j+1+i=j+(i+1) by omega]
theorem z6f (m:Nat):∀ (xss:List (List Int)) (j s:Nat),Ab.look (zn1 m j xss) s=if 5000+j≤s then (xss[s-(5000+j)]?).map fun xs=>if s-5000<m then .gone else zjp xs else none
 | [],j,s=>by simp[zn1,Ab.look]
 | xs::r,j,s=>by
  rw[zn1,Ab.look,z6f m r (j+1) s]
  by_cases h:5000+j=s
  · subst h;simp
  · rw[if_neg h]
    by_cases h2:5000+j≤s
    · rw[if_pos (by omega),if_pos h2,show s-(5000+j)=(s-(5000+(j+1)))+1 by omega,List.getElem?_cons_succ]
    · rw[if_neg (by omega),if_neg h2]
theorem zls {m:Nm} {x:D}:∀ {tm:List (Nat × PV)},z2x m tm=false→zfx m x tm=tm
 | [],_=>rfl
 | (t,p)::r,h=>by
  simp only[z2x,Bool.or_eq_false_iff] at h
  rw[zfx,zls h.2]
  congr 2
  cases p with
  | ref q=>have:=h.1;simp only[PV.says,beq_eq_false_iff_ne] at this;simp[PV.frz,this]
  | _=>rfl
theorem y04 (m:Nat) {xss:List (List Int)} (hm:m<xss.length) (pre:Hp) (hs1:z2x (0,5000+m) tm=false)
 (hp1:∀ s b,Ab.look pre s=some b→s<5000∧s≠1000∧∀ x,b.frz (0,5000+m) x=b)
 (h:Run P f R k ⟨n,tm,(1000,.rowp 94 (zm1 (m+1) 0 xss))::(pre++zn1 (m+1) 0 xss),up⟩):Run P f R k ⟨n,tm,(1000,.rowp 94 (zm1 m 0 xss))::(pre++zn1 m 0 xss),up⟩:=by
 have lapp:∀ (A B:Hp) (s:Nat),Ab.look (A++B) s=(Ab.look A s).or (Ab.look B s):=fun A B s=>by
  induction A with
  | nil=>rfl
  | cons q r ih=>obtain⟨kk,c⟩:=q;simp only[List.cons_append,Ab.look];split <;> simp[ih]
 obtain⟨xs,hi⟩:∃ xs,xss[m]? =some xs:=⟨_,List.getElem?_eq_getElem hm⟩
 have hpn:Ab.look pre (5000+m)=none:=by
  cases hh:Ab.look pre (5000+m) with
  | none=>rfl
  | some c=>have:=(hp1 _ _ hh).1;omega
 by_cases hne:xs=[]
 · subst hne
   have e1:zm1 (m+1) 0 xss=zm1 m 0 xss:=by
    apply List.ext_getElem?
    intro s
    rw[z6q,z6q]
    by_cases hs:s=m
    · subst hs
      rw[hi]
      simp[zur,zi0]
    · cases hx:xss[s]? with
      | none=>rfl
      | some ys =>
       simp only[Option.map_some,Nat.zero_add]
       congr 1
       by_cases h2:s<m
       · rw[if_pos (by omega),if_pos h2]
       · rw[if_neg (by omega),if_neg h2]
   rw[e1] at h
   refine zbb (tm':=tm) (fun _ _ h=>h) (fun s b hb=>?_) h
   rw[Ab.look] at hb ⊢
   split at hb
   · rename_i h1;rw[if_pos h1];exact hb
   · rename_i h1
     rw[if_neg h1,lapp]
     rw[lapp] at hb
     cases hh:Ab.look pre s with
     | some c=>rw[hh] at hb;exact hb
     | none =>
      rw[hh] at hb
      simp only[Option.none_or] at hb ⊢
      rw[z6f] at hb ⊢
      split at hb
      · rename_i h5
        rw[if_pos h5]
        by_cases hs:s-(5000+0)=m
        · rw[hs,hi] at hb ⊢
          simp only[Option.map_some,Nat.lt_succ_self,if_true,Nat.lt_irrefl,if_false] at hb ⊢
          rw[← hb];rfl
        · cases hx:xss[s-(5000+0)]? with
          | none=>rw[hx] at hb;cases hb
          | some ys =>
           rw[hx] at hb
           simp only[Option.map_some] at hb ⊢
           rw[← hb]
           by_cases h2:s-5000<m
           · rw[if_pos h2,if_pos (show s-5000<m+1 by omega)]
           · rw[if_neg h2,if_neg (show ¬ s-5000<m+1 by omega)]
      · cases hb
 · have hq:Ab.look ((1000,.rowp 94 (zm1 m 0 xss))::(pre++zn1 m 0 xss)) (5000+m)=some (.row 3 1 (xs.map icc)):=by
    rw[Ab.look,if_neg (by omega),lapp,hpn,z6f,if_pos (by omega),show 5000+m-(5000+0)=m by omega,hi]
    simp only[Option.map_some,Option.none_or]
    rw[if_neg (by omega),zjp,if_neg hne]
   refine z1g (5000+m) hq ?_
   rw[zls hs1]
   refine zbb (tm':=tm) (fun _ _ h=>h) (fun s b hb=>?_) h
   rw[Ab.look] at hb ⊢
   split at hb
   · rename_i h2
     subst h2
     rw[if_neg (by omega),z8g,Ab.look,if_pos rfl]
     simp only[Option.map_some,Blk.frz]
     rw[← hb]
     congr 2
     apply List.ext_getElem?
     intro s
     rw[zc0,z6q,z6q]
     cases hx:xss[s]? with
     | none=>rfl
     | some ys =>
      simp only[Option.map_some,Nat.zero_add]
      congr 1
      by_cases hs:s=m
      · subst hs
        rw[hi] at hx;cases hx
        rw[if_neg (by omega),if_pos (by omega),zi0,if_neg hne,zur,if_neg hne]
        simp[PV.frz]
      · by_cases h2:s<m
        · rw[if_pos h2,if_pos (show s<m+1 by omega)];rfl
        · rw[if_neg h2,if_neg (show ¬ s<m+1 by omega),zi0]
          split
          · rfl
          · simp[PV.frz];omega
   · rename_i h2
     rw[lapp] at hb
     by_cases h3:5000+m=s
     · rw[if_pos h3]
       subst h3
       rw[hpn,z6f,if_pos (by omega),show 5000+m-(5000+0)=m by omega,hi] at hb
       simpa using hb
     · rw[if_neg h3,z8g,Ab.look,if_neg h2,lapp]
       cases hh:Ab.look pre s with
       | some c =>
        rw[hh] at hb
        simp at hb;subst hb
        simp[(hp1 _ _ hh).2.2]
       | none =>
        rw[hh] at hb
        have hb':Ab.look (zn1 (m+1) 0 xss) s=some b:=by simpa using hb
        rw[z6f] at hb'
        simp only[Option.none_or]
        rw[z6f]
        split at hb'
        · rename_i h5
          rw[if_pos h5]
          cases hx:xss[s-(5000+0)]? with
          | none=>rw[hx] at hb';cases hb'
          | some ys =>
           rw[hx] at hb'
           simp only[Option.map_some] at hb' ⊢
           rw[← hb']
           by_cases h2:s-5000<m
           · rw[if_pos h2,if_pos (show s-5000<m+1 by omega)];rfl
           · rw[if_neg h2,if_neg (show ¬ s-5000<m+1 by omega)]
             rw[zjp];split <;> rfl
        · cases hb'
theorem zt2 {xss:List (List Int)} (pre:Hp) (hs1:∀ m,z2x (0,5000+m) tm=false) (hp1:∀ m s b,Ab.look pre s=some b→s<5000∧s≠1000∧∀ x,b.frz (0,5000+m) x=b)
 (h:Run P f R k ⟨n,tm,(1000,.row 94 1 (xss.map fun xs=>[.slice (xs.map icc)]))::pre,up⟩):Run P f R k ⟨n,tm,(1000,.rowp 94 (cel 0 xss))::(pre++inn 0 xss),up⟩:=by
 have lapp:∀ (A B:Hp) (s:Nat),Ab.look (A++B) s=(Ab.look A s).or (Ab.look B s):=fun A B s=>by
  induction A with
  | nil=>rfl
  | cons q r ih=>obtain⟨kk,c⟩:=q;simp only[List.cons_append,Ab.look];split <;> simp[ih]
 have key:∀ d m,m+d=xss.length→Run P f R k ⟨n,tm,(1000,.rowp 94 (zm1 m 0 xss))::(pre++zn1 m 0 xss),up⟩:=fun d=>by
  induction d with
  | zero =>
   intro m hm
   have e1:zm1 m 0 xss=(xss.map zur).map .d:=by
    apply List.ext_getElem?
    intro s
    rw[z6q,List.map_map,List.getElem?_map]
    cases hx:xss[s]? with
    | none=>rfl
    | some ys =>
     have:=(List.getElem?_eq_some_iff.1 hx).1
     simp only[Option.map_some]
     rw[if_pos (by omega)];rfl
   rw[e1]
   refine zw7 (e:=94) 1000 (xs:=xss.map zur) (xs':=xss.map fun xs=>.slice (xs.map icc)) (fun i z hz=>?_) (by simp) (by simp[Ab.look]) ?_
   · rw[List.getElem?_map] at hz ⊢
     cases hx:xss[i]? with
     | none=>rw[hx] at hz;cases hz
     | some ys =>
      rw[hx] at hz;simp at hz;subst hz
      by_cases hy:ys=[]
      · subst hy;right;exact⟨by simp[zur],rfl⟩
      · left;simp[zur,hy]
   refine zbb (tm':=tm) (fun _ _ h=>h) (fun s b hb=>?_) h
   rw[Ab.look] at hb ⊢
   split at hb
   · rename_i h1;rw[if_pos h1,← hb,List.map_map];rfl
   · rename_i h1
     rw[if_neg h1,Ab.look,if_neg h1,lapp,hb];rfl
  | succ d ih =>
   intro m hm
   exact y04 m (by omega) pre (hs1 m) (hp1 m) (ih (m+1) (by omega))
 have e0:zm1 0 0 xss=cel 0 xss:=by
  apply List.ext_getElem?
  intro s
  rw[z6q,z6p]
  cases hx:xss[s]? with
  | none=>rfl
  | some ys=>simp
 have e1:zn1 0 0 xss=inn 0 xss:=by
  have:∀ (l:List (List Int)) (j:Nat),zn1 0 j l=inn j l:=fun l=>by
   induction l with
   | nil=>intro j;rfl
   | cons x r ih=>intro j;rw[zn1,inn,ih];simp
  exact this xss 0
 have:=key xss.length 0 (by omega)
 rwa [e0,e1] at this
theorem zx7 {hp':Hp} (hh:∀ s b,Ab.look hp' s=some b→b=.gone∨Ab.look hp s=some b) (h:Run P f R k ⟨n,tm,hp',up⟩):Run P f R k ⟨n,tm,hp,up⟩:=by
 refine Run.le (s:=⟨n,tm,hp',up⟩) (fun β own a w hr=>⟨β,rfl,hr.size,hr.defers,hr.tm,?_⟩) h
 have key:∀ m b,z0w (push hp' up) m=some b→b=.gone∨z0w (push hp up) m=some b:=by
  rintro⟨k,s⟩ b hq
  cases k with
  | zero=>exact hh s b hq
  | succ k=>exact .inr hq
 refine⟨fun m b hb=>?_,fun m1 m2 b1 b2 h1 h2 l1 l2=>?_,hr.heap.lt⟩
 · rcases key m b hb with rfl|h1
   · exact .gone _
   · exact hr.heap.blk m b h1
 · rcases key m1 b1 h1 with rfl|g1
   · cases l1
   rcases key m2 b2 h2 with rfl|g2
   · cases l2
   exact hr.heap.inj m1 m2 b1 b2 g1 g2 l1 l2
theorem z9e (A B:Hp) (s:Nat):Ab.look (A++B) s=(Ab.look A s).or (Ab.look B s):=by
 induction A with
 | nil=>rfl
 | cons q r ih=>obtain⟨kk,c⟩:=q;simp only[List.cons_append,Ab.look];split <;> simp[ih]
theorem y1c {b:Blk} {pre T:Hp} (hn:Ab.look pre 1000=none) (h:Run P f R k ⟨n,tm,(1000,b)::(pre++T),up⟩):Run P f R k ⟨n,tm,pre++(1000,b)::T,up⟩:=by
 refine zbb (tm':=tm) (fun _ _ h=>h) (fun s c hc=>?_) h
 rw[z9e,Ab.look]
 rw[Ab.look] at hc
 split at hc
 · rename_i e;subst e;rw[hn,if_pos rfl];exact hc
 · rename_i e;rw[if_neg e];rw[z9e] at hc;exact hc
theorem y3n {b:Blk} {pre T:Hp} (hn:Ab.look pre 1000=none) (h:Run P f R k ⟨n,tm,pre++(1000,b)::T,up⟩):Run P f R k ⟨n,tm,(1000,b)::(pre++T),up⟩:=by
 refine zbb (tm':=tm) (fun _ _ h=>h) (fun s c hc=>?_) h
 rw[z9e,Ab.look] at hc
 rw[Ab.look]
 by_cases e:1000=s
 · subst e;rw[if_pos rfl];rw[hn,if_pos rfl] at hc;exact hc
 · rw[if_neg e,z9e];rw[if_neg e] at hc;exact hc
theorem za7 {d:Nat} (m:Nat) (hT:z0y d (hp.drop m)=true) (h:(z0y d (hp.take m)&&z1f d tm)=true):(z0y d hp&&z1f d tm)=true:=by
 have:z0y d hp=(z0y d (hp.take m)&&z0y d (hp.drop m)):=by
  have key:∀ A B:Hp,z0y d (A++B)=(z0y d A&&z0y d B):=fun A B=>by
   induction A with
   | nil=>simp[z0y]
   | cons q r ih=>obtain⟨kk,c⟩:=q;simp only[List.cons_append,z0y,ih,Bool.and_assoc]
  rw[← key,List.take_append_drop]
 rw[this,hT,Bool.and_true];exact h
theorem zut {d:Nat} {cs:List PV} {xss:List (List Int)} {j:Nat} (h:d<5000) (h2:d≠1000) (h3:PV.saysL (0,d) cs=false):z0y d ((1000,.rowp 94 cs)::inn j xss)=true:=by
 rw[z0y,zbp h]
 simp[Blk.says,h3,Ne.symm h2]
theorem znn {id:Nat} {ops:List Oper} {s0 s:St} {done:List Eff} {l:List Oper} {t:TypeId} {x y:Operand} {ty:TypeId} {pos:String} {aft:Array Edge} {gd:Option (Nat × Bool)} {fs:List Nat} (hmix:P.follows .mixedOrders=true)
 (hc:(decide (done.length≤ops.length)&&((ops.take done.length).length == done.length&&zab (z9a [] (ops.take done.length)) [] done&&z73 (ops.take done.length) 0)&&z73 ops 0&&zc7 (z9a [] ops) done.length ops.length)=true)
 (hf:done.flatMap (·.free)=fs) (hf2:(fs.all fun d=>z0y d s0.hp&&z1f d s0.tm)=true)
 (h:Ops P f R ops.toArray (⟨none,.store t x y,ty,pos,aft,gd⟩::l) k s):Tr P f R id ops k s0 done s (⟨none,.store t x y,ty,pos,aft,gd⟩::l):=zuk hmix (zo9 hc hf hf2) h
theorem zw1 (m:Nat):∀ j,cel j (List.replicate m [])=(List.replicate m (D.lit z30)).map .d:=by
 induction m with
 | zero=>intro j;rfl
 | succ m ih=>intro j;rw[List.replicate_succ,cel,ih];rfl
theorem zyc {m j s:Nat} {b:Blk} (h:Ab.look (inn j (List.replicate m [])) s=some b):b=.gone:=by
 rw[z4r] at h
 split at h
 · rw[List.getElem?_replicate] at h
   split at h
   · simpa[zjp] using h.symm
   · cases h
 · cases h
end
end Go.Proofs.YthdfkabdoidjfaaGreatDoor
namespace Go.Proofs.YthdfkabdoidjfaaGreatDoor
open Go.Ab Go.Ax
set_option maxHeartbeats 20000000
set_option maxRecDepth 100000
attribute [local irreducible] Run Ops Op1 z2b Val Tr z0v z2c NF Rel z3w z3x
abbrev BX (F:List Bool) (A:List (List Arc)):Blk:=.box [.d (z7a F),.d (.slice (A.map z4a))]
abbrev TMO (F:List Bool) (A:List (List Arc)) (i:Nat):List (Nat × PV):=[(1,.ptr (0,1) 0),(3,.ref (0,1000)),(20,.d (.slice (A.map z4a))),(21,I .i64 A.length),(22,I .i64 (i:Nat))]
abbrev TMI (F:List Bool) (A:List (List Arc)) (l:List Arc) (i j:Nat):List (Nat × PV):=[(1,.ptr (0,1) 0),(3,.ref (0,1000)),(20,.d (.slice (A.map z4a))),(21,I .i64 A.length),(22,I .i64 (i:Nat)),(4,I .i64 (i:Nat)),(27,.d (z95 l)),(28,I .i64 l.length),(29,I .i64 (j:Nat))]
theorem zpw (F:List Bool) (A:List (List Arc)) (n:Nm):(BX F A).says n=false:=by simp[Blk.says,PV.saysL,PV.says]
theorem zpa (F:List Bool) (A:List (List Arc)) (a b:Nat):(BX F A).ren a b=BX F A:=by simp[Blk.ren,zn4,PV.ren,PV.says]
theorem zsl {l:List Arc} {A:List (List Arc)} {i:Nat} (h:A[i]? =some l):((A.take i).map List.length).sum+l.length=((A.take (i+1)).map List.length).sum:=by
 rw[List.take_add_one,h];simp
theorem zv1 (A:List (List Arc)) (i:Nat):((A.take i).map List.length).sum≤(A.map List.length).sum:=by
 conv=>rhs;rw[← List.take_append_drop i A]
 rw[List.map_append,List.sum_append];omega
theorem zvr (F:List Bool) (A:List (List Arc)) (hAF:A.length=F.length) (hr:∀ l∈A,l.length≤2000000∧∀ x∈l,0≤x.2.2∧x.2.2<F.length) (hlen:F.length≤4000000) (htot:(A.map List.length).sum≤1000000000):z0v Tryz.prog 56 [.d (auD ⟨F,A⟩)] (.d (z7a (z6d F A))):=by
 refine z1e fun H=>?_
 refine z0k Tryz.func56 (by kernel_rfl) rfl (by simp) ?_
 dsimp only[Tryz.f56]
 repeat' (first|(apply z05;(first|refine zwh (xs:=(List.replicate F.length (D.lit z30)).map fun x=>[x]) rfl rfl (by omega) (by simp only[List.length_map];omega) rfl rfl rfl (by decide) (by simp) ?_|refine z0o ?_| (apply z09;(refine z02 z1d rfl rfl ?_))|(apply z0d;(refine z02 z0i rfl rfl ?_))|(apply z0t;(refine z02 (z1b rfl) rfl rfl ?_))|(apply z1q;(refine z0b z25 ?_))))|(apply z08;(first|refine z0n ?_|apply z07))|(apply z06;(first|apply z0a|apply z00|apply z01)))
 all_goals try (exfalso;omega)
 refine z1s 18 1000 ?_
 refine zz4 1000 (xs:=List.replicate F.length (D.lit z30)) rfl ?_
 rw[← zw1 F.length 0]
 refine z0e (tm':=TMO F A 0) (hp':=[(1,BX F A),(1000,.rowp 94 (cel 0 (List.replicate F.length [])))]) ?_ rfl rfl
 refine zx7 (hp':=[(1,BX F A)]++(1000,.rowp 94 (cel 0 (List.replicate F.length [])))::inn 0 (List.replicate F.length [])) (fun s b hb=>?_) ?_
 · rw[z9e] at hb
   rw[Ab.look]
   by_cases h1:1=s
   · subst h1;right;rw[if_pos rfl];simpa[Ab.look] using hb
   · rw[if_neg h1]
     simp only[Ab.look,if_neg h1,Option.none_or] at hb
     rw[Ab.look]
     by_cases h2:1000=s
     · rw[if_pos h2] at hb ⊢;exact .inr hb
     · rw[if_neg h2] at hb;exact .inl (zyc hb)
 refine z1a ?_
 refine z1y (fun q:Nat × List (List Int)=>⟨105,TMO F A q.1,[(1,BX F A)]++(1000,.rowp 94 (cel 0 q.2))::inn 0 q.2,H⟩) (fun q=>q.1≤A.length∧q.2.length=F.length∧(∀ xs∈q.2,xs.length≤((A.take q.1).map List.length).sum)∧zuy q.1 (A.drop q.1) q.2=zuy 0 A (List.replicate F.length [])) (fun q=>A.length-q.1) ?_ (0,List.replicate F.length []) ⟨Nat.zero_le _,by simp,fun xs hx=>by rw[List.eq_of_mem_replicate hx];simp,rfl⟩
 rintro⟨i,xss0⟩ ⟨i1,i2,i3,i4⟩ ih
 simp only at i1 i2 i3 i4 ih ⊢
 by_cases hlt:i<A.length
 · obtain⟨l,hl⟩:∃ l,A[i]? =some l:=⟨_,List.getElem?_eq_getElem hlt⟩
   obtain⟨l1,l2⟩:=hr l (List.mem_of_getElem? hl)
   have ht1:=zsl hl
   have ht2:=zv1 A (i+1)
   rw[drop_cons hl,zuy] at i4
   repeat' (first|(apply z05;(first|refine z0o ?_| (apply z09;(first|refine z02 z1d rfl rfl ?_| refine z02 z1p rfl rfl ?_))|(apply z0d;(refine z02 z0i rfl rfl ?_))|(apply z0f;(refine z02 (z1i (ys:=A.map z4a) rfl (idx hl)) rfl rfl ?_))|(apply z0t;(refine z02 (z1b rfl) rfl rfl ?_))))|(apply z08;(first|refine z0n ?_|apply z07))|(apply z06;(first|apply z0a|apply z00|apply z04|apply z01|refine z0g (fun _=>?_) (fun _=>?_)| refine z0j ?_)))
   all_goals try (exfalso;omega)
   refine z1a ?_
   refine zkx (tm':=TMI F A l i 0) (pre:=[(1,BX F A),(1000,.rowp 94 (cel 0 xss0))]) (T:=inn 0 xss0) 2 rfl rfl rfl rfl (fun s h=>zcq _ _ h) ?_
   refine z1y (fun q:Nat × List (List Int)=>⟨105,TMI F A l i q.1,[(1,BX F A)]++(1000,.rowp 94 (cel 0 q.2))::inn 0 q.2,H⟩) (fun q=>q.1≤l.length∧q.2.length=F.length∧(∀ xs∈q.2,xs.length≤((A.take i).map List.length).sum+q.1)∧(l.drop q.1).foldl (zre i) q.2=l.foldl (zre i) xss0) (fun q=>l.length-q.1) ?_ (0,xss0) ⟨Nat.zero_le _,i2,i3,rfl⟩
   rintro⟨j,xss⟩ ⟨j1,j2,j3,j4⟩ ihj
   simp only at j1 j2 j3 j4 ihj ⊢
   by_cases hj:j<l.length
   · obtain⟨x,hx⟩:∃ x,l[j]? =some x:=⟨_,List.getElem?_eq_getElem hj⟩
     obtain⟨x1,x2⟩:=l2 x (List.mem_of_getElem? hx)
     have hil:x.2.2.toNat<xss.length:=by omega
     obtain⟨xs,hxs⟩:∃ xs,xss[x.2.2.toNat]? =some xs:=⟨_,List.getElem?_eq_getElem hil⟩
     have hxl:=j3 xs (List.mem_of_getElem? hxs)
     rw[drop_cons hx,List.foldl_cons,zre,List.getD,hxs,Option.getD_some] at j4
     have ihj':=ihj (j+1,xss.set x.2.2.toNat (xs++[((i:Nat):Int)])) ⟨by simp only;omega,by simp[j2],fun ys hy=>by
      rcases List.mem_or_eq_of_mem_set hy with h|h
      · have:=j3 ys h;simp only;omega
      · rw[h];simp only[List.length_append,List.length_singleton];omega,j4⟩ (by simp only;omega)
     have hcell:(cel 0 xss)[x.2.2.toNat]? =some (zi0 (0+x.2.2.toNat) xs):=by rw[z6p,hxs];rfl
     have hcl:(cel 0 xss).length=xss.length:=zau _ _
     by_cases hne:xs=[]
     · subst hne
       have hcell':(cel 0 xss)[x.2.2.toNat]? =some (.d (.lit z30)):=by rw[hcell];rfl
       have hT7:z0y 7 ((1000,.rowp 94 (cel 0 xss))::inn 0 xss)=true:=zut (by decide) (by decide) (z9x (by decide) _ _)
       have hT43:z0y 43 ((1000,.rowp 94 (cel 0 xss))::inn 0 xss)=true:=zut (by decide) (by decide) (z9x (by decide) _ _)
       have hset:xss.set x.2.2.toNat []=xss:=by
        apply List.ext_getElem?
        intro s
        by_cases h:x.2.2.toNat=s
        · subst h;rw[List.getElem?_set_self hil,hxs]
        · rw[List.getElem?_set_ne h]
       repeat' (first|(apply z05;(first|refine z0o ?_| (apply z09;(refine z02 z27 rfl rfl ?_))|(apply z0f;(refine z02 (z1i (ys:=l.map z2l) rfl (idx hx)) rfl rfl ?_))|(apply z0p;(refine z02 (z0q z1c) rfl rfl ?_))|(apply z0c;(first|refine zgb rfl rfl rfl rfl rfl (by omega) rfl ?_|refine z23 ?_))|(apply z0h;(refine z0b (zf4 rfl (za7 1 hT7 rfl) (by decide)) ?_))))|(apply z08;(first|refine z0n ?_|apply z07))|(apply z06;(first|apply z0a|apply z00|apply z04|apply z01|apply z2p|apply z03|refine z0g (fun _=>?_) (fun _=>?_)| refine z0j ?_))|(apply z2r;(first|refine znn (fs:=[43]) mix (by kernel_rfl) rfl (by simp only[List.all_cons,List.all_nil,Bool.and_true];exact za7 3 hT43 rfl) ?_|refine z2s ?_| (apply z0r;(first|refine z0m (zlr hcell' rfl rfl) rfl rfl ?_| refine z0m z1d rfl rfl ?_))|(apply z0s;(refine z0m z0i rfl rfl ?_))|(apply z14;(refine z0m (zgr rfl (by omega) (by omega) rfl) rfl rfl ?_))|(apply z47;(refine zgu (r:=[((i:Nat):Int)]) (g:=icc) (by first|exact rfl|exact⟨_,rfl,rfl,rfl⟩) rfl rfl rfl (fun _=>rfl) rfl (za7 3 hT43 rfl) (by decide) (by simp) ?_))|(apply z5j;(refine z8u rfl ?_)))))
       all_goals try (exfalso;omega)
       refine zkx (tm':=TMI F A l i (j+1)) (pre:=[(43,.row 3 1 (([]++[((i:Nat):Int)]).map icc)),(1000,.rowp 94 ((cel 0 xss).set x.2.2.toNat (.ref (0,43)))),(1,BX F A)]) (T:=inn 0 xss) 6 rfl rfl rfl rfl (fun s h=>zcq _ _ h) ?_
       rw[← hset]
       rw[show ((cel 0 (xss.set x.2.2.toNat [])).set x.2.2.toNat (.ref (0,43)))=((cel 0 xss).set x.2.2.toNat (.ref (0,43))) by rw[hset]]
       refine zoi 43 (xss:=xss) (i:=x.2.2.toNat) (ys:=[]++[((i:Nat):Int)]) hil (by simp) (by decide) [(1,BX F A)] (by simp[z2x,PV.says];omega) rfl (by decide) (fun s b hb=>?_) ?_
       · rw[Ab.look] at hb
         split at hb
         · rename_i h1;subst h1;simp at hb;subst hb;exact⟨by decide,by decide,by decide,zpa F A _ _⟩
         · simp[Ab.look] at hb
       exact y3n rfl ihj'
     · have hcell1:((cel 0 xss).set x.2.2.toNat (.ref (0,1001)))[x.2.2.toNat]? =some (.ref (0,1001)):=List.getElem?_set_self (by omega)
       have hcl1:((cel 0 xss).set x.2.2.toNat (.ref (0,1001))).length=xss.length:=by rw[List.length_set,hcl]
       have hss:((cel 0 xss).set x.2.2.toNat (.ref (0,1001))).set x.2.2.toNat (.ref (0,43))=(cel 0 xss).set x.2.2.toNat (.ref (0,43)):=by rw[List.set_set]
       refine y1c rfl ?_
       refine y07 hxs hne [(1,BX F A)] (by simp[z2x,PV.says];omega) rfl (fun s b hb=>?_) ?_
       · rw[Ab.look] at hb
         split at hb
         · rename_i h1;subst h1;simp at hb;subst hb;exact⟨by decide,by decide,by decide,zpa F A _ _⟩
         · simp[Ab.look] at hb
       have hT7:z0y 7 ((1000,.rowp 94 ((cel 0 xss).set x.2.2.toNat (.ref (0,1001))))::((1,BX F A)::inn 0 (xss.set x.2.2.toNat [])))=true:=by
        rw[z0y,z0y,zbp (by decide),zpw]
        simp[Blk.says,z83 (n:=(0,7)) (p:=.ref (0,1001)) (i:=x.2.2.toNat) (z9x (d:=7) (by decide) xss 0) rfl]
       have hT43:z0y 43 ((1000,.rowp 94 ((cel 0 xss).set x.2.2.toNat (.ref (0,1001))))::((1,BX F A)::inn 0 (xss.set x.2.2.toNat [])))=true:=by
        rw[z0y,z0y,zbp (by decide),zpw]
        simp[Blk.says,z83 (n:=(0,43)) (p:=.ref (0,1001)) (i:=x.2.2.toNat) (z9x (d:=43) (by decide) xss 0) rfl]
       generalize (cel 0 xss).set x.2.2.toNat (.ref (0,1001))=cs1 at *
       repeat' (first|(apply z05;(first|refine z0o ?_| (apply z09;(refine z02 z27 rfl rfl ?_))|(apply z0f;(refine z02 (z1i (ys:=l.map z2l) rfl (idx hx)) rfl rfl ?_))|(apply z0p;(refine z02 (z0q z1c) rfl rfl ?_))|(apply z0c;(first|refine zgb rfl rfl rfl rfl rfl (by omega) rfl ?_|refine z23 ?_))|(apply z0h;(refine z0b (zf4 rfl (za7 1 hT7 rfl) (by decide)) ?_))))|(apply z08;(first|refine z0n ?_|apply z07))|(apply z06;(first|apply z0a|apply z00|apply z04|apply z01|apply z2p|apply z03|refine z0g (fun _=>?_) (fun _=>?_)| refine z0j ?_))|(apply z2r;(first|refine znn (fs:=[43]) mix (by kernel_rfl) rfl (by simp only[List.all_cons,List.all_nil,Bool.and_true];exact za7 3 hT43 rfl) ?_|refine z2s ?_| (apply z0r;(first|refine z0m (zlr hcell1 rfl rfl) rfl rfl ?_| refine z0m z1d rfl rfl ?_))|(apply z0s;(refine z0m z0i rfl rfl ?_))|(apply z14;(refine z0m (zgr rfl (by omega) (by omega) rfl) rfl rfl ?_))|(apply z47;(refine z5y (g:=icc) (by first|exact rfl|exact⟨_,rfl,rfl,rfl⟩) rfl rfl ((i:Nat):Int) rfl rfl rfl rfl rfl rfl (za7 3 hT43 rfl) (by decide) (by omega) ?_))|(apply z5j;(refine z8u rfl ?_)))))
       all_goals try (exfalso;omega)
       rw[hss]
       refine zkx (tm':=TMI F A l i (j+1)) (pre:=[(43,.row 3 1 ((xs++[((i:Nat):Int)]).map icc)),(1000,.rowp 94 ((cel 0 xss).set x.2.2.toNat (.ref (0,43)))),(1,BX F A)]) (T:=inn 0 (xss.set x.2.2.toNat [])) 8 rfl rfl rfl rfl (fun s h=>zcq _ _ h) ?_
       refine zoi 43 (xss:=xss) (i:=x.2.2.toNat) (ys:=xs++[((i:Nat):Int)]) hil (by simp) (by decide) [(1,BX F A)] (by simp[z2x,PV.says];omega) rfl (by decide) (fun s b hb=>?_) ?_
       · rw[Ab.look] at hb
         split at hb
         · rename_i h1;subst h1;simp at hb;subst hb;exact⟨by decide,by decide,by decide,zpa F A _ _⟩
         · simp[Ab.look] at hb
       exact y3n rfl ihj'
   · obtain rfl:j=l.length:=by omega
     rw[List.drop_length,List.foldl_nil] at j4
     have ih':=ih (i+1,xss) ⟨by simp only;omega,j2,fun xs hx=>by have:=j3 xs hx;simp only;omega,by rw[j4];exact i4⟩ (by simp only;omega)
     repeat' (first|(apply z05;(first|refine z0o ?_| (apply z0p;(refine z02 (z0q z1c) rfl rfl ?_))))|(apply z08;(first|refine z0n ?_|apply z07))|(apply z06;(first|apply z0a|apply z00|apply z04|apply z01|apply z03|refine z0g (fun _=>?_) (fun _=>?_)| refine z0j ?_)))
     all_goals try (exfalso;omega)
     refine zkx (tm':=TMO F A (i+1)) (pre:=[(1,BX F A),(1000,.rowp 94 (cel 0 xss))]) (T:=inn 0 xss) 2 rfl rfl rfl rfl (fun s h=>zcq _ _ h) ?_
     exact ih'
 · obtain rfl:i=A.length:=by omega
   rw[List.drop_length,zuy] at i4
   clear ih
   have hXmem:∀ (s:Nat) (p:Int),p∈xss0.getD s []↔∃ (k:Nat) (l:List Arc) (x:Arc),A[k]? =some l∧x∈l∧x.2.2.toNat=s∧p=k:=fun s p=>by
    rw[i4,zjt (fun l hl x hx=>by rw[List.length_replicate];have:=(hr l hl).2 x hx;omega)]
    constructor
    · rintro(h|⟨k,l,x,h1,h2,h3,h4⟩)
      · rw[List.getD,List.getElem?_replicate] at h;split at h <;> simp at h
      · exact⟨k,l,x,h1,h2,h3,by rw[h4,Nat.zero_add]⟩
    · rintro⟨k,l,x,h1,h2,h3,h4⟩
      exact .inr ⟨k,l,x,h1,h2,h3,by rw[h4,Nat.zero_add]⟩
   have hXlen:∀ xs∈xss0,xs.length≤1000000000:=fun xs hx=>by have:=i3 xs hx;have:=zv1 A A.length;omega
   clear i4 i3
   refine y1c rfl ?_
   refine zt2 [(1,BX F A)] (fun m=>by simp[z2x,PV.says];omega) (fun m s b hb=>?_) ?_
   · rw[Ab.look] at hb
     split at hb
     · rename_i h1;subst h1;simp at hb;subst hb
       exact⟨by decide,by decide,fun x=>by simp[Blk.frz,zrb,PV.frz]⟩
     · simp[Ab.look] at hb
   refine z1g 1000 rfl ?_
   have hrow:List.replicate ((F.length:Nat):Int).toNat [D.lit (.bool false)]=(List.replicate F.length false).map boc:=by simp
   repeat' (first|(apply z05;(first|refine z0o ?_| (apply z09;(refine z02 z1d rfl rfl ?_))|(apply z0d;(refine z02 z0i rfl rfl ?_))|(apply z0t;(refine z02 (z1b rfl) rfl rfl ?_))|(apply ze3;(refine zed (xs:=(List.replicate F.length false).map boc) rfl rfl (by omega) (by omega) rfl rfl rfl (by decide) (by simp) ?_))))|(apply z08;(first|refine z0n ?_|apply z07))|(apply z06;(first|apply z0a|apply z00|apply z04|apply z01|refine z0g (fun _=>?_) (fun _=>?_)| refine z0j ?_)))
   all_goals try (exfalso;omega)
   refine z1s 50 1006 ?_
   refine z2e 9 1004 3 1 rfl rfl rfl ?_
   have hcnt:(List.replicate F.length false).count false=F.length:=by simp
   refine z1a ?_
   refine z0e (z1y (fun q:Nat × List Bool × List Int=>⟨105,[(3,.d (.slice (xss0.map fun xs=>[D.slice (xs.map icc)]))),(8,.ref (0,1006)),(9,.ref (0,1004)),(52,.d (z7a F)),(53,I .i64 F.length),(54,I .i64 (q.1:Nat))],[(1006,.row 4 1 (q.2.1.map boc)),(1004,.row 3 1 (q.2.2.map icc))],H⟩) (fun q=>q.1≤F.length∧q.2.1.length=F.length∧(∀ z∈q.2.2,∃ s:Nat,z=(s:Int)∧q.2.1[s]? =some true)∧(∀ s:Nat,q.2.1[s]? =some true↔s<q.1∧F[s]? =some true)∧(∀ s:Nat,q.2.1[s]? =some true→(s:Int)∈q.2.2)∧q.2.2.length+q.2.1.count false≤F.length) (fun q=>F.length-q.1) ?_ (0,List.replicate F.length false,[]) ⟨Nat.zero_le _,by simp,by simp,fun s=>by simp[List.getElem?_replicate],fun s=>by simp[List.getElem?_replicate],by simp⟩) rfl rfl
   rintro⟨q,out,stk⟩ ⟨k1,k2,k3,k4,k5,k6⟩ ih
   simp only at k1 k2 k3 k4 k5 k6 ih ⊢
   by_cases hq:q<F.length
   · obtain⟨b,hb⟩:∃ b,F[q]? =some b:=⟨_,List.getElem?_eq_getElem hq⟩
     obtain⟨o,ho⟩:∃ o,out[q]? =some o:=⟨_,List.getElem?_eq_getElem (by omega)⟩
     have hof:o=false:=by
      cases o with
      | false=>rfl
      | true=>have:=(k4 q).1 ho;omega
     subst hof
     cases b with
     | true =>
      have hc:=count_set ho
      have hset:out.set ((q:Nat):Int).toNat true=out.set q true:=by rw[Int.toNat_natCast]
      have hoi:out[((q:Nat):Int).toNat]? =some false:=by rw[Int.toNat_natCast];exact ho
      have up:∀ s:Nat,out[s]? =some true→(out.set q true)[s]? =some true:=fun s hs=>by
       by_cases e:q=s
       · subst e;exact List.getElem?_set_self (by omega)
       · rw[List.getElem?_set_ne e];exact hs
      have ih':=ih (q+1,out.set q true,stk++[((q:Nat):Int)]) ⟨by simp only;omega,by simp[k2],fun z hz=>by
       simp only at hz
       rw[List.mem_append,List.mem_singleton] at hz
       rcases hz with hz|rfl
       · obtain⟨s,h1,h2⟩:=k3 z hz;exact⟨s,h1,up s h2⟩
       · exact⟨q,rfl,List.getElem?_set_self (by omega)⟩,fun s=>by
       simp only
       by_cases e:q=s
       · subst e;rw[List.getElem?_set_self (by omega)];simp[hb]
       · rw[List.getElem?_set_ne e,k4 s]
         constructor
         · rintro⟨h1,h2⟩;exact⟨by omega,h2⟩
         · rintro⟨h1,h2⟩;exact⟨by omega,h2⟩,fun s hs=>by
       simp only at hs ⊢
       by_cases e:q=s
       · subst e;simp
       · rw[List.getElem?_set_ne e] at hs;rw[List.mem_append];exact .inl (k5 s hs),by simp only[List.length_append,List.length_singleton];omega⟩ (by simp only;omega)
      repeat' (first|(apply z05;(first|refine z0o ?_| (apply z09;(refine z02 z1p rfl rfl ?_))|(apply z0f;(first|refine z02 (z1i (ys:=F.map boc) rfl (idx (g:=boc) hb)) rfl rfl ?_| refine z02 (z1v rfl (by omega) (by simp only[List.length_map];omega) rfl) rfl rfl ?_))|(apply z0p;(refine z02 (z0q z1c) rfl rfl ?_))|(apply z0t;(refine z2q (g:=icc) ((q:Nat):Int) rfl ?_))|(apply z0c;(refine z42 true hoi hset ?_))|(apply z1w;(refine z29 rfl ?_))))|(apply z08;(first|refine z0n ?_|apply z07))|(apply z06;(first|apply z0a|apply z00|refine z1h ?_| apply z04|apply z01|apply z03|refine z0g (fun _=>?_) (fun _=>?_)| refine z0j ?_)))
      all_goals try (exfalso;omega)
      all_goals refine z1s 66 1004 ?_
      all_goals exact z0e ih' rfl rfl
     | false =>
      have ih':=ih (q+1,out,stk) ⟨by simp only;omega,k2,k3,fun s=>by
       simp only
       rw[k4 s]
       constructor
       · rintro⟨h1,h2⟩;exact⟨by omega,h2⟩
       · rintro⟨h1,h2⟩
         refine⟨?_,h2⟩
         have:s≠q:=by rintro rfl;rw[hb] at h2;cases h2
         omega,k5,k6⟩ (by simp only;omega)
      repeat' (first|(apply z05;(first|refine z0o ?_| (apply z09;(refine z02 z1p rfl rfl ?_))|(apply z0f;(refine z02 (z1i (ys:=F.map boc) rfl (idx (g:=boc) hb)) rfl rfl ?_))|(apply z0p;(refine z02 (z0q z1c) rfl rfl ?_))))|(apply z08;(first|refine z0n ?_|apply z07))|(apply z06;(first|apply z0a|apply z00|refine z11 ?_| apply z04|apply z01|apply z03|refine z0g (fun _=>?_) (fun _=>?_)| refine z0j ?_)))
      all_goals try (exfalso;omega)
      all_goals exact z0e ih' rfl rfl
   · obtain rfl:q=F.length:=by omega
     have hR:Go.Ax.Reach F A xss0 out stk fun _=>False:=⟨k2,k3,fun s hs=>.fin s ((k4 s).1 hs).2,fun s hs=>(k4 s).2 ⟨(List.getElem?_eq_some_iff.1 hs).1,hs⟩,fun s hs=>.inl (k5 s hs),k6⟩
     clear k3 k4 k5 k6 ih
     repeat' (first|(apply z05;(refine z0o ?_))|(apply z08;(first|refine z0n ?_|apply z07))|(apply z06;(first|apply z0a|apply z00|apply z04|apply z01|refine z0g (fun _=>?_) (fun _=>?_)| refine z0j ?_)))
     all_goals try (exfalso;omega)
     refine z1a ?_
     refine z0e (z1y (fun q:List Bool × List Int=>⟨105,[(3,.d (.slice (xss0.map fun xs=>[D.slice (xs.map icc)]))),(8,.ref (0,1006)),(9,.ref (0,1004))],[(1006,.row 4 1 (q.1.map boc)),(1004,.row 3 1 (q.2.map icc))],H⟩) (fun q=>Go.Ax.Reach F A xss0 q.1 q.2 fun _=>False) (fun q=>2*q.1.count false+q.2.length) ?_ (out,stk) hR) rfl rfl
     clear hR k2 out stk
     rintro⟨out,stk⟩ hR ih
     simp only at hR ih ⊢
     rcases Go.Ab.zdd stk with rfl|⟨stk,z,rfl⟩
     · have hfin:=zrx hR.len (hR.done hXmem)
       rw[← hfin]
       repeat' (first|(apply z05;(first|refine z0o ?_| (apply z0t;(refine z02 (z18 rfl) rfl rfl ?_))))|(apply z08;(first|refine z0n ?_|apply z07))|(apply z06;(first|apply z0a|apply z00|refine z11 ?_| refine z0j ?_)))
       all_goals try (exfalso;simp at *;done)
       all_goals refine z1g 1006 rfl ?_
       all_goals exact z0l Tryz.func56 _ z16 ⟨rfl,rfl⟩
     · obtain⟨s0,rfl,hs0⟩:=hR.onS z (by simp)
       have hs0l:s0<F.length:=by have:=(List.getElem?_eq_some_iff.1 hs0).1;rw[hR.len] at this;exact this
       obtain⟨bq,hbq⟩:∃ bq,xss0[s0]? =some bq:=⟨_,List.getElem?_eq_getElem (by omega)⟩
       have hbqi:xss0[((s0:Nat):Int).toNat]? =some bq:=by rw[Int.toNat_natCast];exact hbq
       have hbl:=hXlen bq (List.mem_of_getElem? hbq)
       have hll:(stk++[((s0:Nat):Int)]).length=stk.length+1:=by simp
       have hlast:(stk++[((s0:Nat):Int)])[((((stk++[((s0:Nat):Int)]).length:Nat):Int)-1).toNat]? =some ((s0:Nat):Int):=by
        rw[hll,show (((stk.length+1:Nat):Int)-1).toNat=stk.length by omega];simp
       have hfew:=hR.few
       have htake:((stk++[((s0:Nat):Int)]).map icc).take (((((stk++[((s0:Nat):Int)]).length:Nat):Int)-1).toNat)=stk.map icc:=by
        rw[hll,show (((stk.length+1:Nat):Int)-1).toNat=stk.length by omega,List.map_append,List.take_left' (by simp)]
       repeat' (first|(apply z05;(first|refine z0o ?_| (apply z09;(first|refine z02 (z2d (u:=z1m (s0:Nat)) hlast) rfl rfl ?_| refine z02 z1p rfl rfl ?_))|(apply z0f;(first|refine z02 (z1v rfl (by omega) (by simp only[List.length_map];omega) rfl) rfl rfl ?_| refine z02 (z1i (ys:=xss0.map fun xs=>[D.slice (xs.map icc)]) rfl (z52 (g:=fun xs=>[D.slice (xs.map icc)]) hbqi)) rfl rfl ?_))|(apply z0p;(refine z02 (z22 z1c) rfl rfl ?_))|(apply zj4;(refine z02 (znk rfl (by omega) (by simp only[List.length_map];omega) rfl) rfl rfl ?_))|(apply z0t;(first|refine z02 (z18 rfl) rfl rfl ?_| refine z02 (z1b rfl) rfl rfl ?_))))|(apply z08;(first|refine z0n ?_|apply z07))|(apply z06;(first|apply z0a|apply z00|apply z04|apply z01|refine z0g (fun _=>?_) (fun _=>?_)| refine z0j ?_)))
       all_goals try (exfalso;omega)
       refine zrk 9 1005 rfl rfl (by simp only[List.length_map];omega) rfl (by decide) ?_
       rw[htake]
       refine z1s 1005 1004 ?_
       refine z1a ?_
       have hR1:=hR.pop
       have hs0X:∀ p∈bq,∃ k:Nat,p=(k:Int)∧k<F.length∧z5z F A k:=fun p hp=>by
        obtain⟨k,l,x,h1,h2,h3,h4⟩:=(hXmem s0 p).1 (by rw[List.getD,hbq];exact hp)
        refine⟨k,h4,by have:=(List.getElem?_eq_some_iff.1 h1).1;omega,.arc k l x h1 h2 ?_⟩
        rw[h3];exact hR.sound s0 hs0
       refine z0e (z1y (fun q:Nat × List Bool × List Int=>⟨105,[(3,.d (.slice (xss0.map fun xs=>[D.slice (xs.map icc)]))),(8,.ref (0,1006)),(9,.ref (0,1004)),(85,.d (.slice (bq.map icc))),(86,I .i64 bq.length),(87,I .i64 (q.1:Nat))],[(1006,.row 4 1 (q.2.1.map boc)),(1004,.row 3 1 (q.2.2.map icc))],H⟩) (fun q=>q.1≤bq.length∧(Go.Ax.Reach F A xss0 q.2.1 q.2.2 fun s=>s=s0)∧(∀ p∈bq.take q.1,q.2.1[p.toNat]? =some true)∧2*q.2.1.count false+q.2.2.length≤2*out.count false+stk.length) (fun q=>bq.length-q.1) ?_ (0,out,stk) ⟨Nat.zero_le _,hR1,by simp,Nat.le_refl _⟩) rfl rfl
       rintro⟨j,out2,stk2⟩ ⟨j1,hR2,j3,j4⟩ ihj
       simp only at j1 hR2 j3 j4 ihj ⊢
       by_cases hj:j<bq.length
       · obtain⟨p,hp⟩:∃ p,bq[j]? =some p:=⟨_,List.getElem?_eq_getElem hj⟩
         obtain⟨kk,rfl,hk,hlead⟩:=hs0X p (List.mem_of_getElem? hp)
         obtain⟨o,ho⟩:∃ o,out2[kk]? =some o:=⟨_,List.getElem?_eq_getElem (by rw[hR2.len];exact hk)⟩
         have hoi:out2[((kk:Nat):Int).toNat]? =some o:=by rw[Int.toNat_natCast];exact ho
         have htk:bq.take (j+1)=bq.take j++[((kk:Nat):Int)]:=by rw[List.take_add_one,hp];rfl
         have hfew2:=hR2.few
         have hol:=hR2.len
         cases o with
         | true =>
          have ihj':=ihj (j+1,out2,stk2) ⟨by simp only;omega,hR2,fun z hz=>by
           simp only at hz ⊢
           rw[htk,List.mem_append,List.mem_singleton] at hz
           rcases hz with hz|rfl
           · exact j3 z hz
           · exact hoi,j4⟩ (by simp only;omega)
          repeat' (first|(apply z05;(first|refine z0o ?_| (apply z09;(first|refine z02 (z2d (u:=z7l true) hoi) rfl rfl ?_| refine z02 z1p rfl rfl ?_))|(apply z0f;(first|refine z02 (z1i (ys:=bq.map icc) rfl (idx (g:=icc) hp)) rfl rfl ?_| refine z02 (z1v rfl (by omega) (by simp only[List.length_map];omega) rfl) rfl rfl ?_))|(apply z0p;(refine z02 (z0q z1c) rfl rfl ?_))))|(apply z08;(first|refine z0n ?_|apply z07))|(apply z06;(first|apply z0a|apply z00|refine z11 ?_| apply z04|apply z01|apply z03|refine z0g (fun _=>?_) (fun _=>?_)| refine z0j ?_)))
          all_goals try (exfalso;first|omega|(simp at *;done))
          all_goals exact z0e ihj' rfl rfl
         | false =>
          have hc:=count_set ho
          have hset:out2.set ((kk:Nat):Int).toNat true=out2.set kk true:=by rw[Int.toNat_natCast]
          have ihj':=ihj (j+1,out2.set kk true,stk2++[((kk:Nat):Int)]) ⟨by simp only;omega,hR2.push ho hlead,fun z hz=>by
           simp only at hz ⊢
           rw[htk,List.mem_append,List.mem_singleton] at hz
           rcases hz with hz|rfl
           · have:=j3 z hz
             by_cases e:kk=z.toNat
             · rw[← e];exact List.getElem?_set_self (by omega)
             · rw[List.getElem?_set_ne e];exact this
           · rw[Int.toNat_natCast];exact List.getElem?_set_self (by omega),by simp only[List.length_append,List.length_singleton];omega⟩ (by simp only;omega)
          repeat' (first|(apply z05;(first|refine z0o ?_| (apply z09;(first|refine z02 (z2d (u:=z7l false) hoi) rfl rfl ?_| refine z02 z1p rfl rfl ?_))|(apply z0f;(first|refine z02 (z1i (ys:=bq.map icc) rfl (idx (g:=icc) hp)) rfl rfl ?_| refine z02 (z1v rfl (by omega) (by simp only[List.length_map];omega) rfl) rfl rfl ?_))|(apply z0p;(refine z02 (z0q z1c) rfl rfl ?_))|(apply z0t;(refine z2q (g:=icc) ((kk:Nat):Int) rfl ?_))|(apply z0c;(refine z42 true hoi hset ?_))|(apply z1w;(refine z29 rfl ?_))))|(apply z08;(first|refine z0n ?_|apply z07))|(apply z06;(first|apply z0a|apply z00|refine z1h ?_| apply z04|apply z01|apply z03|refine z0g (fun _=>?_) (fun _=>?_)| refine z0j ?_)))
          all_goals try (exfalso;first|omega|(simp at *;done))
          all_goals refine z1s 102 1004 ?_
          all_goals exact z0e ihj' rfl rfl
       · obtain rfl:j=bq.length:=by omega
         rw[List.take_length] at j3
         have ih':=ih (out2,stk2) (hR2.shut (by rw[List.getD,hbq];exact j3)) (by simp only[List.length_append,List.length_singleton];omega)
         repeat' (first|(apply z05;(refine z0o ?_))|(apply z08;(first|refine z0n ?_|apply z07))|(apply z06;(first|apply z0a|apply z00|apply z04|apply z01|apply z03|refine z0g (fun _=>?_) (fun _=>?_)| refine z0j ?_)))
         all_goals try (exfalso;omega)
         all_goals exact z0e ih' rfl rfl
end Go.Proofs.YthdfkabdoidjfaaGreatDoor
namespace Go.Proofs.YthdfkabdoidjfaaGreatDoor
open Go.Ab Go.Ax
set_option maxHeartbeats 20000000
set_option maxRecDepth 100000
attribute [local irreducible] Run Ops Op1 z2b Val Tr z0v z2c NF Rel z3w z3x
theorem zje:zhq Tryz.prog 9 (fun x:ByteArray=>Value.string x):=y0q.gen (T9.str rfl)
theorem zou {a:ByteArray}:∀ β w own v,PR β w own (S a) v→v=Value.string a:=fun β w own v h=>h.lit
theorem zkk {K:Type}:∀ (ks:List K) (i:Nat),(z38 i ks).length=ks.length
 | [],_=>rfl
 | k::ks,i=>by rw[z38,List.length_cons,zkk ks,List.length_cons]
abbrev mpB (ks:List ByteArray):Blk:=.mp ((z38 0 ks).map fun p=>(Value.string p.1,p.2))
theorem zfe {n:Nat} {tm:List (Nat × PV)} {hp:Hp} {up:Hf} {d:Nat} {ty:TypeId} {pos:String} {aft:Array Go.Edge} {gd:Option (Nat × Bool)} {x:Operand} {t kt et:TypeId} {ms:Nat} {ks:List ByteArray} (hm:Tryz.prog.underlying t=some (.map kt et)) (hx:St.ev ⟨n,tm,hp,up⟩ x=some (.ref (0,ms))) (hb:Ab.look hp ms=some (mpB ks)) (hd:d<n) :
 z2b Tryz.prog ⟨some d,.call ⟨.builtin .len,#[x],#[t]⟩,ty,pos,aft,gd⟩ ⟨n,tm,hp,up⟩ ⟨n,(d,I .i64 ks.length)::tm,hp,up⟩:=by
 have:=y1f (P:=Tryz.prog) (ty:=ty) (pos:=pos) (aft:=aft) (gd:=gd) hm hx hb hd
 rwa [List.length_map,zkk] at this
theorem z9c {a:List Int} {n q:Nat} (hq:a.length=q) (h:q<n) (v w:Int):(a++v::List.replicate (n-q-1) 0).set q w=a++w::List.replicate (n-q-1) 0:=by
 subst hq;simp
theorem za5 {n q:Nat} (h:q<n):List.replicate (n-q) (0:Int)=0::List.replicate (n-q-1) 0:=by
 obtain⟨k,hk⟩:∃ k,n-q=k+1:=⟨n-q-1,by omega⟩
 rw[hk,List.replicate_succ,show k+1-1=k by omega]
def y23 (o:Option (List Int)):PV:=match o with
 | some cl=>.tup [.d (ints cl),B true]
 | none=>.tup [.d (ints []),B false]
theorem zo0 (F:List Bool) (A:List (List Arc)) (lim:Int) (hl0:0≤lim) (hAF:A.length=F.length) (hr:∀ l∈A,l.length≤2000000∧∀ x∈l,0≤x.1∧x.1≤x.2.1∧x.2.1≤1114111∧0≤x.2.2∧x.2.2<F.length) (hlen:F.length≤4000000) (htot:(A.map List.length).sum≤1000000000) :
 z0v Tryz.prog 78 [.d (auD ⟨F,A⟩),I .i64 lim] (y23 (zvo F A lim.toNat)):=by
 refine z1e fun H=>?_
 have hal:=zvr F A hAF (fun l hl=>⟨(hr l hl).1,fun x hx=>by have:=(hr l hl).2 x hx;omega⟩) hlen htot
 have hLl:(z6d F A).length=F.length:=by simp[z6d]
 have hA1:∀ l∈A,∀ x∈l,0≤x.1∧x.1≤x.2.1∧x.2.1≤1114111:=fun l hl x hx=>by have:=(hr l hl).2 x hx;omega
 have hW0:=zpf F A
 have hc0:∀ q,q<F.length→(cl0 F A).take (q+1)=(cl0 F A).take q++[if (z6d F A).getD q false=true then (if F.getD q false=true then 1 else 0) else -1]:=fun q hq=>by
  rw[List.take_add_one]
  congr 1
  simp[cl0,hq]
 have hcl0:(cl0 F A).length=F.length:=hW0.len
 rw[zvo]
 generalize hres:zib A lim.toNat (F.length+1) 0 (cl0 F A)=res
 generalize z6d F A=L at *
 generalize cl0 F A=C0 at *
 refine z0k Tryz.func78 (by kernel_rfl) rfl (by simp) ?_
 dsimp only[Tryz.f78]
 repeat' (first|(apply z05;(first|refine z0o ?_| (apply z09;(first|refine z02 z3t rfl rfl ?_| refine z02 z1d rfl rfl ?_))|(apply z0d;(refine z02 z0i rfl rfl ?_))|(apply z0t;(first|refine z02 (z18 rfl) rfl rfl ?_| refine z02 (z1b rfl) rfl rfl ?_))|(apply z0u;(refine z1j hal ?_))|(apply z1q;(refine z0b z25 ?_))|(apply ze3;(refine zed (xs:=(List.replicate F.length (0:Int)).map icc) rfl rfl (Int.natCast_nonneg _) (by show ((F.length:Nat):Int)≤_;omega) rfl rfl rfl (by decide) (by simp) ?_))))|(apply z08;(first|refine z0n ?_|apply z07))|(apply z06;(first|apply z0a|apply z00|apply z01)))
 all_goals try (exfalso;omega)
 refine z1s 24 1000 ?_
 rw[show ((List.replicate F.length (0:Int)).length)=F.length by simp]
 refine z1a ?_
 refine z0e (z1y (fun q:Nat=>⟨129,[(1,I .i64 lim),(2,.ptr (0,2) 0),(6,.d (z7a L)),(7,.ref (0,1000)),(26,I .i64 F.length),(27,I .i64 (q:Nat))],[(1000,.row 3 1 ((C0.take q++List.replicate (F.length-q) 0).map icc)),(2,BX F A)],H⟩) (fun q=>q≤F.length) (fun q=>F.length-q) ?_ 0 (Nat.zero_le _)) rfl rfl
 · intro q hq ih
   by_cases hlt:q<F.length
   · obtain⟨b,hb⟩:∃ b,F[q]? =some b:=⟨_,List.getElem?_eq_getElem hlt⟩
     obtain⟨o,ho⟩:∃ o,L[q]? =some o:=⟨_,List.getElem?_eq_getElem (by omega)⟩
     have hcq:=hc0 q hlt
     rw[List.getD,ho,Option.getD_some,List.getD,hb,Option.getD_some] at hcq
     have ih':=ih (q+1) (by omega) (by omega)
     have hrs:=za5 hlt
     have htl:(C0.take q).length=q:=by rw[List.length_take];omega
     have hget:(C0.take q++List.replicate (F.length-q) 0)[((q:Nat):Int).toNat]? =some 0:=by
      rw[hrs,Int.toNat_natCast,List.getElem?_append_right (by omega),htl,Nat.sub_self];rfl
     have hset:∀ v,(C0.take q++List.replicate (F.length-q) 0).set ((q:Nat):Int).toNat v=C0.take q++[v]++List.replicate (F.length-(q+1)) 0:=fun v=>by
      rw[hrs,Int.toNat_natCast,z9c htl hlt,show F.length-(q+1)=F.length-q-1 by omega];simp
     have hno:C0.take q++List.replicate (F.length-q) 0=C0.take q++[0]++List.replicate (F.length-(q+1)) 0:=by
      rw[hrs,show F.length-(q+1)=F.length-q-1 by omega];simp
     rw[hcq] at ih'
     cases o with
     | false =>
      rw[if_neg (by decide)] at ih'
      have hs1:=hset (-1)
      repeat' (first|(apply z05;(first|refine z0o ?_| (apply z09;(refine z02 z1p rfl rfl ?_))|(apply z0f;(first|refine z02 (z1i (ys:=L.map boc) rfl (idx (g:=boc) ho)) rfl rfl ?_| refine z02 (z1v rfl (by omega) (by simp only[List.length_map,List.length_append,List.length_replicate,htl];omega) rfl) rfl rfl ?_))|(apply z0p;(refine z02 (z0q z1c) rfl rfl ?_))|(apply z0c;(refine z42 (-1:Int) hget hs1 ?_))))|(apply z08;(first|refine z0n ?_|apply z07))|(apply z06;(first|apply z0a|apply z00|refine z1h ?_| apply z04|apply z01|apply z03|refine z0g (fun _=>?_) (fun _=>?_)| refine z0j ?_)))
      all_goals try (exfalso;first|omega|(simp at *;done))
      all_goals exact z0e ih' rfl rfl
     | true =>
      rw[if_pos rfl] at ih'
      cases b with
      | true =>
       rw[if_pos rfl] at ih'
       have hs1:=hset 1
       repeat' (first|(apply z05;(first|refine z0o ?_| (apply z09;(first|refine z02 z1d rfl rfl ?_| refine z02 z1p rfl rfl ?_))|(apply z0d;(refine z02 z0i rfl rfl ?_))|(apply z0f;(first|refine z02 (z1i (ys:=L.map boc) rfl (idx (g:=boc) ho)) rfl rfl ?_| refine z02 (z1i (ys:=F.map boc) rfl (idx (g:=boc) hb)) rfl rfl ?_| refine z02 (z1v rfl (by omega) (by simp only[List.length_map,List.length_append,List.length_replicate,htl];omega) rfl) rfl rfl ?_))|(apply z0p;(refine z02 (z0q z1c) rfl rfl ?_))|(apply z0c;(refine z42 (1:Int) hget hs1 ?_))))|(apply z08;(first|refine z0n ?_|apply z07))|(apply z06;(first|apply z0a|apply z00|refine z1h ?_| refine z11 ?_| apply z04|apply z01|apply z03|refine z0g (fun _=>?_) (fun _=>?_)| refine z0j ?_)))
       all_goals try (exfalso;first|omega|(simp at *;done))
       all_goals exact z0e ih' rfl rfl
      | false =>
       rw[if_neg (by decide),← hno] at ih'
       repeat' (first|(apply z05;(first|refine z0o ?_| (apply z09;(first|refine z02 z1d rfl rfl ?_| refine z02 z1p rfl rfl ?_))|(apply z0d;(refine z02 z0i rfl rfl ?_))|(apply z0f;(first|refine z02 (z1i (ys:=L.map boc) rfl (idx (g:=boc) ho)) rfl rfl ?_| refine z02 (z1i (ys:=F.map boc) rfl (idx (g:=boc) hb)) rfl rfl ?_))|(apply z0p;(refine z02 (z0q z1c) rfl rfl ?_))))|(apply z08;(first|refine z0n ?_|apply z07))|(apply z06;(first|apply z0a|apply z00|refine z11 ?_| apply z04|apply z01|apply z03|refine z0g (fun _=>?_) (fun _=>?_)| refine z0j ?_)))
       all_goals try (exfalso;first|omega|(simp at *;done))
       all_goals exact z0e ih' rfl rfl
   · obtain rfl:q=F.length:=by omega
     clear ih
     rw[Nat.sub_self,List.replicate_zero,List.append_nil,show C0.take F.length=C0 by rw[← hcl0,List.take_length]]
     refine z1g 1000 rfl ?_
     repeat' (first|(apply z05;(refine z0o ?_))|(apply z08;(first|refine z0n ?_|apply z07))|(apply z06;(first|apply z0a|apply z00|apply z04|apply z01|refine z0g (fun _=>?_) (fun _=>?_)| refine z0j ?_)))
     all_goals try (exfalso;omega)
     refine z1a ?_
     refine z0e (z1y (fun q:Nat × Nat × List Int=>⟨129,[(1,I .i64 lim),(2,.ptr (0,2) 0),(7,.d (ints q.2.2)),(9,I .i64 (q.2.1:Nat))],[(2,BX F A)],H⟩) (fun q=>ClW F.length q.2.1 q.2.2∧zib A lim.toNat q.1 q.2.1 q.2.2=res∧F.length+1≤q.1+q.2.1) (fun q=>q.1) ?_ (F.length+1,0,C0) ⟨hW0,hres,by simp only;omega⟩) rfl rfl
     clear hres hW0 hc0 hcl0 hLl hal
     rintro⟨f,c,cl⟩ ⟨hW,hres,hf⟩ ih
     simp only at hW hres hf ih ⊢
     obtain⟨f,rfl⟩:∃ f',f=f'+1:=⟨f-1,by have:=hW.few;omega⟩
     rw[zib] at hres
     obtain⟨hmore,hW2⟩:=zp1 hlen hW hA1
     have hcl:=hW.len
     have hrnd:rnd A cl=(List.range F.length).foldl (z9w A cl) ([],[]):=by rw[rnd,hcl]
     repeat' (first|(apply z05;(first|refine z94 (by decide) rfl ?_|refine z0o ?_| (apply z0t;(refine z02 (z1b rfl) rfl rfl ?_))|(apply ze3;(refine zed (xs:=(List.replicate F.length (0:Int)).map icc) rfl rfl (Int.natCast_nonneg _) (by first|omega|(simp only[List.length_map];omega)) rfl rfl rfl (by decide) (by simp[hcl]) ?_))))|(apply z08;(first|refine z0n ?_|apply z07))|(apply z06;(first|apply z0a|apply z00|apply z01)))
     refine z1s 52 1001 ?_
     refine z1a ?_
     rw[hcl]
     refine z0e (z1y (fun q:Nat × List ByteArray × List Int=>⟨129,[(1,I .i64 lim),(2,.ptr (0,2) 0),(7,.d (ints cl)),(9,I .i64 (c:Nat)),(10,.ref (0,49)),(11,.ref (0,1001)),(53,.d (ints cl)),(54,I .i64 F.length),(55,I .i64 (q.1:Nat))],[(49,mpB q.2.1),(1001,.row 3 1 ((q.2.2++List.replicate (F.length-q.1) 0).map icc)),(2,BX F A)],H⟩) (fun q=>q.1≤F.length∧q.2=(List.range q.1).foldl (z9w A cl) ([],[])) (fun q=>F.length-q.1) ?_ (0,[],[]) ⟨Nat.zero_le _,rfl⟩) rfl rfl
     rintro⟨q,sigs,nx⟩ ⟨q1,q2⟩ ihq
     simp only at q1 q2 ihq ⊢
     have hRn:=rnS A cl q
     rw[← q2] at hRn
     have hnl:nx.length=q:=hRn.len
     have hsl:sigs.length≤q:=hRn.few
     clear hRn
     by_cases hlt:q<F.length
     · obtain⟨k,hk⟩:∃ k,cl[q]? =some k:=⟨_,List.getElem?_eq_getElem (by omega)⟩
       obtain⟨l,hl⟩:∃ l,A[q]? =some l:=⟨_,List.getElem?_eq_getElem (by omega)⟩
       have hkr:=hW.rng k (List.mem_of_getElem? hk)
       have hone:(List.range (q+1)).foldl (z9w A cl) ([],[])=z9w A cl (sigs,nx) q:=by
        rw[List.range_succ,List.foldl_append,List.foldl_cons,List.foldl_nil,← q2]
       rw[z9w,z2g hk,sgA,z2g hk,List.getD,hl,Option.getD_some] at hone
       have hrs:=za5 hlt
       have hget:(nx++List.replicate (F.length-q) 0)[((q:Nat):Int).toNat]? =some 0:=by
        rw[hrs,Int.toNat_natCast,List.getElem?_append_right (by omega),hnl,Nat.sub_self];rfl
       have hset1:(nx++List.replicate (F.length-q) 0).set ((q:Nat):Int).toNat (-1)=nx++(-1)::List.replicate (F.length-q-1) 0:=by
        rw[hrs,Int.toNat_natCast,z9c hnl hlt]
       by_cases hneg:k<0
       · rw[if_pos hneg] at hone
         have ih':=ihq (q+1,sigs,nx++[-1]) ⟨by simp only;omega,hone.symm⟩ (by simp only;omega)
         simp only at ih'
         rw[show nx++[-1]++List.replicate (F.length-(q+1)) 0=nx++(-1)::List.replicate (F.length-q-1) 0 by rw[show F.length-(q+1)=F.length-q-1 by omega];simp] at ih'
         repeat' (first|(apply z05;(first|refine z0o ?_| (apply z09;(refine z02 z1p rfl rfl ?_))|(apply z0f;(first|refine z02 (z1i (ys:=cl.map icc) rfl (idx (g:=icc) hk)) rfl rfl ?_| refine z02 (z1v rfl (by omega) (by simp only[List.length_map,List.length_append,List.length_replicate];omega) rfl) rfl rfl ?_))|(apply z0p;(refine z02 (z0q z1c) rfl rfl ?_))|(apply z0c;(refine z42 (-1:Int) hget hset1 ?_))|(apply z1w;(refine z29 rfl ?_))))|(apply z08;(first|refine z0n ?_|apply z07))|(apply z06;(first|apply z0a|apply z00|apply z04|apply z01|refine z0g (fun _=>?_) (fun _=>?_)| refine z0j ?_)))
         all_goals try (exfalso;omega)
         all_goals exact z0e ih' rfl rfl
       · rw[if_neg hneg] at hone
         obtain⟨l1,l2⟩:=hr l (List.mem_of_getElem? hl)
         have hnum:=zsr k (by omega)
         have hby:=zha l cl l1 (fun x hx=>by have:=l2 x hx;omega)
         have hbm:=zez (B:=4000000) (fun q=>(zaw hW.rng q).2) (hA1 l (List.mem_of_getElem? hl))
         have hbl:=zng (cl:=cl) (l:=l)
         have hsig:zvi cl k l=z6c k++(byC cl l).flatMap fun x=>z6c x.1++z6c x.2.1++z6c x.2.2:=rfl
         generalize byC cl l=es at *
         repeat' (first|(apply z05;(first|refine z0o ?_| (apply z09;(first|refine z02 z1d rfl rfl ?_| refine z02 z1p rfl rfl ?_))|(apply z0d;(refine z02 z0i rfl rfl ?_))|(apply z0f;(first|refine z02 (z1i (ys:=cl.map icc) rfl (idx (g:=icc) hk)) rfl rfl ?_| refine z02 (z1v rfl (by omega) (by simp only[List.length_map,List.length_append,List.length_replicate];omega) rfl) rfl rfl ?_| refine z02 (z1i (ys:=A.map z4a) rfl (idx hl)) rfl rfl ?_))|(apply z0p;(refine z02 (z0q z1c) rfl rfl ?_))|(apply z0t;(first|refine zu9 (g:=by8) (q:=[]) (r:=z6c k) rfl rfl rfl rfl rfl (fun _=>rfl) rfl rfl (by decide) (by simp[z6c]) ?_|refine z02 (z1b rfl) rfl rfl ?_))|(apply z0u;(first|refine z1j hnum ?_| refine z1j hby ?_))|(apply z0c;(refine z42 (-1:Int) hget hset1 ?_))|(apply z1w;(refine zb3 rfl rfl rfl rfl rfl rfl rfl rfl rfl (by decide) ?_))))|(apply z08;(first|refine z0n ?_|apply z07))|(apply z06;(first|apply z0a|apply z00|apply z04|apply z01|refine z0g (fun _=>?_) (fun _=>?_)| refine z0j ?_)))
         all_goals try (exfalso;omega)
         refine z1s 68 1002 ?_
         refine z1a ?_
         refine z0e (z1y (fun z:Nat × List Int=>⟨129,[(1,I .i64 lim),(2,.ptr (0,2) 0),(7,.d (ints cl)),(9,I .i64 (c:Nat)),(10,.ref (0,49)),(11,.ref (0,1001)),(12,I .i64 (q:Nat)),(14,.ref (0,1002)),(53,.d (ints cl)),(54,I .i64 F.length),(55,I .i64 (q:Nat)),(75,.d (z95 es)),(76,I .i64 es.length),(77,I .i64 (z.1:Nat))],[(1002,.row 5 1 (z.2.map by8)),(49,mpB sigs),(1001,.row 3 1 ((nx++(-1)::List.replicate (F.length-q-1) 0).map icc)),(2,BX F A)],H⟩) (fun z=>z.1≤es.length∧z.2.length=4+12*z.1∧z.2++((es.drop z.1).flatMap fun x=>z6c x.1++z6c x.2.1++z6c x.2.2)=zvi cl k l) (fun z=>es.length-z.1) ?_ (0,z6c k) ⟨Nat.zero_le _,rfl,hsig.symm⟩) rfl rfl
         rintro⟨j,sg⟩ ⟨j1,j2,j3⟩ ihj
         simp only at j1 j2 j3 ihj ⊢
         by_cases hj:j<es.length
         · obtain⟨x,hx⟩:∃ x,es[j]? =some x:=⟨_,List.getElem?_eq_getElem hj⟩
           obtain⟨x1,x2,x3,x4,x5,x6⟩:=hbm x (List.mem_of_getElem? hx)
           have hn1:=zsr x.1 x1
           have hn2:=zsr x.2.1 x3
           have hn3:=zsr x.2.2 x5
           rw[drop_cons hx,List.flatMap_cons] at j3
           have ihj':=ihj (j+1,sg++z6c x.1++z6c x.2.1++z6c x.2.2) ⟨by simp only;omega,by simp only[List.length_append,z6c,List.length_cons,List.length_nil];omega,by rw[← j3];simp⟩ (by simp only;omega)
           repeat' (first|(apply z05;(first|refine z0o ?_| (apply z09;(refine z02 z27 rfl rfl ?_))|(apply z0f;(refine z02 (z1i (ys:=es.map z2l) rfl (idx hx)) rfl rfl ?_))|(apply z0p;(refine z02 (z0q z1c) rfl rfl ?_))|(apply z0c;(refine z23 ?_))|(apply z0h;(refine z0b z2i ?_))))|(apply z08;(first|refine z0n ?_|apply z07))|(apply z06;(first|apply z0a|apply z00|apply z04|apply z01|apply z2p|apply z03|refine z0g (fun _=>?_) (fun _=>?_)| refine z0j ?_))|(apply z2r;(first|(apply z15;refine z1o mix ?_)|refine z2s ?_| (apply z0r;(refine z0m z1d rfl rfl ?_))|(apply z0s;(refine z0m z0i rfl rfl ?_))|(apply z47;(first|refine zcu (g:=by8) (q:=sg) (r:=z6c x.1) (by first|exact rfl|exact⟨_,rfl,rfl,rfl⟩) rfl rfl rfl rfl rfl (fun _=>rfl) rfl rfl (by decide) (by simp[z6c];omega) ?_|refine zcu (g:=by8) (q:=sg++z6c x.1) (r:=z6c x.2.1) (by first|exact rfl|exact⟨_,rfl,rfl,rfl⟩) rfl rfl rfl rfl rfl (fun _=>rfl) rfl rfl (by decide) (by simp[z6c];omega) ?_|refine zcu (g:=by8) (q:=sg++z6c x.1++z6c x.2.1) (r:=z6c x.2.2) (by first|exact rfl|exact⟨_,rfl,rfl,rfl⟩) rfl rfl rfl rfl rfl (fun _=>rfl) rfl rfl (by decide) (by simp[z6c];omega) ?_))|(apply z3a;(first|refine z4o hn1 ?_| refine z4o hn2 ?_| refine z4o hn3 ?_))|(apply zws;(refine z0m (z69 rfl rfl z1c) rfl rfl ?_)))))
           all_goals try (exfalso;omega)
           all_goals refine z1s 95 1002 ?_
           all_goals exact z0e ihj' rfl rfl
         · obtain rfl:j=es.length:=by omega
           rw[List.drop_length,List.flatMap_nil,List.append_nil] at j3
           rw[← j3] at hone
           clear ihj
           have hBA:toB sg=strOfNums sg:=rfl
           rw[hBA] at hone
           have hmg:=z6v (strOfNums sg) sigs 0
           refine z1g 1002 rfl ?_
           have hget2:(nx++(-1)::List.replicate (F.length-q-1) 0)[((q:Nat):Int).toNat]? =some (-1):=by
            rw[Int.toNat_natCast,List.getElem?_append_right (by omega),hnl,Nat.sub_self];rfl
           have hset2:(nx++(-1)::List.replicate (F.length-q-1) 0).set ((q:Nat):Int).toNat (z3l (strOfNums sg) sigs:Nat)=nx++((z3l (strOfNums sg) sigs:Nat):Int)::List.replicate (F.length-q-1) 0:=by
            rw[Int.toNat_natCast,z9c hnl hlt]
           have ih':=ihq (q+1,z5q sigs (strOfNums sg),nx++[((z3l (strOfNums sg) sigs:Nat):Int)]) ⟨by simp only;omega,hone.symm⟩ (by simp only;omega)
           simp only at ih'
           rw[show nx++[((z3l (strOfNums sg) sigs:Nat):Int)]++List.replicate (F.length-(q+1)) 0=nx++((z3l (strOfNums sg) sigs:Nat):Int)::List.replicate (F.length-q-1) 0 by rw[show F.length-(q+1)=F.length-q-1 by omega];simp] at ih'
           clear ihq hone
           by_cases hknown:strOfNums sg∈sigs
           · rw[z5q,if_pos hknown] at ih'
             rw[if_pos hknown,Nat.zero_add] at hmg
             have hget1:(z4y (z38 0 sigs) (strOfNums sg)).getD (.lit (.int .i64 0))=z1m (z3l (strOfNums sg) sigs:Nat):=by rw[hmg];rfl
             have hgets:(z4y (z38 0 sigs) (strOfNums sg)).isSome=true:=by rw[hmg];rfl
             generalize z3l (strOfNums sg) sigs=qv at *
             repeat' (first|(apply z05;(first|refine z0b (z4d (et:=3) (a:=strOfNums sg) (q:=z38 0 sigs) (z0:=Value.int .i64 0) (py:=S (strOfNums sg)) zje (z2a (by kernel_rfl)) rfl rfl rfl zou rfl hget1 hgets) ?_|refine z0o ?_| (apply z0f;(refine z02 (z1v rfl (by omega) (by simp only[List.length_map,List.length_append,List.length_cons,List.length_replicate];omega) rfl) rfl rfl ?_))|(apply z0p;(refine z02 (z0q z1c) rfl rfl ?_))|(apply z0c;(refine z42 _ hget2 hset2 ?_))|refine z02 (zop (l:=sg) rfl rfl rfl) rfl rfl ?_))|(apply z08;(first|refine z0n ?_|apply z07))|(apply z06;(first|apply z0a|apply z00|refine z11 ?_| apply z04|apply z01|apply z03|refine z0g (fun _=>?_) (fun _=>?_)| refine z0j ?_)))
             all_goals try (exfalso;first|omega|(simp at *;done))
             all_goals exact z0e ih' rfl rfl
           · rw[z5q,if_neg hknown] at ih'
             rw[if_neg hknown] at hmg
             have hget1:(z4y (z38 0 sigs) (strOfNums sg)).getD (.lit (.int .i64 0))=z1m 0:=by rw[hmg];rfl
             have hgets:(z4y (z38 0 sigs) (strOfNums sg)).isSome=false:=by rw[hmg];rfl
             have hput:=z8b hknown
             rw[z3o hknown] at ih' hset2
             dsimp only[mpB] at ih'
             rw[← hput] at ih'
             repeat' (first|(apply z05;(first|refine z0b (z4d (et:=3) (a:=strOfNums sg) (q:=z38 0 sigs) (z0:=Value.int .i64 0) (py:=S (strOfNums sg)) zje (z2a (by kernel_rfl)) rfl rfl rfl zou rfl hget1 hgets) ?_|refine z0b (zfe (kt:=9) (et:=3) (ks:=sigs) (by kernel_rfl) rfl rfl (by decide)) ?_|refine z0o ?_| (apply z0f;(refine z02 (z1v rfl (by omega) (by simp only[List.length_map,List.length_append,List.length_cons,List.length_replicate];omega) rfl) rfl rfl ?_))|(apply z0p;(refine z02 (z0q z1c) rfl rfl ?_))|(apply z0c;(refine z42 _ hget2 hset2 ?_))|refine z02 (zop (l:=sg) rfl rfl rfl) rfl rfl ?_| refine z3y (et:=3) (a:=strOfNums sg) (v:=z1m (sigs.length:Nat)) (py:=S (strOfNums sg)) (q:=z38 0 sigs) (by kernel_rfl) zje rfl rfl zou rfl rfl rfl ?_))|(apply z08;(first|refine z0n ?_|apply z07))|(apply z06;(first|apply z0a|apply z00|refine z1h ?_| apply z04|apply z01|apply z03|refine z0g (fun _=>?_) (fun _=>?_)| refine z0j ?_)))
             all_goals try (exfalso;first|omega|(simp at *;done))
             all_goals exact z0e ih' rfl rfl
     · obtain rfl:q=F.length:=by omega
       rw[← hrnd] at q2
       rw[← q2] at hres hmore hW2
       simp only at hres hmore hW2
       clear ihq
       rw[Nat.sub_self,List.replicate_zero,List.append_nil]
       refine z1g 1001 rfl ?_
       by_cases hlim:lim.toNat<sigs.length
       · rw[if_pos hlim] at hres
         rw[← hres]
         repeat' (first|(apply z05;(first|refine z0b (zfe (kt:=9) (et:=3) (ks:=sigs) (by kernel_rfl) rfl rfl (by decide)) ?_|refine z0o ?_))|(apply z08;(first|refine z0n ?_|apply z07))|(apply z06;(first|apply z0a|apply z00|apply z04|apply z01|apply z03|refine z0g (fun _=>?_) (fun _=>?_)| refine z0j ?_)))
         all_goals try (exfalso;omega)
         refine zzr 4 rfl ?_
         exact z0l Tryz.func78 _ (z4n rfl rfl rfl) ⟨rfl,rfl⟩
       · rw[if_neg hlim] at hres
         by_cases hcc:sigs.length=c
         · rw[if_pos hcc] at hres
           rw[← hres]
           repeat' (first|(apply z05;(first|refine z0b (zfe (kt:=9) (et:=3) (ks:=sigs) (by kernel_rfl) rfl rfl (by decide)) ?_|refine z0o ?_))|(apply z08;(first|refine z0n ?_|apply z07))|(apply z06;(first|apply z0a|apply z00|apply z04|apply z01|apply z03|refine z0g (fun _=>?_) (fun _=>?_)| refine z0j ?_)))
           all_goals try (exfalso;omega)
           all_goals exact z0l Tryz.func78 _ (z4n rfl rfl rfl) ⟨rfl,rfl⟩
         · rw[if_neg hcc] at hres
           have ih':=ih (f,sigs.length,nx) ⟨hW2,hres,by simp only;omega⟩ (by simp only;omega)
           repeat' (first|(apply z05;(first|refine z0b (zfe (kt:=9) (et:=3) (ks:=sigs) (by kernel_rfl) rfl rfl (by decide)) ?_|refine z0o ?_))|(apply z08;(first|refine z0n ?_|apply z07))|(apply z06;(first|apply z0a|apply z00|apply z04|apply z01|apply z03|refine z0g (fun _=>?_) (fun _=>?_)| refine z0j ?_)))
           all_goals try (exfalso;omega)
           all_goals exact z0e ih' rfl rfl
end Go.Proofs.YthdfkabdoidjfaaGreatDoor
