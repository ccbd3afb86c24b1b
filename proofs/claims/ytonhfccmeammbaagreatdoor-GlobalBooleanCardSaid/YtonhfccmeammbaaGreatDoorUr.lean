/- A part of the proof: G16 to G30. -/
import Derived.Test.YtonhfccmeammbaaGreatDoorUt
import Derived.Test.YtonhfccmeammbaaGreatDoorUc
import Derived.Test.YtonhfccmeammbaaGreatDoorUx
set_option linter.all false
namespace Go.Proofs.YtonhfccmeammbaaGreatDoor
open Go.Ab Go.Rx
set_option maxHeartbeats 20000000
set_option maxRecDepth 100000
attribute [local irreducible] Run Ops Op1 z1x Val Tr z0m z1r NF Rel z83 z7w
abbrev Un:=Int × Int × Int
abbrev unc (u:Un):List D:=[zx2 u.1,z3c u.2.1,z3c u.2.2]
def unF:Nat→List U→List Un
 | _,[]=>[]
 | i,u::l=>(u.r,(i:Int),(u.n:Int))::unF (i+u.n) l
def zgn {σ:Type} (go:σ→Un→Bool) (stp:σ→Un→σ):σ→List Un→σ
 | x,[]=>x
 | x,u::l=>if go x u=true then zgn go stp (stp x u) l else stp x u
theorem zhh (s:ByteArray) (H:Hf) (h1:H 0 901=some .gone) (q1:z8l H (0,901)) :
 z9t Tryz.prog 145 [S s] H ⟨fun r H'=>r=.v (.fn (.func 167) [] [.ptr (0,901) 0])∧H'=upd H (0,901) (.box [S s]),fun x=>x=(0,901)∨x=(0,902),none⟩:=by
 refine z57 Tryz.func145 (by kernel_rfl) rfl (by simp) ?_
 dsimp only[Tryz.f145]
 repeat' (first|(apply z04;(first|refine z0l ?_| (apply z1c;(refine z0b z45 ?_))|refine z43 rfl rfl (by decide) ?_))|(apply z05;(first|refine z0k ?_|apply z09))|(apply z06;(first|apply z07|apply z00)))
 refine zsx 1 0 901 (q:=.box [S s]) rfl rfl h1 (.inl rfl) (by simp[z3r,Blk.says,PV.says,PV.saysL,PV.lift]) q1 ?_
 exact z0c Tryz.func145 _ (zvu (.fn (.func 167) [] [.ptr (0,901) 0]) rfl rfl) ⟨rfl,rfl⟩
structure zwm (s:ByteArray) (u:Un):Prop where
 r0:0≤u.1
 r1:u.1≤1114111
 a0:0≤u.2.1
 n1:1≤u.2.2
 e:u.2.1+u.2.2≤s.size
theorem zem {σ:Type} (s:ByteArray) (hs:s.size≤1000000) (ok:Int→σ→Prop) (go:σ→Un→Bool) (stp:σ→Un→σ) (W:σ→Hf) (hW:∀ x,W x 0 901=some (.box [S s]))
 (hok:∀ x u,zwm s u→ok u.2.1 x→go x u=true→ok (u.2.1+u.2.2) (stp x u))
 (hY:∀ (hp:Hp) (x:σ) (u:Un),z3r (1,5000) hp=true→ok u.2.1 x→zwm s u→zeg Tryz.prog (1,999) [.d (.agg (unc u))] (push hp (W x)) (fun r H'=>r=.v (B (go x u))∧H'=push hp (W (stp x u))) (fun y=>y=(1,5000)))
 (x0:σ) (h0:ok 0 x0):z9t Tryz.prog 167 [.yl (0,999),.ptr (0,901) 0] (W x0) ⟨fun r H'=>r=.v (.tup [])∧H'=W (zgn go stp x0 (unF 0 (rst s 0))),fun x=>x=(0,5000),none⟩:=by
 refine z57 Tryz.func167 (by kernel_rfl) rfl (by simp) ?_
 dsimp only[Tryz.f167]
 have hw0:=hW x0
 obtain⟨T,hT⟩:∃ T,zgn go stp x0 (unF 0 (rst s 0))=T:=⟨_,rfl⟩
 rw[hT]
 repeat' (first|(apply z04;(first|(apply z0a;(refine z02 (z18 (b:=.box [S s])) rfl (bkN hw0) ?_))|(apply z0f;(refine z2d ?_))|(apply z0i;(refine z0b z1e ?_))|(apply z1i;(refine z2x ?_))|refine zc6 rfl rfl rfl (by decide) ?_))|(apply z05;(first|refine z0k ?_|apply z09))|(apply z06;(first|apply z07|apply z00|apply z01)))
 all_goals try (exfalso;omega)
 refine z0t ?_
 refine z0e (z1v (fun q:Nat × Int × Int × σ=>⟨42,[(0,.yl (1,999)),(1,.ptr (1,901) 0),(3,.ptr (0,3) 0),(8,.ptr (0,8) 0)],[(3,.box [I .i32 q.2.1,I .i64 q.2.2.1,I .i64 0]),(8,.siter s q.1)],W q.2.2.2⟩)
  (fun q=>q.1≤s.size∧(0≤q.2.2.1→ok q.2.2.1 q.2.2.2)∧((q.1=0∧q.2.2.1=-1∧q.2.2.2=x0)∨(0≤q.2.2.1∧q.2.2.1<q.1∧0≤q.2.1∧q.2.1≤1114111∧zgn go stp q.2.2.2 ((q.2.1,q.2.2.1,(q.1:Int)-q.2.2.1)::unF q.1 (rst s q.1))=T))) (fun q=>s.size-q.1) ?_ (0,0,-1,x0) ⟨zAf _,fun h=>by simp at h,.inl ⟨rfl,rfl,rfl⟩⟩) rfl rfl
 rintro⟨q,r,a,x⟩ ⟨i1,i2,i3⟩ ih
 simp only at i1 i2 i3 ih ⊢
 have hwx:=hW x
 by_cases hlt:q<s.size
 · have hd:=zbn hlt
   have hw:=ze3 s q hlt
   have hdh:=zqf s q
   rcases i3 with ⟨rfl,rfl,rfl⟩|⟨a0,a1,r0,r1,hrun⟩
   · have ih':=ih (0+(Utf8.decode s 0).2,((Utf8.decode s 0).1:Nat),0,x) ⟨by simp only;omega,fun _=>h0,.inr ⟨by simp,by simp only;omega,by simp only;omega,by simp only;omega,by
      rw[hd] at hT
      simp only[unF] at hT
      simp only[Int.sub_zero]
      rw[← hT];simp⟩⟩ (by simp only;omega)
     repeat' (first|(apply z04;(first|refine z0l ?_| (apply z0a;(refine z02 z18 rfl rfl ?_))|(apply z0d;(refine z02 z1a rfl rfl ?_))|(apply z0z;(refine z02 (z2q z1p) rfl rfl ?_))|(apply z0f;(refine z2d ?_))|(apply z1i;(refine z2x ?_))|refine z3z hlt rfl rfl (by decide) ?_))|(apply z05;(first|refine z0k ?_|apply z09|refine z1m ?_))|(apply z06;(first|apply z07|apply z00|refine z1b rfl ?_|refine z1f ?_| apply z08|apply z01|apply z03)))
     all_goals exact zD30
   · have hu:zwm s (r,a,(q:Int)-a):=⟨r0,r1,a0,by simp only;omega,by simp only;omega⟩
     rw[zgn] at hrun
     cases hg:go x (r,a,(q:Int)-a) with
     | true =>
      rw[zAy hg] at hrun
      have hy:∀ hp:Hp,z3r (1,5000) hp=true→zeg Tryz.prog (1,999) [.d (.agg (unc (r,a,(q:Int)-a)))] (push hp (W x)) (fun r' H'=>r'=.v (B true)∧H'=push hp (W (stp x (r,a,(q:Int)-a)))) (fun y=>y=(1,5000)):=fun hp hqq=>by
       have:=hY hp x _ hqq (i2 a0) hu
       rwa [hg] at this
      have ih':=ih (q+(Utf8.decode s q).2,((Utf8.decode s q).1:Nat),(q:Nat),stp x (r,a,(q:Int)-a)) ⟨by simp only;omega,fun _=>by have:=hok _ _ hu (i2 a0) hg;simp only at this;rwa [show a+((q:Int)-a)=(q:Nat) by omega] at this,.inr ⟨by simp only;omega,by simp only;omega,by simp only;omega,by simp only;omega,by
       rw[hd] at hrun
       simp only[unF] at hrun
       rw[show ((q+(Utf8.decode s q).2:Nat):Int)-(q:Nat)=((Utf8.decode s q).2:Nat) by omega]
       exact hrun⟩⟩ (by simp only;omega)
      repeat' (first|(apply z04;(first|refine zeh (mv:=(0,5000)) (hy _ (by rfl)) rfl rfl rfl rfl (by decide) ?_|refine z0l ?_| (apply z0a;(first|refine z02 z18 rfl rfl ?_| refine z02 z2a rfl rfl ?_))|(apply z0d;(refine z02 z1a rfl rfl ?_))|(apply z0z;(refine z02 (z2q z1p) rfl rfl ?_))|(apply z0f;(refine z2d ?_))|(apply z1i;(refine z2x ?_))|refine z3z hlt rfl rfl (by decide) ?_))|(apply z05;(first|refine z0k ?_|apply z09|refine z1m ?_| refine z1t (fun _=>?_) (fun _=>?_)))|(apply z06;(first|apply z07|apply z00|refine z1b rfl ?_|refine z1f ?_| apply z08|apply z01|apply z03)))
      all_goals exact zD30
     | false =>
      rw[zAx (by rw[hg];decide)] at hrun
      have hy:∀ hp:Hp,z3r (1,5000) hp=true→zeg Tryz.prog (1,999) [.d (.agg (unc (r,a,(q:Int)-a)))] (push hp (W x)) (fun r' H'=>r'=.v (B false)∧H'=push hp (W (stp x (r,a,(q:Int)-a)))) (fun y=>y=(1,5000)):=fun hp hqq=>by
       have:=hY hp x _ hqq (i2 a0) hu
       rwa [hg] at this
      repeat' (first|(apply z04;(first|refine zeh (mv:=(0,5000)) (hy _ (by rfl)) rfl rfl rfl rfl (by decide) ?_|refine z0l ?_| (apply z0a;(first|refine z02 z18 rfl rfl ?_| refine z02 z2a rfl rfl ?_))|(apply z0d;(refine z02 z1a rfl rfl ?_))|(apply z0z;(refine z02 (z2q z1p) rfl rfl ?_))|(apply z0f;(refine z2d ?_))|(apply z1i;(refine z2x ?_))|refine z3z hlt rfl rfl (by decide) ?_))|(apply z05;(first|refine z0k ?_|apply z09|refine z1m ?_| refine z1t (fun _=>?_) (fun _=>?_)))|(apply z06;(first|apply z07|apply z00|refine z1b rfl ?_|refine z1f ?_| apply z08|apply z01|apply z03)))
      all_goals try (exfalso;omega)
      all_goals exact z0c Tryz.func167 _ (z5m rfl) ⟨rfl,congrArg W hrun⟩
 · obtain rfl:q=s.size:=by omega
   have hd:=z7j (s:=s) (i:=s.size) (zAj _)
   rcases i3 with ⟨h1,rfl,rfl⟩|⟨a0,a1,r0,r1,hrun⟩
   · rw[← h1,hd] at hT
     simp only[unF,zgn] at hT
     repeat' (first|(apply z04;(first|refine z0l ?_| (apply z0a;(first|refine z02 (z18 (b:=.box [S s])) rfl (bkN hwx) ?_| refine z02 z18 rfl rfl ?_))|(apply z0d;(refine z02 z1a rfl rfl ?_))|(apply z0z;(refine z02 (z2q z1p) rfl rfl ?_))|(apply z0x;(refine z02 (z5q rfl) rfl rfl ?_))|(apply z0f;(refine z2d ?_))|refine z3w hlt rfl rfl (by decide) ?_))|(apply z05;(first|refine z0k ?_|apply z09))|(apply z06;(first|apply z07|apply z00|refine z1f ?_| apply z08|refine z0o ?_)))
     all_goals try (exfalso;omega)
     all_goals exact zfm Tryz.func167 _ (z5m rfl) ⟨rfl,congrArg W hT⟩
   · have hu:zwm s (r,a,(s.size:Int)-a):=⟨r0,r1,a0,by simp only;omega,by simp only;omega⟩
     rw[hd] at hrun
     simp only[unF,zgn,ite_self] at hrun
     repeat' (first|(apply z04;(first|refine zeh (mv:=(0,5000)) (hY _ x (r,a,(s.size:Int)-a) (by rfl) (i2 a0) hu) rfl rfl rfl rfl (by decide) ?_|refine z0l ?_| (apply z0a;(first|refine z02 (z18 (b:=.box [S s])) rfl (bkN hwx) ?_| refine z02 z18 rfl rfl ?_| refine z02 z2a rfl rfl ?_))|(apply z0d;(refine z02 z1a rfl rfl ?_))|(apply z0z;(refine z02 (z2q z1p) rfl rfl ?_))|(apply z0x;(refine z02 (z5q rfl) rfl rfl ?_))|(apply z0f;(refine z2d ?_))|refine z3w hlt rfl rfl (by decide) ?_))|(apply z05;(first|refine z0k ?_|apply z09))|(apply z06;(first|apply z07|apply z00|refine z1f ?_| apply z08|refine z0h (fun _=>?_) (fun _=>?_)| refine z0o ?_)))
     all_goals try (exfalso;omega)
     all_goals exact zfm Tryz.func167 _ (z5m rfl) ⟨rfl,congrArg W hrun⟩
theorem zbi {hp:Hp} {up:Hf} (c:Nat) {q:Blk}:upd (push hp up) (0,c) q=push ((c,q)::hp) up:=by
 funext d s
 cases d with
 | zero =>
  simp only[upd,push,Ab.look,true_and]
  by_cases h1:s=c
  · rw[zAy h1,zAy h1.symm]
  · rw[zAx h1,zAx (Ne.symm h1)]
 | succ d=>simp[upd,push]
def atR (s:ByteArray) (i:Nat):PV:=match (unF 0 (rst s 0))[i]? with
 | some u=>.tup [I .i32 u.1,I .i64 u.2.1,I .i64 u.2.2,B true]
 | none=>.tup [I .i32 0,I .i64 0,I .i64 0,B false]
noncomputable def zl4:Code:=match Tryz.f119.body with|some (.seq _ (.seq (.seq _ (.block _ (.rangeFunc _ _ a _))) _))=>a|_=>.skip
noncomputable def zg5:Code:=match Tryz.f119.body with|some (.seq _ (.seq (.seq _ (.block _ (.rangeFunc _ _ _ b))) _))=>b|_=>.skip
def zkk:List (Nat × PV):=[(3,.ptr (0,3) 0),(4,.ptr (0,4) 0),(5,.ptr (0,5) 0),(6,.ptr (0,6) 0),(7,.ptr (0,7) 0)]
noncomputable def zj8 (state:LoopState) (j:Option Code):Blk:=.lp 22 119 #[11] zl4 zg5 zkk state j
inductive AtS where
 | run (i:Nat)
 | fin (u:Un)
noncomputable def atW (s:ByteArray) (H:Hf):AtS→Hf
 | .run i=>push [(999,zj8 .ready none),(7,.box [B false]),(6,.box [I .i64 0]),(5,.box [I .i64 0]),(4,.box [I .i32 0]),(3,.box [I .i64 (i:Nat)]),(901,.box [S s])] H
 | .fin u=>push [(999,zj8 .done (some .ret)),(7,.box [B true]),(6,.box [I .i64 u.2.2]),(5,.box [I .i64 u.2.1]),(4,.box [I .i32 u.1]),(3,.box [I .i64 0]),(901,.box [S s])] H
def zwy:AtS→Un→Bool
 | .run 0,_=>false
 | .run (_+1),_=>true
 | .fin _,_=>false
def zju:AtS→Un→AtS
 | .run 0,u=>.fin u
 | .run (i+1),_=>.run i
 | .fin v,_=>.fin v
def zyx:AtS→Prop
 | .run i=>i≤1000000
 | .fin _=>False
theorem zqp:∀ (l:List Un) (i:Nat),zgn zwy zju (.run i) l=match l[i]? with|some u=>.fin u|none=>.run (i-l.length)
 | [],i=>by simp[zgn]
 | u::l,0=>by rw[zgn,zAx (by simp[zwy])];rfl
 | u::l,i+1=>by
  rw[zgn,zAy (by rfl),show zju (.run (i+1)) u=.run i from rfl,zqp l i,List.getElem?_cons_succ,zAk,show i+1-(l.length+1)=i-l.length by omega]
theorem zni (s:ByteArray) (H:Hf) (hp:Hp) (x:AtS) (u:Un) (hx:zyx x):zeg Tryz.prog (1,999) [.d (.agg (unc u))] (push hp (atW s H x)) (fun r H'=>r=.v (B (zwy x u))∧H'=push hp (atW s H (zju x u))) (fun y=>y=(1,5000)):=by
 match x,hx with
 | .run 0,_ =>
  refine zv2 (n':=22) (f':=119) (t0:=11) (asg:=zl4) (body:=zg5) (st:=zkk) (pend:=none) (R2:=fun r H'=>r=.v (B false)∧H'=upd (upd (upd (upd (upd (push hp (atW s H (.run 0))) (1,999) (zj8 .busy none)) (1,4) (.box [I .i32 u.1])) (1,5) (.box [I .i64 u.2.1])) (1,6) (.box [I .i64 u.2.2])) (1,7) (.box [B true])) rfl (by decide) (by simp) ?_ ?_ ?_ ?_
  · rw[show z2y (1+1) zkk=[(3,.ptr (2,3) 0),(4,.ptr (2,4) 0),(5,.ptr (2,5) 0),(6,.ptr (2,6) 0),(7,.ptr (2,7) 0)] by simp[zkk,z2y,PV.lift]]
    dsimp only[zl4,zg5,Tryz.f119]
    have hb3:upd (push hp (atW s H (.run 0))) (1,999) (zj8 .busy none) 1 3=some (.box [I .i64 0]):=rfl
    repeat' (first|(apply z04;(first|(apply z0f;(refine z2d ?_))|(apply z0i;(refine z0b z1e ?_))))|(apply z05;(first|refine z0k ?_|apply z09))|(apply z06;(apply z00)))
    refine zbd rfl rfl ?_
    change Run _ _ _ _ ⟨_,_,_,upd (push hp (atW s H (.run 0))) (1,999) (zj8 .busy none)⟩
    have hb4:upd (push hp (atW s H (.run 0))) (1,999) (zj8 .busy none) 1 4=some (.box [I .i32 0]):=rfl
    have hb5:upd (push hp (atW s H (.run 0))) (1,999) (zj8 .busy none) 1 5=some (.box [I .i64 0]):=rfl
    have hb6:upd (push hp (atW s H (.run 0))) (1,999) (zj8 .busy none) 1 6=some (.box [I .i64 0]):=rfl
    have hb7:upd (push hp (atW s H (.run 0))) (1,999) (zj8 .busy none) 1 7=some (.box [B false]):=rfl
    generalize upd (push hp (atW s H (.run 0))) (1,999) (zj8 .busy none)=V at *
    repeat' (first|(apply z04;(first|refine z0l ?_| (apply z0a;(refine z02 (z18 (b:=.box [I .i64 0])) rfl (bkN hb3) ?_))))|(apply z05;(first|refine z0k ?_|apply z09))|(apply z06;(first|apply z07|apply z00|refine z1b rfl ?_|apply z01|apply z2z))|(apply z2v;(first|(apply z1l;refine z2n mix ?_)|(apply z0u;(refine z0w z18 rfl rfl ?_))|(apply z0q;(refine z0w z1a rfl rfl ?_))|(apply z2k;(first|refine zb7 (raw':=.box [B true]) (by first|exact rfl|exact⟨_,rfl,rfl,rfl⟩) rfl (z0s (z0s (z0s hb7 (by simp)) (by simp)) (by simp)) rfl rfl rfl rfl rfl rfl ?_|refine zb7 (raw':=.box [I .i64 u.2.2]) (by first|exact rfl|exact⟨_,rfl,rfl,rfl⟩) rfl (z0s (z0s hb6 (by simp)) (by simp)) rfl rfl rfl rfl rfl rfl ?_|refine zb7 (raw':=.box [I .i64 u.2.1]) (by first|exact rfl|exact⟨_,rfl,rfl,rfl⟩) rfl (z0s hb5 (by simp)) rfl rfl rfl rfl rfl rfl ?_|refine zb7 (raw':=.box [I .i32 u.1]) (by first|exact rfl|exact⟨_,rfl,rfl,rfl⟩) rfl hb4 rfl rfl rfl rfl rfl rfl ?_)))))
    all_goals try (exfalso;omega)
    all_goals exact zc3 rfl ⟨rfl,rfl⟩
  · rintro H' ⟨h,_⟩;cases h
  · rintro H' ⟨_,rfl⟩
    refine⟨zkk,none,z0s (z0s (z0s (z0s (z4n _ _ _) (by simp)) (by simp)) (by simp)) (by simp),rfl,?_⟩
    funext d t
    match d with
    | 0=>rfl
    | d+2=>rfl
    | 1 =>
     by_cases h1:t=999
     · subst h1;rfl
     by_cases h2:t=7
     · subst h2;rfl
     by_cases h3:t=6
     · subst h3;rfl
     by_cases h4:t=5
     · subst h4;rfl
     by_cases h5:t=4
     · subst h5;rfl
     have k1:=Ne.symm h1
     have k2:=Ne.symm h2
     have k3:=Ne.symm h3
     have k4:=Ne.symm h4
     have k5:=Ne.symm h5
     simp[upd,push,atW,zju,Ab.look,h1,h2,h3,h4,h5,k1,k2,k3,k4,k5]
  · rintro id H' ⟨h,_⟩;cases h
 | .run (i+1),h =>
  have hi:i+1≤1000000:=h
  refine zv2 (n':=22) (f':=119) (t0:=11) (asg:=zl4) (body:=zg5) (st:=zkk) (pend:=none) (R2:=fun r H'=>r=.v (B true)∧H'=upd (upd (push hp (atW s H (.run (i+1)))) (1,999) (zj8 .busy none)) (1,3) (.box [I .i64 (i:Nat)])) rfl (by decide) (by simp) ?_ ?_ ?_ ?_
  · rw[show z2y (1+1) zkk=[(3,.ptr (2,3) 0),(4,.ptr (2,4) 0),(5,.ptr (2,5) 0),(6,.ptr (2,6) 0),(7,.ptr (2,7) 0)] by simp[zkk,z2y,PV.lift]]
    dsimp only[zl4,zg5,Tryz.f119]
    repeat' (first|(apply z04;(first|(apply z0f;(refine z2d ?_))|(apply z0i;(refine z0b z1e ?_))))|(apply z05;(first|refine z0k ?_|apply z09))|(apply z06;(apply z00)))
    refine zbd rfl rfl ?_
    change Run _ _ _ _ ⟨_,_,_,upd (push hp (atW s H (.run (i+1)))) (1,999) (zj8 .busy none)⟩
    have hb3:upd (push hp (atW s H (.run (i+1)))) (1,999) (zj8 .busy none) 1 3=some (.box [I .i64 ((i+1:Nat):Int)]):=rfl
    generalize upd (push hp (atW s H (.run (i+1)))) (1,999) (zj8 .busy none)=V at *
    repeat' (first|(apply z04;(first|refine z0l ?_| (apply z0a;(refine z02 (z18 (b:=.box [I .i64 ((i+1:Nat):Int)])) rfl (bkN hb3) ?_))|(apply z0z;(refine z02 (z2q z1p) rfl rfl ?_))|(apply z0f;(refine z68 (raw':=.box [I .i64 (((i+1:Nat):Int)-1)]) rfl hb3 rfl rfl rfl rfl rfl rfl ?_))))|(apply z05;(first|refine z0k ?_|apply z09))|(apply z06;(first|apply z07|apply z00|refine z1f ?_| apply z08|apply z01|apply z03)))
    all_goals try (exfalso;omega)
    all_goals (rw[show ((i+1:Nat):Int)-1=(i:Nat) by omega];exact ze9 rfl ⟨rfl,rfl⟩)
  · rintro H' ⟨_,rfl⟩
    refine⟨zkk,none,z0s (z4n _ _ _) (by simp),rfl,?_⟩
    funext d t
    match d with
    | 0=>rfl
    | d+2=>rfl
    | 1 =>
     by_cases h1:t=999
     · subst h1;rfl
     by_cases h2:t=7
     · subst h2;rfl
     by_cases h3:t=6
     · subst h3;rfl
     by_cases h4:t=5
     · subst h4;rfl
     by_cases h5:t=4
     · subst h5;rfl
     by_cases h6:t=3
     · subst h6;rfl
     have k1:=Ne.symm h1
     have k2:=Ne.symm h2
     have k3:=Ne.symm h3
     have k4:=Ne.symm h4
     have k5:=Ne.symm h5
     have k6:=Ne.symm h6
     simp[upd,push,atW,zju,Ab.look,h1,h2,h3,h4,h5,h6,k1,k2,k3,k4,k5,k6]
  · rintro H' ⟨h,_⟩;cases h
  · rintro id H' ⟨h,_⟩;cases h
theorem zz6 (s:ByteArray) (hs:s.size≤1000000) (i:Nat) (hi:i≤1000000):z0m Tryz.prog 119 [S s,I .i64 (i:Nat)] (atR s i):=by
 refine z10 fun H=>?_
 refine z0g Tryz.func119 (by kernel_rfl) rfl (by simp) ?_
 dsimp only[Tryz.f119]
 refine zef 901 ?_
 have h37:∀ (hp:Hp),Ab.look hp 901=some Blk.gone→z3r (0,901) hp=true→z9t Tryz.prog 145 [S s] (push hp H) ⟨fun r H'=>r=.v (.fn (.func 167) [] [.ptr (0,901) 0])∧H'=push ((901,.box [S s])::hp) H,fun x=>x=(0,901)∨x=(0,902),none⟩:=by
  exact zD22
 repeat' (first|(apply z04;(first|refine zgr (h37 _ rfl rfl) rfl rfl rfl (by decide) ?_|refine z0l ?_| (apply z0i;(refine z0b z1e ?_))|(apply z1c;(refine z0b z45 ?_))))|(apply z05;(first|refine z0k ?_|apply z09))|(apply z06;(first|apply z07|apply z00|apply z01)))
 all_goals try (exfalso;omega)
 refine z0e (tm':=[(3,.ptr (0,3) 0),(4,.ptr (0,4) 0),(5,.ptr (0,5) 0),(6,.ptr (0,6) 0),(7,.ptr (0,7) 0),(10,.fn (.func 167) [] [.ptr (0,901) 0])]) (hp':=[(7,.box [B false]),(6,.box [I .i64 0]),(5,.box [I .i64 0]),(4,.box [I .i32 0]),(3,.box [I .i64 (i:Nat)]),(901,.box [S s])]) ?_ rfl rfl
 have hsp:=zem s hs (fun _=>zyx) zwy zju (atW s H) (fun x=>by cases x <;> rfl) (fun x u _ h1 h2=>by
  match x,h1,h2 with
  | .run (i+1),h1,_=>have h1:i+1≤1000000:=h1;show i≤1000000;omega) (fun hp x u _ h1 h2=>zni s H hp x u h1) (.run i) hi
 refine z8p 999 5000 zkk rfl rfl rfl rfl rfl hsp (fun m h=>h) ?_
 rintro r H2 ⟨_,rfl⟩
 rw[zqp,atR]
 cases (unF 0 (rst s 0))[i]? with
 | some u =>
  refine⟨.done,some .ret,zkk,_,H,rfl,by simp,?_⟩
  exact z0c Tryz.func119 _ (zfc rfl rfl rfl rfl rfl rfl rfl rfl rfl rfl rfl rfl rfl rfl rfl rfl rfl) ⟨rfl,rfl⟩
 | none =>
  refine⟨.ready,none,zkk,_,H,rfl,by simp,?_⟩
  refine z0e (tm':=[(3,.ptr (0,3) 0),(4,.ptr (0,4) 0),(5,.ptr (0,5) 0),(6,.ptr (0,6) 0),(7,.ptr (0,7) 0)]) (hp':=[(7,.box [B false]),(6,.box [I .i64 0]),(5,.box [I .i64 0]),(4,.box [I .i32 0])]) ?_ rfl rfl
  repeat' (first|(apply z04;((apply z0f;(refine z2d ?_))))|(apply z05;(first|refine z0k ?_|apply z09))|(apply z06;(first|apply z07|apply z00|apply z03)))
  all_goals try (exfalso;omega)
  all_goals exact z0c Tryz.func119 _ (zfc rfl rfl rfl rfl rfl rfl rfl rfl rfl rfl rfl rfl rfl rfl rfl rfl rfl) ⟨rfl,rfl⟩
def okU (u:Un):Bool:=!decide (u.1=65533)||decide (u.2.2=3)
theorem zoc (u:Un):z0m Tryz.prog 171 [.d (.agg (unc u))] (B (okU u)):=by
 refine z10 fun H=>?_
 refine z0g Tryz.func171 (by kernel_rfl) rfl (by simp) ?_
 dsimp only[Tryz.f171]
 rw[okU]
 by_cases h:u.1=65533
 · rw[zAi h,Bool.not_true,Bool.false_or]
   all_goals exact zD24
 · rw[zAn h,Bool.not_false,Bool.true_or]
   all_goals exact zD24
noncomputable def zlk:Code:=match Tryz.f151.body with|some (.seq _ (.seq (.seq _ (.block _ (.rangeFunc _ _ a _))) _))=>a|_=>.skip
noncomputable def zfn:Code:=match Tryz.f151.body with|some (.seq _ (.seq (.seq _ (.block _ (.rangeFunc _ _ _ b))) _))=>b|_=>.skip
def zkj:List (Nat × PV):=[(2,.ptr (0,2) 0)]
noncomputable def zo7 (state:LoopState) (j:Option Code):Blk:=.lp 10 151 #[6] zlk zfn zkj state j
noncomputable def vaW (s:ByteArray) (H:Hf):Bool→Hf
 | true=>push [(999,zo7 .ready none),(2,.box [B false]),(901,.box [S s])] H
 | false=>push [(999,zo7 .done (some .ret)),(2,.box [B false]),(901,.box [S s])] H
theorem zqe:∀ l:List Un,zgn (fun (_:Bool) u=>okU u) (fun _ u=>okU u) true l=l.all okU
 | []=>rfl
 | u::l=>by
  rw[zgn,List.all_cons]
  cases h:okU u with
  | true=>rw[zAy rfl,zqe l];rfl
  | false=>rw[zAx (by decide)];rfl
theorem znc (s:ByteArray) (H:Hf) (hp:Hp) (u:Un):zeg Tryz.prog (1,999) [.d (.agg (unc u))] (push hp (vaW s H true)) (fun r H'=>r=.v (B (okU u))∧H'=push hp (vaW s H (okU u))) (fun y=>y=(1,5000)):=by
 have huv:=zoc u
 cases ho:okU u with
 | false =>
  rw[ho] at huv
  refine zv2 (n':=10) (f':=151) (t0:=6) (asg:=zlk) (body:=zfn) (st:=zkj) (pend:=none) (R2:=fun r H'=>r=.v (B false)∧H'=upd (upd (push hp (vaW s H true)) (1,999) (zo7 .busy none)) (1,2) (.box [B false])) rfl (by decide) (by simp) ?_ ?_ ?_ ?_
  · rw[show z2y (1+1) zkj=[(2,.ptr (2,2) 0)] by simp[zkj,z2y,PV.lift]]
    dsimp only[zlk,zfn,Tryz.f151]
    repeat' (first|(apply z04;(first|(apply z0f;(refine z2d ?_))|(apply z0i;(refine z0b z1e ?_))))|(apply z05;(first|refine z0k ?_|apply z09))|(apply z06;(apply z00)))
    refine zbd rfl rfl ?_
    change Run _ _ _ _ ⟨_,_,_,upd (push hp (vaW s H true)) (1,999) (zo7 .busy none)⟩
    have hb2:upd (push hp (vaW s H true)) (1,999) (zo7 .busy none) 1 2=some (.box [B false]):=rfl
    generalize upd (push hp (vaW s H true)) (1,999) (zo7 .busy none)=V at *
    repeat' (first|(apply z04;(first|refine z0l ?_| (apply z0a;(refine z02 z2a rfl rfl ?_))|(apply z0j;(refine z2s huv ?_))|(apply z0f;(refine z68 (raw':=.box [B false]) rfl hb2 rfl rfl rfl rfl rfl rfl ?_))))|(apply z05;(first|refine z0k ?_|apply z09))|(apply z06;(first|apply z07|apply z00|refine z1b rfl ?_|apply z01)))
    all_goals try (exfalso;omega)
    all_goals exact zc3 rfl ⟨rfl,rfl⟩
  · rintro H' ⟨h,_⟩;cases h
  · rintro H' ⟨_,rfl⟩
    refine⟨zkj,none,z0s (z4n _ _ _) (by simp),rfl,?_⟩
    funext d t
    match d with
    | 0=>rfl
    | d+2=>rfl
    | 1 =>
     by_cases h1:t=999
     · subst h1;rfl
     by_cases h2:t=2
     · subst h2;rfl
     have k1:=Ne.symm h1
     have k2:=Ne.symm h2
     simp[upd,push,vaW,Ab.look,h1,h2,k1,k2]
  · rintro id H' ⟨h,_⟩;cases h
 | true =>
  rw[ho] at huv
  refine zv2 (n':=10) (f':=151) (t0:=6) (asg:=zlk) (body:=zfn) (st:=zkj) (pend:=none) (R2:=fun r H'=>r=.v (B true)∧H'=upd (push hp (vaW s H true)) (1,999) (zo7 .busy none)) rfl (by decide) (by simp) ?_ ?_ ?_ ?_
  · rw[show z2y (1+1) zkj=[(2,.ptr (2,2) 0)] by simp[zkj,z2y,PV.lift]]
    dsimp only[zlk,zfn,Tryz.f151]
    repeat' (first|(apply z04;(first|(apply z0f;(refine z2d ?_))|(apply z0i;(refine z0b z1e ?_))))|(apply z05;(first|refine z0k ?_|apply z09))|(apply z06;(apply z00)))
    refine zbd rfl rfl ?_
    change Run _ _ _ _ ⟨_,_,_,upd (push hp (vaW s H true)) (1,999) (zo7 .busy none)⟩
    generalize upd (push hp (vaW s H true)) (1,999) (zo7 .busy none)=V at *
    repeat' (first|(apply z04;(first|refine z0l ?_| (apply z0a;(refine z02 z2a rfl rfl ?_))|(apply z0j;(refine z2s huv ?_))))|(apply z05;(first|refine z0k ?_|apply z09))|(apply z06;(first|apply z07|apply z00|refine z1f ?_| apply z08|apply z01|apply z03)))
    all_goals try (exfalso;omega)
    all_goals exact ze9 rfl ⟨rfl,rfl⟩
  · rintro H' ⟨_,rfl⟩
    refine⟨zkj,none,z4n _ _ _,rfl,?_⟩
    funext d t
    match d with
    | 0=>rfl
    | d+2=>rfl
    | 1 =>
     by_cases h1:t=999
     · subst h1;rfl
     have k1:=Ne.symm h1
     simp[upd,push,vaW,Ab.look,h1,k1]
  · rintro H' ⟨h,_⟩;cases h
  · rintro id H' ⟨h,_⟩;cases h
theorem zrz (s:ByteArray) (hs:s.size≤1000000):z0m Tryz.prog 151 [S s] (B ((unF 0 (rst s 0)).all okU)):=by
 refine z10 fun H=>?_
 refine z0g Tryz.func151 (by kernel_rfl) rfl (by simp) ?_
 dsimp only[Tryz.f151]
 refine zef 901 ?_
 have h37:∀ (hp:Hp),Ab.look hp 901=some Blk.gone→z3r (0,901) hp=true→z9t Tryz.prog 145 [S s] (push hp H) ⟨fun r H'=>r=.v (.fn (.func 167) [] [.ptr (0,901) 0])∧H'=push ((901,.box [S s])::hp) H,fun x=>x=(0,901)∨x=(0,902),none⟩:=by
  exact zD22
 repeat' (first|(apply z04;(first|refine zgr (h37 _ rfl rfl) rfl rfl rfl (by decide) ?_|refine z0l ?_| (apply z0i;(refine z0b z1e ?_))))|(apply z05;(first|refine z0k ?_|apply z09))|(apply z06;(first|apply z07|apply z00|apply z01)))
 all_goals try (exfalso;omega)
 refine z0e (tm':=[(2,.ptr (0,2) 0),(5,.fn (.func 167) [] [.ptr (0,901) 0])]) (hp':=[(2,.box [B false]),(901,.box [S s])]) ?_ rfl rfl
 have hsp:=zem s hs (fun _ b=>b=true) (fun (_:Bool) u=>okU u) (fun _ u=>okU u) (vaW s H) (fun x=>by cases x <;> rfl) (fun x u _ h1 h2=>h2) (fun hp x u _ h1 h2=>by subst h1;exact znc s H hp u) true rfl
 refine z8p 999 5000 zkj rfl rfl rfl rfl rfl hsp (fun m h=>h) ?_
 rintro r H2 ⟨_,rfl⟩
 rw[zqe]
 cases (unF 0 (rst s 0)).all okU with
 | false =>
  refine⟨.done,some .ret,zkj,_,H,rfl,by simp,?_⟩
  exact z0c Tryz.func151 _ (zf8 rfl rfl rfl rfl rfl) ⟨rfl,rfl⟩
 | true =>
  refine⟨.ready,none,zkj,_,H,rfl,by simp,?_⟩
  refine z0e (tm':=[(2,.ptr (0,2) 0)]) (hp':=[(2,.box [B false])]) ?_ rfl rfl
  repeat' (first|(apply z04;((apply z0f;(refine z2d ?_))))|(apply z05;(first|refine z0k ?_|apply z09))|(apply z06;(first|apply z07|apply z00|apply z03)))
  all_goals try (exfalso;omega)
  all_goals exact z0c Tryz.func151 _ (zf8 rfl rfl rfl rfl rfl) ⟨rfl,rfl⟩
theorem ztj (r:Int) (h0:0≤r) (h1:r≤1114111):z0m Tryz.prog 173 [I .i32 r] (I .i32 (z95 r)):=by
 refine z10 fun H=>?_
 refine z0g Tryz.func173 (by kernel_rfl) rfl (by simp) ?_
 dsimp only[Tryz.f173]
 rw[z95]
 by_cases hc:zsp r
 · rw[zAy hc]
   rw[zsp] at hc
   all_goals exact zD6
 · rw[zAx hc]
   rw[zsp] at hc
   by_cases hd:1024≤r∧r≤1039
   · rw[zAy hd]
     all_goals exact zD6
   · rw[zAx hd]
     all_goals exact zD6
def inB (l:List Rg) (c:Int):Bool:=l.any fun r=>decide (r.1≤c)&&decide (c≤r.2)
theorem zjv (l:List Rg) (hl:l.length≤9223372036854775807) (c:Int):z0m Tryz.prog 154 [.d (rgs l),I .i32 c] (B (inB l c)):=by
 refine z10 fun H=>?_
 refine z0g Tryz.func154 (by kernel_rfl) rfl (by simp) ?_
 dsimp only[Tryz.f154]
 repeat' (first|(apply z04;(first|refine z0l ?_| (apply z0x;(refine z02 (z0y rfl) rfl rfl ?_))))|(apply z05;(first|refine z0k ?_|apply z09))|(apply z06;(first|apply z07|apply z00|apply z01)))
 all_goals try (exfalso;omega)
 refine z0t ?_
 refine z0e (z1v (fun q:Nat=>⟨24,[(1,I .i32 c),(7,.d (rgs l)),(8,I .i64 l.length),(9,I .i64 (q:Nat))],[],H⟩) (fun q=>q≤l.length∧inB (l.drop q) c=inB l c) (fun q=>l.length-q) ?_ 0 ⟨zAf _,rfl⟩) rfl rfl
 intro q ⟨i1,i2⟩ ih
 by_cases hlt:q<l.length
 · obtain⟨r,hr⟩:∃ r,l[q]? =some r:=⟨_,zA0 hlt⟩
   rw[drop_cons hr,inB,List.any_cons,← inB] at i2
   by_cases hc:r.1≤c∧c≤r.2
   · rw[zAi hc.1,zAi hc.2,Bool.true_and,Bool.true_or] at i2
     rw[← i2]
     repeat' (first|(apply z04;(first|refine z0l ?_| (apply z0a;(first|refine z02 z18 rfl rfl ?_| refine z02 z2j rfl rfl ?_))|(apply z0d;(refine z02 z1a rfl rfl ?_))|(apply z0n;(refine z02 (z1o (ys:=l.map rgc) rfl (idx hr)) rfl rfl ?_))|(apply z0z;(refine z02 (z14 z1p) rfl rfl ?_))|(apply z0f;(refine z2d ?_))|(apply z0i;(refine z0b z1e ?_))))|(apply z05;(first|refine z0k ?_|apply z09|refine z1m ?_| refine z1t (fun _=>?_) (fun _=>?_)))|(apply z06;(first|apply z07|apply z00|refine z1f ?_| apply z08|apply z01|apply z03|refine z0h (fun _=>?_) (fun _=>?_)| refine z0o ?_)))
     all_goals try (exfalso;omega)
     all_goals exact z0c Tryz.func154 _ z1j ⟨rfl,rfl⟩
   · have hf:(decide (r.1≤c)&&decide (c≤r.2))=false:=by
      rw[← Bool.decide_and];exact zAn hc
     rw[hf,Bool.false_or] at i2
     repeat' (first|(apply z04;(first|refine z0l ?_| (apply z0a;(first|refine z02 z18 rfl rfl ?_| refine z02 z2j rfl rfl ?_))|(apply z0d;(refine z02 z1a rfl rfl ?_))|(apply z0n;(refine z02 (z1o (ys:=l.map rgc) rfl (idx hr)) rfl rfl ?_))|(apply z0z;(refine z02 (z14 z1p) rfl rfl ?_))|(apply z0f;(refine z2d ?_))|(apply z0i;(refine z0b z1e ?_))))|(apply z05;(first|refine z0k ?_|apply z09|refine z1m ?_| refine z1t (fun _=>?_) (fun _=>?_)))|(apply z06;(first|apply z07|apply z00|refine z1f ?_| apply z08|apply z01|apply z03|refine z0h (fun _=>?_) (fun _=>?_)| refine z0o ?_)))
     all_goals try (exfalso;omega)
     all_goals exact z0e (ih (q+1) ⟨by omega,i2⟩ (by omega)) rfl rfl
 · obtain rfl:q=l.length:=by omega
   rw[zAr,inB,List.any_nil] at i2
   rw[← i2]
   repeat' (first|(apply z04;(refine z0l ?_))|(apply z05;(first|refine z0k ?_|apply z09))|(apply z06;(first|apply z07|apply z00|apply z08|apply z01|refine z0h (fun _=>?_) (fun _=>?_)| refine z0o ?_)))
   all_goals try (exfalso;omega)
   all_goals exact z0c Tryz.func154 _ z1j ⟨rfl,rfl⟩
attribute [local irreducible] zhx
noncomputable def ztx:Code:=match Tryz.f155.body with|some (.seq _ (.seq _ (.seq (.seq _ (.block _ (.rangeFunc _ _ a _))) _)))=>a|_=>.skip
noncomputable def zmn:Code:=match Tryz.f155.body with|some (.seq _ (.seq _ (.seq (.seq _ (.block _ (.rangeFunc _ _ _ b))) _)))=>b|_=>.skip
def zsb:List (Nat × PV):=[(1,.ptr (0,1) 0),(3,.ptr (0,3) 0)]
noncomputable def zsv (state:LoopState):Blk:=.lp 36 155 #[11] ztx zmn zsb state none
abbrev b8r (q:List Int):Blk:=.row 5 1 (q.map by8)
abbrev pcU (s:ByteArray) (u:Un):List Int:=btI (pcS s u.1 u.2.1 u.2.2)
noncomputable def zy1 (s:ByteArray) (q:List Int):Hp:=[(999,zsv .ready),(3,.box [.ref (0,5000)]),(5000,b8r q),(1,.box [S s]),(901,.box [S s])]
noncomputable def foW (s:ByteArray) (H:Hf) (q:List Int):Hf:=push (zy1 s q) H
theorem z8v {m:Nm} (k:Nat):∀ {hp:Hp} {t:Nat} {b:Blk},z3r m (hp.filter fun q=>!(q.1 == k))=true→Ab.look hp t=some b→t≠k→b.says m=false
 | [],t,b,_,h,_=>by simp[Ab.look] at h
 | (x,q)::r,t,b,hq,h,hn=>by
  simp only[Ab.look] at h
  by_cases hx:x=k
  · subst hx
    simp only[List.filter,beq_self_eq_true,Bool.not_true] at hq
    rw[zAx (Ne.symm hn)] at h
    exact z8v x hq h hn
  · have:(!(x == k))=true:=by simpa using hx
    simp only[List.filter,this,z3r,zA7,zA6] at hq
    split at h
    · simp at h;subst h;exact hq.1
    · exact z8v k hq.2 h hn
theorem zpj (s:ByteArray) (hs:s.size≤1000000) (H:Hf) (hp:Hp) (q:List Int) (u:Un) (hqt:z3r (1,5000) hp=true) (hok:(q.length:Int)≤4*u.2.1) (hu:zwm s u) :
 zeg Tryz.prog (1,999) [.d (.agg (unc u))] (push hp (foW s H q)) (fun r H'=>r=.v (B true)∧H'=push hp (foW s H (q++pcU s u))) (fun y=>y=(1,5000)):=by
 have hlow:=ztj u.1 hu.r0 hu.r1
 obtain⟨z0,z1,z2,z3,z4⟩:=hu
 refine zv2 (n':=36) (f':=155) (t0:=11) (asg:=ztx) (body:=zmn) (st:=zsb) (pend:=none) (R2:=fun r H'=>r=.v (B true)∧H'=upd (upd (push hp (foW s H q)) (1,999) (zsv .busy)) (1,5000) (b8r (q++pcU s u))) rfl (by decide) (by simp) ?_ ?_ ?_ ?_
 · rw[show z2y (1+1) zsb=[(1,.ptr (2,1) 0),(3,.ptr (2,3) 0)] by simp[zsb,z2y,PV.lift]]
   dsimp only[ztx,zmn,Tryz.f155]
   repeat' (first|(apply z04;(first|(apply z0f;(refine z2d ?_))|(apply z0i;(refine z0b z1e ?_))))|(apply z05;(first|refine z0k ?_|apply z09))|(apply z06;(apply z00)))
   refine zbd rfl rfl ?_
   change Run _ _ _ _ ⟨_,_,_,upd (push hp (foW s H q)) (1,999) (zsv .busy)⟩
   have hb1:upd (push hp (foW s H q)) (1,999) (zsv .busy) 1 1=some (.box [S s]):=rfl
   have hb3:upd (push hp (foW s H q)) (1,999) (zsv .busy) 1 3=some (.box [.ref (0,5000)]):=rfl
   have hb5:upd (push hp (foW s H q)) (1,999) (zsv .busy) 1 5000=some (b8r q):=rfl
   obtain⟨U,hU⟩:∃ U,upd (push hp (foW s H q)) (1,999) (zsv .busy)=U:=⟨_,rfl⟩
   rw[hU] at hb1 hb3 hb5 ⊢
   refine z0e (tm':=[(4,.ptr (0,4) 0),(1,.ptr (2,1) 0),(3,.ptr (2,3) 0)]) (hp':=[(4,.box ((unc u).map .d))]) ?_ rfl rfl
   refine z4g 700 1 3 hb3 rfl rfl ?_
   refine z4c 701 1 5000 (z0s hb5 (by simp)) rfl rfl ?_
   refine z4e 100701 rfl ?_
   refine z0e (tm':=[(4,.ptr (0,4) 0),(1,.ptr (2,1) 0),(3,.ptr (0,700) 0),(100700,.al (0,700) (2,3))]) (hp':=[(4,.box ((unc u).map .d)),(700,.box [.ref (0,701)]),(701,b8r q)]) ?_ rfl rfl
   obtain⟨V,hV⟩:∃ V,upd (upd U (1,3) .gone) (1,5000) .gone=V:=⟨_,rfl⟩
   have v1:V 1 1=some (.box [S s]):=by rw[← hV];exact z0s (z0s hb1 (by simp)) (by simp)
   have v3:V 1 3=some .gone:=by rw[← hV];exact z0s (z4n _ (1,3) _) (by simp)
   have v5:V 1 5000=some .gone:=by rw[← hV];exact z4n _ (1,5000) _
   rw[hV]
   have hqV:z8l V (1,5000):=by
    intro x y b hx hb
    rw[← hV,← hU] at hb
    simp only[upd] at hb
    split at hb
    · simp at hb;subst hb;rfl
    rename_i n1
    split at hb
    · simp at hb;subst hb;rfl
    rename_i n2
    split at hb
    · simp at hb;subst hb;rename_i n3;obtain⟨rfl,rfl⟩:=n3;rfl
    · match x,hx with
      | 0,_=>exact z4d hqt hb
      | 1,_ =>
       have hb':Ab.look (zy1 s q) y=some b:=hb
       refine z8v 3 (m:=(0,5000)) ?_ hb' (by omega)
       rfl
   have hps:=zia s u.1 u.2.1 u.2.2 z2 z3 z4
   have hbl:=zet (pcS s u.1 u.2.1 u.2.2)
   by_cases hl:z95 u.1=u.1
   · have hpc:pcS s u.1 u.2.1 u.2.2=s.extract u.2.1.toNat (u.2.1+u.2.2).toNat:=by rw[pcS,zAy hl]
     rw[pcU,hpc]
     rw[hpc] at hps hbl
     repeat' (first | (apply z04; (first | refine z0l ?_| (apply z0a; (refine z02 z18 rfl rfl ?_)) | (apply z0d; (refine z02 z1a rfl rfl ?_)) | (apply z0x; ((refine zhz rfl rfl rfl rfl rfl rfl (by kernel_rfl) rfl (by decide) (by omega) ?_) /- z9o -/)) | (apply z0j; (refine z2s hlow ?_)) | (apply z0f; (refine z2d ?_)))) | (apply z05; (first | refine z0k ?_ | apply z09)) | (apply z06; (first | apply z07 | apply z00 | apply z01 | apply z2z | apply z03 | refine z3o rfl (fun _ => ?_) (fun _ => ?_))) | (apply z2v; (first | (apply z0u; (first | refine z0w (z18 (b := .box [S s])) rfl (bkN v1) ?_| refine z0w z18 rfl rfl ?_)) | (apply z0q; (refine z0w z1a rfl rfl ?_)) | (apply z3y; (refine z0w (z14 z1p) rfl rfl ?_)) | (apply z6e; (refine z0w (zee rfl (by omega) (by omega) (by omega)) rfl rfl ?_)) | (apply z3n; ((refine zqx mix (by kernel_rfl) ?_) /- z9k -/)))))
     all_goals try (exfalso;omega)
     refine z0e (tm':=[(100700,.al (0,700) (2,3))]) (hp':=[(700,.box [.ref (0,33)]),(33,b8r (q++btI _))]) ?_ rfl rfl
     refine zly 33 1 5000 rfl v5 rfl rfl hqV ?_
     exact zD53
   · have hpc:pcS s u.1 u.2.1 u.2.2=Utf8.encode (z95 u.1):=by rw[pcS,zAx hl]
     rw[pcU,hpc]
     rw[hpc] at hps hbl
     repeat' (first | (apply z04; (first | refine z0l ?_| (apply z0a; (refine z02 z18 rfl rfl ?_)) | (apply z0d; (refine z02 z1a rfl rfl ?_)) | (apply z0x; ((refine zhz rfl rfl rfl rfl rfl rfl (by kernel_rfl) rfl (by decide) (by omega) ?_) /- z9o -/)) | (apply z0j; (refine z2s hlow ?_)) | (apply z0f; (refine z2d ?_)) | (apply zc9; (refine z02 (z9q rfl rfl) rfl rfl ?_)))) | (apply z05; (first | refine z0k ?_ | apply z09)) | (apply z06; (first | apply z07 | apply z00 | apply z01 | apply z2z | apply z03 | refine z3o rfl (fun _ => ?_) (fun _ => ?_))) | (apply z2v; ((apply z0u; (refine z0w z18 rfl rfl ?_)))))
     all_goals try (exfalso;omega)
     refine z0e (tm':=[(100700,.al (0,700) (2,3))]) (hp':=[(700,.box [.ref (0,22)]),(22,b8r (q++btI _))]) ?_ rfl rfl
     refine zly 22 1 5000 rfl v5 rfl rfl hqV ?_
     exact zD53
 · rintro H' ⟨_,rfl⟩
   refine⟨zsb,none,z0s (z4n _ _ _) (by simp),rfl,?_⟩
   rw[zb5 (by simp),z2t]
   funext d t
   match d with
   | 0=>rfl
   | d+2=>rfl
   | 1 =>
    by_cases h1:t=5000
    · subst h1;rfl
    by_cases h2:t=999
    · subst h2;rfl
    by_cases h3:t=3
    · subst h3;rfl
    have k1:=Ne.symm h1
    have k2:=Ne.symm h2
    have k3:=Ne.symm h3
    simp[upd,push,foW,zy1,Ab.look,h1,h2,h3,k1,k2,k3]
 · rintro H' ⟨h,_⟩;cases h
 · rintro id H' ⟨h,_⟩;cases h
def zgh (s:ByteArray):List Int→List Un→List Int
 | q,[]=>q
 | q,u::l=>zgh s (q++pcU s u) l
theorem zq1 (s:ByteArray):∀ (l:List Un) (q:List Int),zgn (fun (_:List Int) _=>true) (fun q u=>q++pcU s u) q l=zgh s q l
 | [],q=>rfl
 | u::l,q=>by rw[zgn,zAy rfl,zq1 s l];rfl
theorem ztw (s:ByteArray):btI s=(btN s).map fun x:Nat=>(x:Int):=by rw[btI,btN,List.map_map];rfl
theorem zwk (s:ByteArray):∀ (f i:Nat) (q:List Int),s.size-i≤f→zgh s q (unF i (rst s i))=q++(fd ((btN s).drop i)).map fun x:Nat=>(x:Int)
 | 0,i,q,h=>by
  rw[z7j (by omega),List.drop_eq_nil_of_le (by rw[z5y];omega)]
  simp[unF,zgh,fd,fdL]
 | f+1,i,q,h=>by
  by_cases hi:i<s.size
  · have hw:=ze3 s i hi
    have hne:(btN s).drop i≠[]:=fun e=>by
     have:=congrArg List.length e
     rw[List.length_drop,z5y] at this;simp at this;omega
    rw[zbn hi,unF,zgh,zwk s f _ _ (by simp only;omega),zhr hne,List.map_append,← zsl s i hi,← zej s i hi,List.drop_drop,zAl]
    congr 1
    congr 1
    rw[pcU,ztw]
  · rw[z7j (s:=s) (i:=i) (by omega),List.drop_eq_nil_of_le (by rw[z5y];omega)]
    simp[unF,zgh,fd,fdL]
theorem zvo (s:ByteArray):strOfNums (zgh s [] (unF 0 (rst s 0)))=zai s:=by
 rw[zwk s s.size 0 [] (by omega),List.nil_append,List.drop_zero,zai,zua,strOfNums,List.map_map]
 rfl
theorem zqo (s:ByteArray) (hs:s.size≤1000000):z0m Tryz.prog 155 [S s] (S (zai s)):=by
 refine z10 fun H=>?_
 refine z0g Tryz.func155 (by kernel_rfl) rfl (by simp) ?_
 dsimp only[Tryz.f155]
 refine zef 901 ?_
 have h37:∀ (hp:Hp),Ab.look hp 901=some Blk.gone→z3r (0,901) hp=true→z9t Tryz.prog 145 [S s] (push hp H) ⟨fun r H'=>r=.v (.fn (.func 167) [] [.ptr (0,901) 0])∧H'=push ((901,.box [S s])::hp) H,fun x=>x=(0,901)∨x=(0,902),none⟩:=by
  exact zD22
 repeat' (first|(apply z04;(first|refine zgr (h37 _ rfl rfl) rfl rfl rfl (by decide) ?_|refine z0l ?_| (apply z0a;(refine z02 z18 rfl rfl ?_))|(apply z0x;(refine z02 (z5q rfl) rfl rfl ?_))|(apply z0f;(refine z2d ?_))|(apply z0i;(refine z0b z1e ?_))|(apply z1c;(refine z0b z45 ?_))|refine zsu rfl rfl (by omega) (by omega) (by omega) (by decide) rfl rfl (by decide) rfl ?_))|(apply z05;(first|refine z0k ?_|apply z09))|(apply z06;(first|apply z07|apply z00|apply z01)))
 all_goals try (exfalso;omega)
 refine z4x 8 5000 rfl rfl ?_
 refine z0e (tm':=[(1,.ptr (0,1) 0),(3,.ptr (0,3) 0),(10,.fn (.func 167) [] [.ptr (0,901) 0])]) (hp':=[(3,.box [.ref (0,5000)]),(5000,b8r []),(1,.box [S s]),(901,.box [S s])]) ?_ rfl rfl
 have hsp:=zem s hs (fun i q=>(q.length:Int)≤4*i) (fun _ _=>true) (fun q u=>q++pcU s u) (foW s H) (fun x=>rfl) (fun x u hu h1 _=>by
  have h2:=zia s u.1 u.2.1 u.2.2 hu.a0 hu.n1 hu.e
  have h3:=zet (pcS s u.1 u.2.1 u.2.2)
  rw[zAa,pcU];omega) (fun hp x u hq h1 h2=>zpj s hs H hp x u hq h1 h2) [] (by simp)
 refine z8p 999 5000 zsb rfl rfl rfl rfl rfl hsp (fun m h=>h) ?_
 rintro r H2 ⟨_,rfl⟩
 rw[zq1]
 have hstr:=zvo s
 generalize zgh s [] (unF 0 (rst s 0))=Q at *
 refine⟨.ready,none,zsb,_,H,rfl,by simp,?_⟩
 refine z0e (tm':=[(1,.ptr (0,1) 0),(3,.ptr (0,3) 0)]) (hp':=[(3,.box [.ref (0,5000)]),(5000,b8r Q)]) ?_ rfl rfl
 refine z19 5000 rfl ?_
 repeat' (first|(apply z04;(first|refine z0l ?_| (apply z0a;(refine z02 z18 rfl rfl ?_))|refine z02 (zr9 rfl rfl rfl) rfl rfl ?_))|(apply z05;(first|refine z0k ?_|apply z09))|(apply z06;(first|apply z07|apply z00|apply z03)))
 all_goals try (exfalso;omega)
 all_goals exact z0c Tryz.func155 _ z1j ⟨congrArg (fun b=>RV.v (S b)) hstr,rfl⟩
end Go.Proofs.YtonhfccmeammbaaGreatDoor
