/- A part of the proof: G16, G17, G19, G21. -/
import Derived.Test.YthdfkabdoidjfaaGreatDoorQt
import Derived.Test.YthdfkabdoidjfaaGreatDoorQc
import Derived.Test.YthdfkabdoidjfaaGreatDoorQx
set_option linter.all false
set_option linter.unusedVariables false
set_option linter.unusedSimpArgs false
namespace Go.Proofs.YthdfkabdoidjfaaGreatDoor
open Go.Ab Go.Rx
set_option maxHeartbeats 20000000
set_option maxRecDepth 100000
attribute [local irreducible] Run Ops Op1 z2b Val Tr z0v z2c NF Rel z3w z3x
abbrev Un:=Int × Int × Int
abbrev unc (u:Un):List D:=[z3e u.1,z1m u.2.1,z1m u.2.2]
def unF:Nat→List U→List Un
 | _,[]=>[]
 | i,u::l=>(u.r,(i:Int),(u.n:Int))::unF (i+u.n) l
def zm7 {σ:Type} (go:σ→Un→Bool) (stp:σ→Un→σ):σ→List Un→σ
 | x,[]=>x
 | x,u::l=>if go x u=true then zm7 go stp (stp x u) l else stp x u
theorem zpc (s:ByteArray) (H:Hf) (h1:H 0 901=some .gone) (q1:zck H (0,901)) :
 za9 Tryz.prog 72 [S s] H ⟨fun r H'=>r=.v (.fn (.func 111) [] [.ptr (0,901) 0])∧H'=upd H (0,901) (.box [S s]),fun x=>x=(0,901)∨x=(0,902),none⟩:=by
 refine z6j Tryz.func72 (by kernel_rfl) rfl (by simp) ?_
 dsimp only[Tryz.f72]
 repeat' (first|(apply z05;(first|refine z0o ?_| (apply z1q;(refine z0b z25 ?_))|refine za1 rfl rfl (by decide) ?_))|(apply z08;(first|refine z0n ?_|apply z07))|(apply z06;(first|apply z0a|apply z00)))
 refine zyh 1 0 901 (q:=.box [S s]) rfl rfl h1 (.inl rfl) (by simp[z4m,Blk.says,PV.says,PV.saysL,PV.lift]) q1 ?_
 exact z0l Tryz.func72 _ (zvf (.fn (.func 111) [] [.ptr (0,901) 0]) rfl rfl) ⟨rfl,rfl⟩
structure y1l (s:ByteArray) (u:Un):Prop where
 r0:0≤u.1
 r1:u.1≤1114111
 a0:0≤u.2.1
 n1:1≤u.2.2
 e:u.2.1+u.2.2≤s.size
theorem zl4 {σ:Type} (s:ByteArray) (hs:s.size≤1000000) (ok:Int→σ→Prop) (go:σ→Un→Bool) (stp:σ→Un→σ) (W:σ→Hf) (hW:∀ x,W x 0 901=some (.box [S s]))
 (hok:∀ x u,y1l s u→ok u.2.1 x→go x u=true→ok (u.2.1+u.2.2) (stp x u))
 (hY:∀ (hp:Hp) (x:σ) (u:Un),z4m (1,5000) hp=true→ok u.2.1 x→y1l s u→zgc Tryz.prog (1,999) [.d (.agg (unc u))] (push hp (W x)) (fun r H'=>r=.v (B (go x u))∧H'=push hp (W (stp x u))) (fun y=>y=(1,5000)))
 (x0:σ) (h0:ok 0 x0):za9 Tryz.prog 111 [.yl (0,999),.ptr (0,901) 0] (W x0) ⟨fun r H'=>r=.v (.tup [])∧H'=W (zm7 go stp x0 (unF 0 (rst s 0))),fun x=>x=(0,5000),none⟩:=by
 refine z6j Tryz.func111 (by kernel_rfl) rfl (by simp) ?_
 dsimp only[Tryz.f111]
 have hw0:=hW x0
 obtain⟨T,hT⟩:∃ T,zm7 go stp x0 (unF 0 (rst s 0))=T:=⟨_,rfl⟩
 rw[hT]
 repeat' (first|(apply z05;(first|(apply z09;(refine z02 (z1d (b:=.box [S s])) rfl (bkN hw0) ?_))|(apply z0c;(refine z23 ?_))|(apply z0h;(refine z0b z2i ?_))|(apply z0z;(refine z3s ?_))|refine zi2 rfl rfl rfl (by decide) ?_))|(apply z08;(first|refine z0n ?_|apply z07))|(apply z06;(first|apply z0a|apply z00|apply z01)))
 all_goals try (exfalso;omega)
 refine z1a ?_
 refine z0e (z1y (fun q:Nat × Int × Int × σ=>⟨42,[(0,.yl (1,999)),(1,.ptr (1,901) 0),(3,.ptr (0,3) 0),(8,.ptr (0,8) 0)],[(3,.box [I .i32 q.2.1,I .i64 q.2.2.1,I .i64 0]),(8,.siter s q.1)],W q.2.2.2⟩)
  (fun q=>q.1≤s.size∧(0≤q.2.2.1→ok q.2.2.1 q.2.2.2)∧((q.1=0∧q.2.2.1=-1∧q.2.2.2=x0)∨(0≤q.2.2.1∧q.2.2.1<q.1∧0≤q.2.1∧q.2.1≤1114111∧zm7 go stp q.2.2.2 ((q.2.1,q.2.2.1,(q.1:Int)-q.2.2.1)::unF q.1 (rst s q.1))=T))) (fun q=>s.size-q.1) ?_ (0,0,-1,x0) ⟨Nat.zero_le _,fun h=>by simp at h,.inl ⟨rfl,rfl,rfl⟩⟩) rfl rfl
 rintro⟨q,r,a,x⟩ ⟨i1,i2,i3⟩ ih
 simp only at i1 i2 i3 ih ⊢
 have hwx:=hW x
 by_cases hlt:q<s.size
 · have hd:=zjl hlt
   have hw:=zm3 s q hlt
   have hdh:=zv4 s q
   rcases i3 with ⟨rfl,rfl,rfl⟩|⟨a0,a1,r0,r1,hrun⟩
   · have ih':=ih (0+(Utf8.decode s 0).2,((Utf8.decode s 0).1:Nat),0,x) ⟨by simp only;omega,fun _=>h0,.inr ⟨by simp,by simp only;omega,by simp only;omega,by simp only;omega,by
      rw[hd] at hT
      simp only[unF] at hT
      simp only[Int.sub_zero]
      rw[← hT];simp⟩⟩ (by simp only;omega)
     repeat' (first|(apply z05;(first|refine z0o ?_| (apply z09;(refine z02 z1d rfl rfl ?_))|(apply z0d;(refine z02 z0i rfl rfl ?_))|(apply z0p;(refine z02 (z22 z1c) rfl rfl ?_))|(apply z0c;(refine z23 ?_))|(apply z0z;(refine z3s ?_))|refine z4q hlt rfl rfl (by decide) ?_))|(apply z08;(first|refine z0n ?_|apply z07|refine z1r ?_))|(apply z06;(first|apply z0a|apply z00|refine z1h ?_| refine z11 ?_| apply z04|apply z01|apply z03)))
     all_goals try (exfalso;omega)
     all_goals exact z0e ih' rfl rfl
   · have hu:y1l s (r,a,(q:Int)-a):=⟨r0,r1,a0,by simp only;omega,by simp only;omega⟩
     rw[zm7] at hrun
     cases hg:go x (r,a,(q:Int)-a) with
     | true =>
      rw[if_pos hg] at hrun
      have hy:∀ hp:Hp,z4m (1,5000) hp=true→zgc Tryz.prog (1,999) [.d (.agg (unc (r,a,(q:Int)-a)))] (push hp (W x)) (fun r' H'=>r'=.v (B true)∧H'=push hp (W (stp x (r,a,(q:Int)-a)))) (fun y=>y=(1,5000)):=fun hp hqq=>by
       have:=hY hp x _ hqq (i2 a0) hu
       rwa [hg] at this
      have ih':=ih (q+(Utf8.decode s q).2,((Utf8.decode s q).1:Nat),(q:Nat),stp x (r,a,(q:Int)-a)) ⟨by simp only;omega,fun _=>by have:=hok _ _ hu (i2 a0) hg;simp only at this;rwa [show a+((q:Int)-a)=(q:Nat) by omega] at this,.inr ⟨by simp only;omega,by simp only;omega,by simp only;omega,by simp only;omega,by
       rw[hd] at hrun
       simp only[unF] at hrun
       rw[show ((q+(Utf8.decode s q).2:Nat):Int)-(q:Nat)=((Utf8.decode s q).2:Nat) by omega]
       exact hrun⟩⟩ (by simp only;omega)
      repeat' (first|(apply z05;(first|refine zes (mv:=(0,5000)) (hy _ (by rfl)) rfl rfl rfl rfl (by decide) ?_|refine z0o ?_| (apply z09;(first|refine z02 z1d rfl rfl ?_| refine z02 z1z rfl rfl ?_))|(apply z0d;(refine z02 z0i rfl rfl ?_))|(apply z0p;(refine z02 (z22 z1c) rfl rfl ?_))|(apply z0c;(refine z23 ?_))|(apply z0z;(refine z3s ?_))|refine z4q hlt rfl rfl (by decide) ?_))|(apply z08;(first|refine z0n ?_|apply z07|refine z1r ?_| refine z2h (fun _=>?_) (fun _=>?_)))|(apply z06;(first|apply z0a|apply z00|refine z1h ?_| refine z11 ?_| apply z04|apply z01|apply z03)))
      all_goals try (exfalso;omega)
      all_goals exact z0e ih' rfl rfl
     | false =>
      rw[if_neg (by rw[hg];decide)] at hrun
      have hy:∀ hp:Hp,z4m (1,5000) hp=true→zgc Tryz.prog (1,999) [.d (.agg (unc (r,a,(q:Int)-a)))] (push hp (W x)) (fun r' H'=>r'=.v (B false)∧H'=push hp (W (stp x (r,a,(q:Int)-a)))) (fun y=>y=(1,5000)):=fun hp hqq=>by
       have:=hY hp x _ hqq (i2 a0) hu
       rwa [hg] at this
      repeat' (first|(apply z05;(first|refine zes (mv:=(0,5000)) (hy _ (by rfl)) rfl rfl rfl rfl (by decide) ?_|refine z0o ?_| (apply z09;(first|refine z02 z1d rfl rfl ?_| refine z02 z1z rfl rfl ?_))|(apply z0d;(refine z02 z0i rfl rfl ?_))|(apply z0p;(refine z02 (z22 z1c) rfl rfl ?_))|(apply z0c;(refine z23 ?_))|(apply z0z;(refine z3s ?_))|refine z4q hlt rfl rfl (by decide) ?_))|(apply z08;(first|refine z0n ?_|apply z07|refine z1r ?_| refine z2h (fun _=>?_) (fun _=>?_)))|(apply z06;(first|apply z0a|apply z00|refine z1h ?_| refine z11 ?_| apply z04|apply z01|apply z03)))
      all_goals try (exfalso;omega)
      all_goals exact z0l Tryz.func111 _ (z5t rfl) ⟨rfl,congrArg W hrun⟩
 · obtain rfl:q=s.size:=by omega
   have hd:=zg4 (s:=s) (i:=s.size) (Nat.le_refl _)
   rcases i3 with ⟨h1,rfl,rfl⟩|⟨a0,a1,r0,r1,hrun⟩
   · rw[← h1,hd] at hT
     simp only[unF,zm7] at hT
     repeat' (first|(apply z05;(first|refine z0o ?_| (apply z09;(first|refine z02 (z1d (b:=.box [S s])) rfl (bkN hwx) ?_| refine z02 z1d rfl rfl ?_))|(apply z0d;(refine z02 z0i rfl rfl ?_))|(apply z0p;(refine z02 (z22 z1c) rfl rfl ?_))|(apply z0t;(refine z02 (zb2 rfl) rfl rfl ?_))|(apply z0c;(refine z23 ?_))|refine z6w hlt rfl rfl (by decide) ?_))|(apply z08;(first|refine z0n ?_|apply z07))|(apply z06;(first|apply z0a|apply z00|refine z11 ?_| apply z04|refine z0j ?_)))
     all_goals try (exfalso;omega)
     all_goals exact zmw Tryz.func111 _ (z5t rfl) ⟨rfl,congrArg W hT⟩
   · have hu:y1l s (r,a,(s.size:Int)-a):=⟨r0,r1,a0,by simp only;omega,by simp only;omega⟩
     rw[hd] at hrun
     simp only[unF,zm7,ite_self] at hrun
     repeat' (first|(apply z05;(first|refine zes (mv:=(0,5000)) (hY _ x (r,a,(s.size:Int)-a) (by rfl) (i2 a0) hu) rfl rfl rfl rfl (by decide) ?_|refine z0o ?_| (apply z09;(first|refine z02 (z1d (b:=.box [S s])) rfl (bkN hwx) ?_| refine z02 z1d rfl rfl ?_| refine z02 z1z rfl rfl ?_))|(apply z0d;(refine z02 z0i rfl rfl ?_))|(apply z0p;(refine z02 (z22 z1c) rfl rfl ?_))|(apply z0t;(refine z02 (zb2 rfl) rfl rfl ?_))|(apply z0c;(refine z23 ?_))|refine z6w hlt rfl rfl (by decide) ?_))|(apply z08;(first|refine z0n ?_|apply z07))|(apply z06;(first|apply z0a|apply z00|refine z11 ?_| apply z04|refine z0g (fun _=>?_) (fun _=>?_)| refine z0j ?_)))
     all_goals try (exfalso;omega)
     all_goals exact zmw Tryz.func111 _ (z5t rfl) ⟨rfl,congrArg W hrun⟩
end Go.Proofs.YthdfkabdoidjfaaGreatDoor
namespace Go.Proofs.YthdfkabdoidjfaaGreatDoor
open Go.Ab Go.Rx
set_option maxHeartbeats 20000000
set_option maxRecDepth 100000
attribute [local irreducible] Run Ops Op1 z2b Val Tr z0v z2c NF Rel z3w z3x
theorem zg0 {hp:Hp} {up:Hf} (c:Nat) {q:Blk}:upd (push hp up) (0,c) q=push ((c,q)::hp) up:=by
 funext d s
 cases d with
 | zero =>
  simp only[upd,push,Ab.look,true_and]
  by_cases h1:s=c
  · rw[if_pos h1,if_pos h1.symm]
  · rw[if_neg h1,if_neg (Ne.symm h1)]
 | succ d=>simp[upd,push]
def atR (s:ByteArray) (i:Nat):PV:=match (unF 0 (rst s 0))[i]? with
 | some u=>.tup [I .i32 u.1,I .i64 u.2.1,I .i64 u.2.2,B true]
 | none=>.tup [I .i32 0,I .i64 0,I .i64 0,B false]
noncomputable def zpb:Code:=match Tryz.f69.body with|some (.seq _ (.seq (.seq _ (.block _ (.rangeFunc _ _ a _))) _))=>a|_=>.skip
noncomputable def zgl:Code:=match Tryz.f69.body with|some (.seq _ (.seq (.seq _ (.block _ (.rangeFunc _ _ _ b))) _))=>b|_=>.skip
def zn6:List (Nat × PV):=[(3,.ptr (0,3) 0),(4,.ptr (0,4) 0),(5,.ptr (0,5) 0),(6,.ptr (0,6) 0),(7,.ptr (0,7) 0)]
noncomputable def zlw (state:LoopState) (j:Option Code):Blk:=.lp 22 69 #[11] zpb zgl zn6 state j
inductive AtS where
 | run (i:Nat)
 | fin (u:Un)
noncomputable def atW (s:ByteArray) (H:Hf):AtS→Hf
 | .run i=>push [(999,zlw .ready none),(7,.box [B false]),(6,.box [I .i64 0]),(5,.box [I .i64 0]),(4,.box [I .i32 0]),(3,.box [I .i64 (i:Nat)]),(901,.box [S s])] H
 | .fin u=>push [(999,zlw .done (some .ret)),(7,.box [B true]),(6,.box [I .i64 u.2.2]),(5,.box [I .i64 u.2.1]),(4,.box [I .i32 u.1]),(3,.box [I .i64 0]),(901,.box [S s])] H
def y1o:AtS→Un→Bool
 | .run 0,_=>false
 | .run (_+1),_=>true
 | .fin _,_=>false
def zmk:AtS→Un→AtS
 | .run 0,u=>.fin u
 | .run (i+1),_=>.run i
 | .fin v,_=>.fin v
def y3m:AtS→Prop
 | .run i=>i≤1000000
 | .fin _=>False
theorem zv3:∀ (l:List Un) (i:Nat),zm7 y1o zmk (.run i) l=match l[i]? with|some u=>.fin u|none=>.run (i-l.length)
 | [],i=>by simp[zm7]
 | u::l,0=>by rw[zm7,if_neg (by simp[y1o])];rfl
 | u::l,i+1=>by
  rw[zm7,if_pos (by rfl),show zmk (.run (i+1)) u=.run i from rfl,zv3 l i,List.getElem?_cons_succ,List.length_cons,show i+1-(l.length+1)=i-l.length by omega]
theorem ztj (s:ByteArray) (H:Hf) (hp:Hp) (x:AtS) (u:Un) (hx:y3m x):zgc Tryz.prog (1,999) [.d (.agg (unc u))] (push hp (atW s H x)) (fun r H'=>r=.v (B (y1o x u))∧H'=push hp (atW s H (zmk x u))) (fun y=>y=(1,5000)):=by
 match x,hx with
 | .run 0,_ =>
  refine y1m (n':=22) (f':=69) (t0:=11) (asg:=zpb) (body:=zgl) (st:=zn6) (pend:=none) (R2:=fun r H'=>r=.v (B false)∧H'=upd (upd (upd (upd (upd (push hp (atW s H (.run 0))) (1,999) (zlw .busy none)) (1,4) (.box [I .i32 u.1])) (1,5) (.box [I .i64 u.2.1])) (1,6) (.box [I .i64 u.2.2])) (1,7) (.box [B true])) rfl (by decide) (by simp) ?_ ?_ ?_ ?_
  · rw[show z34 (1+1) zn6=[(3,.ptr (2,3) 0),(4,.ptr (2,4) 0),(5,.ptr (2,5) 0),(6,.ptr (2,6) 0),(7,.ptr (2,7) 0)] by simp[zn6,z34,PV.lift]]
    dsimp only[zpb,zgl,Tryz.f69]
    have hb3:upd (push hp (atW s H (.run 0))) (1,999) (zlw .busy none) 1 3=some (.box [I .i64 0]):=rfl
    repeat' (first|(apply z05;(first|(apply z0c;(refine z23 ?_))|(apply z0h;(refine z0b z2i ?_))))|(apply z08;(first|refine z0n ?_|apply z07))|(apply z06;(apply z00)))
    refine zfg rfl rfl ?_
    change Run _ _ _ _ ⟨_,_,_,upd (push hp (atW s H (.run 0))) (1,999) (zlw .busy none)⟩
    have hb4:upd (push hp (atW s H (.run 0))) (1,999) (zlw .busy none) 1 4=some (.box [I .i32 0]):=rfl
    have hb5:upd (push hp (atW s H (.run 0))) (1,999) (zlw .busy none) 1 5=some (.box [I .i64 0]):=rfl
    have hb6:upd (push hp (atW s H (.run 0))) (1,999) (zlw .busy none) 1 6=some (.box [I .i64 0]):=rfl
    have hb7:upd (push hp (atW s H (.run 0))) (1,999) (zlw .busy none) 1 7=some (.box [B false]):=rfl
    generalize upd (push hp (atW s H (.run 0))) (1,999) (zlw .busy none)=V at *
    repeat' (first|(apply z05;(first|refine z0o ?_| (apply z09;(refine z02 (z1d (b:=.box [I .i64 0])) rfl (bkN hb3) ?_))))|(apply z08;(first|refine z0n ?_|apply z07))|(apply z06;(first|apply z0a|apply z00|refine z1h ?_| apply z01|apply z2p))|(apply z2r;(first|(apply z15;refine z1o mix ?_)|(apply z0r;(refine z0m z1d rfl rfl ?_))|(apply z0s;(refine z0m z0i rfl rfl ?_))|(apply z36;(first|refine zbj (raw':=.box [B true]) (by first|exact rfl|exact⟨_,rfl,rfl,rfl⟩) rfl (z1l (z1l (z1l hb7 (by simp)) (by simp)) (by simp)) rfl rfl rfl rfl rfl rfl ?_|refine zbj (raw':=.box [I .i64 u.2.2]) (by first|exact rfl|exact⟨_,rfl,rfl,rfl⟩) rfl (z1l (z1l hb6 (by simp)) (by simp)) rfl rfl rfl rfl rfl rfl ?_|refine zbj (raw':=.box [I .i64 u.2.1]) (by first|exact rfl|exact⟨_,rfl,rfl,rfl⟩) rfl (z1l hb5 (by simp)) rfl rfl rfl rfl rfl rfl ?_|refine zbj (raw':=.box [I .i32 u.1]) (by first|exact rfl|exact⟨_,rfl,rfl,rfl⟩) rfl hb4 rfl rfl rfl rfl rfl rfl ?_)))))
    all_goals try (exfalso;omega)
    all_goals exact zd1 rfl ⟨rfl,rfl⟩
  · rintro H' ⟨h,_⟩;cases h
  · rintro H' ⟨_,rfl⟩
    refine⟨zn6,none,z1l (z1l (z1l (z1l (z3q _ _ _) (by simp)) (by simp)) (by simp)) (by simp),rfl,?_⟩
    funext d t
    match d with
    | 0=>rfl
    | d+2=>rfl
    | 1 =>
     by_cases h1:t=999
     · subst h1;rfl
     by_cases h2:t=7
     · subst h2;rfl
     by_cases h3:t=6
     · subst h3;rfl
     by_cases h4:t=5
     · subst h4;rfl
     by_cases h5:t=4
     · subst h5;rfl
     have k1:=Ne.symm h1
     have k2:=Ne.symm h2
     have k3:=Ne.symm h3
     have k4:=Ne.symm h4
     have k5:=Ne.symm h5
     simp[upd,push,atW,zmk,Ab.look,h1,h2,h3,h4,h5,k1,k2,k3,k4,k5]
  · rintro id H' ⟨h,_⟩;cases h
 | .run (i+1),h =>
  have hi:i+1≤1000000:=h
  refine y1m (n':=22) (f':=69) (t0:=11) (asg:=zpb) (body:=zgl) (st:=zn6) (pend:=none) (R2:=fun r H'=>r=.v (B true)∧H'=upd (upd (push hp (atW s H (.run (i+1)))) (1,999) (zlw .busy none)) (1,3) (.box [I .i64 (i:Nat)])) rfl (by decide) (by simp) ?_ ?_ ?_ ?_
  · rw[show z34 (1+1) zn6=[(3,.ptr (2,3) 0),(4,.ptr (2,4) 0),(5,.ptr (2,5) 0),(6,.ptr (2,6) 0),(7,.ptr (2,7) 0)] by simp[zn6,z34,PV.lift]]
    dsimp only[zpb,zgl,Tryz.f69]
    repeat' (first|(apply z05;(first|(apply z0c;(refine z23 ?_))|(apply z0h;(refine z0b z2i ?_))))|(apply z08;(first|refine z0n ?_|apply z07))|(apply z06;(apply z00)))
    refine zfg rfl rfl ?_
    change Run _ _ _ _ ⟨_,_,_,upd (push hp (atW s H (.run (i+1)))) (1,999) (zlw .busy none)⟩
    have hb3:upd (push hp (atW s H (.run (i+1)))) (1,999) (zlw .busy none) 1 3=some (.box [I .i64 ((i+1:Nat):Int)]):=rfl
    generalize upd (push hp (atW s H (.run (i+1)))) (1,999) (zlw .busy none)=V at *
    repeat' (first|(apply z05;(first|refine z0o ?_| (apply z09;(refine z02 (z1d (b:=.box [I .i64 ((i+1:Nat):Int)])) rfl (bkN hb3) ?_))|(apply z0p;(refine z02 (z22 z1c) rfl rfl ?_))|(apply z0c;(refine z4l (raw':=.box [I .i64 (((i+1:Nat):Int)-1)]) rfl hb3 rfl rfl rfl rfl rfl rfl ?_))))|(apply z08;(first|refine z0n ?_|apply z07))|(apply z06;(first|apply z0a|apply z00|refine z11 ?_| apply z04|apply z01|apply z03)))
    all_goals try (exfalso;omega)
    all_goals (rw[show ((i+1:Nat):Int)-1=(i:Nat) by omega];exact znm rfl ⟨rfl,rfl⟩)
  · rintro H' ⟨_,rfl⟩
    refine⟨zn6,none,z1l (z3q _ _ _) (by simp),rfl,?_⟩
    funext d t
    match d with
    | 0=>rfl
    | d+2=>rfl
    | 1 =>
     by_cases h1:t=999
     · subst h1;rfl
     by_cases h2:t=7
     · subst h2;rfl
     by_cases h3:t=6
     · subst h3;rfl
     by_cases h4:t=5
     · subst h4;rfl
     by_cases h5:t=4
     · subst h5;rfl
     by_cases h6:t=3
     · subst h6;rfl
     have k1:=Ne.symm h1
     have k2:=Ne.symm h2
     have k3:=Ne.symm h3
     have k4:=Ne.symm h4
     have k5:=Ne.symm h5
     have k6:=Ne.symm h6
     simp[upd,push,atW,zmk,Ab.look,h1,h2,h3,h4,h5,h6,k1,k2,k3,k4,k5,k6]
  · rintro H' ⟨h,_⟩;cases h
  · rintro id H' ⟨h,_⟩;cases h
theorem y46 (s:ByteArray) (hs:s.size≤1000000) (i:Nat) (hi:i≤1000000):z0v Tryz.prog 69 [S s,I .i64 (i:Nat)] (atR s i):=by
 refine z1e fun H=>?_
 refine z0k Tryz.func69 (by kernel_rfl) rfl (by simp) ?_
 dsimp only[Tryz.f69]
 refine zlk 901 ?_
 have h37:∀ (hp:Hp),Ab.look hp 901=some Blk.gone→z4m (0,901) hp=true→za9 Tryz.prog 72 [S s] (push hp H) ⟨fun r H'=>r=.v (.fn (.func 111) [] [.ptr (0,901) 0])∧H'=push ((901,.box [S s])::hp) H,fun x=>x=(0,901)∨x=(0,902),none⟩:=by
  intro hp h1 q1
  have qq:∀ x,z4m (0,x) hp=true→zck (push hp H) (0,x):=fun x q e t b he hb=>by
   obtain rfl:e=0:=by simp at he;omega
   exact z5i q hb
  have:=zpc s (push hp H) h1 (qq 901 q1)
  rw[zg0] at this
  exact this
 repeat' (first|(apply z05;(first|refine zoe (h37 _ rfl rfl) rfl rfl rfl (by decide) ?_|refine z0o ?_| (apply z0h;(refine z0b z2i ?_))|(apply z1q;(refine z0b z25 ?_))))|(apply z08;(first|refine z0n ?_|apply z07))|(apply z06;(first|apply z0a|apply z00|apply z01)))
 all_goals try (exfalso;omega)
 refine z0e (tm':=[(3,.ptr (0,3) 0),(4,.ptr (0,4) 0),(5,.ptr (0,5) 0),(6,.ptr (0,6) 0),(7,.ptr (0,7) 0),(10,.fn (.func 111) [] [.ptr (0,901) 0])]) (hp':=[(7,.box [B false]),(6,.box [I .i64 0]),(5,.box [I .i64 0]),(4,.box [I .i32 0]),(3,.box [I .i64 (i:Nat)]),(901,.box [S s])]) ?_ rfl rfl
 have hsp:=zl4 s hs (fun _=>y3m) y1o zmk (atW s H) (fun x=>by cases x <;> rfl) (fun x u _ h1 h2=>by
  match x,h1,h2 with
  | .run (i+1),h1,_=>have h1:i+1≤1000000:=h1;show i≤1000000;omega) (fun hp x u _ h1 h2=>ztj s H hp x u h1) (.run i) hi
 refine zdf 999 5000 zn6 rfl rfl rfl rfl rfl hsp (fun m h=>h) ?_
 rintro r H2 ⟨_,rfl⟩
 rw[zv3,atR]
 cases (unF 0 (rst s 0))[i]? with
 | some u =>
  refine⟨.done,some .ret,zn6,_,H,rfl,by simp,?_⟩
  exact z0l Tryz.func69 _ (zhm rfl rfl rfl rfl rfl rfl rfl rfl rfl rfl rfl rfl rfl rfl rfl rfl rfl) ⟨rfl,rfl⟩
 | none =>
  refine⟨.ready,none,zn6,_,H,rfl,by simp,?_⟩
  refine z0e (tm':=[(3,.ptr (0,3) 0),(4,.ptr (0,4) 0),(5,.ptr (0,5) 0),(6,.ptr (0,6) 0),(7,.ptr (0,7) 0)]) (hp':=[(7,.box [B false]),(6,.box [I .i64 0]),(5,.box [I .i64 0]),(4,.box [I .i32 0])]) ?_ rfl rfl
  repeat' (first|(apply z05;((apply z0c;(refine z23 ?_))))|(apply z08;(first|refine z0n ?_|apply z07))|(apply z06;(first|apply z0a|apply z00|apply z03)))
  all_goals try (exfalso;omega)
  all_goals exact z0l Tryz.func69 _ (zhm rfl rfl rfl rfl rfl rfl rfl rfl rfl rfl rfl rfl rfl rfl rfl rfl rfl) ⟨rfl,rfl⟩
end Go.Proofs.YthdfkabdoidjfaaGreatDoor
namespace Go.Proofs.YthdfkabdoidjfaaGreatDoor
open Go.Ab Go.Rx
set_option maxHeartbeats 20000000
set_option maxRecDepth 100000
attribute [local irreducible] Run Ops Op1 z2b Val Tr z0v z2c NF Rel z3w z3x
def okU (u:Un):Bool:=!decide (u.1=65533)||decide (u.2.2=3)
theorem zrr (u:Un):z0v Tryz.prog 73 [.d (.agg (unc u))] (B (okU u)):=by
 refine z1e fun H=>?_
 refine z0k Tryz.func73 (by kernel_rfl) rfl (by simp) ?_
 dsimp only[Tryz.f73]
 rw[okU]
 by_cases h:u.1=65533
 · rw[decide_eq_true h,Bool.not_true,Bool.false_or]
   repeat' (first|(apply z05;(first|refine z0o ?_| (apply z09;(refine z02 z1d rfl rfl ?_))|(apply z0d;(refine z02 z0i rfl rfl ?_))|(apply z1q;(refine z0b (z5o rfl rfl (by decide)) ?_))))|(apply z08;(first|refine z0n ?_|apply z07|refine z1r ?_| refine z8t rfl rfl (fun _=>?_) (fun _=>?_)))|(apply z06;(first|apply z0a|apply z00)))
   all_goals try (exfalso;omega)
   all_goals exact z0l Tryz.func73 _ z16 ⟨rfl,rfl⟩
 · rw[decide_eq_false h,Bool.not_false,Bool.true_or]
   repeat' (first|(apply z05;(first|refine z0o ?_| (apply z09;(refine z02 z1d rfl rfl ?_))|(apply z0d;(refine z02 z0i rfl rfl ?_))|(apply z1q;(refine z0b (z5o rfl rfl (by decide)) ?_))))|(apply z08;(first|refine z0n ?_|apply z07|refine z1r ?_| refine z8t rfl rfl (fun _=>?_) (fun _=>?_)))|(apply z06;(first|apply z0a|apply z00)))
   all_goals try (exfalso;omega)
   all_goals exact z0l Tryz.func73 _ z16 ⟨rfl,rfl⟩
noncomputable def zpq:Code:=match Tryz.f40.body with|some (.seq _ (.seq (.seq _ (.block _ (.rangeFunc _ _ a _))) _))=>a|_=>.skip
noncomputable def zfs:Code:=match Tryz.f40.body with|some (.seq _ (.seq (.seq _ (.block _ (.rangeFunc _ _ _ b))) _))=>b|_=>.skip
def zn3:List (Nat × PV):=[(2,.ptr (0,2) 0)]
noncomputable def ztz (state:LoopState) (j:Option Code):Blk:=.lp 10 40 #[6] zpq zfs zn3 state j
noncomputable def vaW (s:ByteArray) (H:Hf):Bool→Hf
 | true=>push [(999,ztz .ready none),(2,.box [B false]),(901,.box [S s])] H
 | false=>push [(999,ztz .done (some .ret)),(2,.box [B false]),(901,.box [S s])] H
theorem zuo:∀ l:List Un,zm7 (fun (_:Bool) u=>okU u) (fun _ u=>okU u) true l=l.all okU
 | []=>rfl
 | u::l=>by
  rw[zm7,List.all_cons]
  cases h:okU u with
  | true=>rw[if_pos rfl,zuo l];rfl
  | false=>rw[if_neg (by decide)];rfl
theorem zrj (s:ByteArray) (H:Hf) (hp:Hp) (u:Un):zgc Tryz.prog (1,999) [.d (.agg (unc u))] (push hp (vaW s H true)) (fun r H'=>r=.v (B (okU u))∧H'=push hp (vaW s H (okU u))) (fun y=>y=(1,5000)):=by
 have huv:=zrr u
 cases ho:okU u with
 | false =>
  rw[ho] at huv
  refine y1m (n':=10) (f':=40) (t0:=6) (asg:=zpq) (body:=zfs) (st:=zn3) (pend:=none) (R2:=fun r H'=>r=.v (B false)∧H'=upd (upd (push hp (vaW s H true)) (1,999) (ztz .busy none)) (1,2) (.box [B false])) rfl (by decide) (by simp) ?_ ?_ ?_ ?_
  · rw[show z34 (1+1) zn3=[(2,.ptr (2,2) 0)] by simp[zn3,z34,PV.lift]]
    dsimp only[zpq,zfs,Tryz.f40]
    repeat' (first|(apply z05;(first|(apply z0c;(refine z23 ?_))|(apply z0h;(refine z0b z2i ?_))))|(apply z08;(first|refine z0n ?_|apply z07))|(apply z06;(apply z00)))
    refine zfg rfl rfl ?_
    change Run _ _ _ _ ⟨_,_,_,upd (push hp (vaW s H true)) (1,999) (ztz .busy none)⟩
    have hb2:upd (push hp (vaW s H true)) (1,999) (ztz .busy none) 1 2=some (.box [B false]):=rfl
    generalize upd (push hp (vaW s H true)) (1,999) (ztz .busy none)=V at *
    repeat' (first|(apply z05;(first|refine z0o ?_| (apply z09;(refine z02 z1z rfl rfl ?_))|(apply z0u;(refine z1j huv ?_))|(apply z0c;(refine z4l (raw':=.box [B false]) rfl hb2 rfl rfl rfl rfl rfl rfl ?_))))|(apply z08;(first|refine z0n ?_|apply z07))|(apply z06;(first|apply z0a|apply z00|refine z1h ?_| apply z01)))
    all_goals try (exfalso;omega)
    all_goals exact zd1 rfl ⟨rfl,rfl⟩
  · rintro H' ⟨h,_⟩;cases h
  · rintro H' ⟨_,rfl⟩
    refine⟨zn3,none,z1l (z3q _ _ _) (by simp),rfl,?_⟩
    funext d t
    match d with
    | 0=>rfl
    | d+2=>rfl
    | 1 =>
     by_cases h1:t=999
     · subst h1;rfl
     by_cases h2:t=2
     · subst h2;rfl
     have k1:=Ne.symm h1
     have k2:=Ne.symm h2
     simp[upd,push,vaW,Ab.look,h1,h2,k1,k2]
  · rintro id H' ⟨h,_⟩;cases h
 | true =>
  rw[ho] at huv
  refine y1m (n':=10) (f':=40) (t0:=6) (asg:=zpq) (body:=zfs) (st:=zn3) (pend:=none) (R2:=fun r H'=>r=.v (B true)∧H'=upd (push hp (vaW s H true)) (1,999) (ztz .busy none)) rfl (by decide) (by simp) ?_ ?_ ?_ ?_
  · rw[show z34 (1+1) zn3=[(2,.ptr (2,2) 0)] by simp[zn3,z34,PV.lift]]
    dsimp only[zpq,zfs,Tryz.f40]
    repeat' (first|(apply z05;(first|(apply z0c;(refine z23 ?_))|(apply z0h;(refine z0b z2i ?_))))|(apply z08;(first|refine z0n ?_|apply z07))|(apply z06;(apply z00)))
    refine zfg rfl rfl ?_
    change Run _ _ _ _ ⟨_,_,_,upd (push hp (vaW s H true)) (1,999) (ztz .busy none)⟩
    generalize upd (push hp (vaW s H true)) (1,999) (ztz .busy none)=V at *
    repeat' (first|(apply z05;(first|refine z0o ?_| (apply z09;(refine z02 z1z rfl rfl ?_))|(apply z0u;(refine z1j huv ?_))))|(apply z08;(first|refine z0n ?_|apply z07))|(apply z06;(first|apply z0a|apply z00|refine z11 ?_| apply z04|apply z01|apply z03)))
    all_goals try (exfalso;omega)
    all_goals exact znm rfl ⟨rfl,rfl⟩
  · rintro H' ⟨_,rfl⟩
    refine⟨zn3,none,z3q _ _ _,rfl,?_⟩
    funext d t
    match d with
    | 0=>rfl
    | d+2=>rfl
    | 1 =>
     by_cases h1:t=999
     · subst h1;rfl
     have k1:=Ne.symm h1
     simp[upd,push,vaW,Ab.look,h1,k1]
  · rintro H' ⟨h,_⟩;cases h
  · rintro id H' ⟨h,_⟩;cases h
theorem zy9 (s:ByteArray) (hs:s.size≤1000000):z0v Tryz.prog 40 [S s] (B ((unF 0 (rst s 0)).all okU)):=by
 refine z1e fun H=>?_
 refine z0k Tryz.func40 (by kernel_rfl) rfl (by simp) ?_
 dsimp only[Tryz.f40]
 refine zlk 901 ?_
 have h37:∀ (hp:Hp),Ab.look hp 901=some Blk.gone→z4m (0,901) hp=true→za9 Tryz.prog 72 [S s] (push hp H) ⟨fun r H'=>r=.v (.fn (.func 111) [] [.ptr (0,901) 0])∧H'=push ((901,.box [S s])::hp) H,fun x=>x=(0,901)∨x=(0,902),none⟩:=by
  intro hp h1 q1
  have qq:∀ x,z4m (0,x) hp=true→zck (push hp H) (0,x):=fun x q e t b he hb=>by
   obtain rfl:e=0:=by simp at he;omega
   exact z5i q hb
  have:=zpc s (push hp H) h1 (qq 901 q1)
  rw[zg0] at this
  exact this
 repeat' (first|(apply z05;(first|refine zoe (h37 _ rfl rfl) rfl rfl rfl (by decide) ?_|refine z0o ?_| (apply z0h;(refine z0b z2i ?_))))|(apply z08;(first|refine z0n ?_|apply z07))|(apply z06;(first|apply z0a|apply z00|apply z01)))
 all_goals try (exfalso;omega)
 refine z0e (tm':=[(2,.ptr (0,2) 0),(5,.fn (.func 111) [] [.ptr (0,901) 0])]) (hp':=[(2,.box [B false]),(901,.box [S s])]) ?_ rfl rfl
 have hsp:=zl4 s hs (fun _ b=>b=true) (fun (_:Bool) u=>okU u) (fun _ u=>okU u) (vaW s H) (fun x=>by cases x <;> rfl) (fun x u _ h1 h2=>h2) (fun hp x u _ h1 h2=>by subst h1;exact zrj s H hp u) true rfl
 refine zdf 999 5000 zn3 rfl rfl rfl rfl rfl hsp (fun m h=>h) ?_
 rintro r H2 ⟨_,rfl⟩
 rw[zuo]
 cases (unF 0 (rst s 0)).all okU with
 | false =>
  refine⟨.done,some .ret,zn3,_,H,rfl,by simp,?_⟩
  exact z0l Tryz.func40 _ (zgh rfl rfl rfl rfl rfl) ⟨rfl,rfl⟩
 | true =>
  refine⟨.ready,none,zn3,_,H,rfl,by simp,?_⟩
  refine z0e (tm':=[(2,.ptr (0,2) 0)]) (hp':=[(2,.box [B false])]) ?_ rfl rfl
  repeat' (first|(apply z05;((apply z0c;(refine z23 ?_))))|(apply z08;(first|refine z0n ?_|apply z07))|(apply z06;(first|apply z0a|apply z00|apply z03)))
  all_goals try (exfalso;omega)
  all_goals exact z0l Tryz.func40 _ (zgh rfl rfl rfl rfl rfl) ⟨rfl,rfl⟩
end Go.Proofs.YthdfkabdoidjfaaGreatDoor
namespace Go.Proofs.YthdfkabdoidjfaaGreatDoor
open Go.Ab Go.Rx
set_option maxHeartbeats 20000000
set_option maxRecDepth 100000
attribute [local irreducible] Run Ops Op1 z2b Val Tr z0v z2c NF Rel z3w z3x
def inB (l:List Rg) (c:Int):Bool:=l.any fun r=>decide (r.1≤c)&&decide (c≤r.2)
end Go.Proofs.YthdfkabdoidjfaaGreatDoor
