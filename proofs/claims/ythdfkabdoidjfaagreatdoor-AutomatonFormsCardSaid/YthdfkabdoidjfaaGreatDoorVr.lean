/- A part of the proof: G16 to G21. -/
import Derived.Test.YthdfkabdoidjfaaGreatDoorVt
import Derived.Test.YthdfkabdoidjfaaGreatDoorVc
import Derived.Test.YthdfkabdoidjfaaGreatDoorVx
set_option linter.all false
namespace Go.Proofs.YthdfkabdoidjfaaGreatDoor
open Go.Ab Go.Rx
set_option maxHeartbeats 20000000
set_option maxRecDepth 100000
attribute [local irreducible] Run Ops Op1 z2a Val Tr z0y z1x NF Rel z3i z3g
abbrev Un:=Int × Int × Int
abbrev unc (u:Un):List D:=[z2j u.1,z2w u.2.1,z2w u.2.2]
def unF:Nat→List U→List Un
 | _,[]=>[]
 | i,u::l=>(u.r,(i:Int),(u.n:Int))::unF (i+u.n) l
def znr {σ:Type} (go:σ→Un→Bool) (stp:σ→Un→σ):σ→List Un→σ
 | x,[]=>x
 | x,u::l=>if go x u=true then znr go stp (stp x u) l else stp x u
theorem zp8 (s:ByteArray) (H:Hf) (h1:H 0 901=some .gone) (q1:zd4 H (0,901)) :
 zar Tryz.prog 72 [S s] H ⟨fun r H'=>r=.v (.fn (.func 111) [] [.ptr (0,901) 0])∧H'=upd H (0,901) (.box [S s]),fun x=>x=(0,901)∨x=(0,902),none⟩:=by
 refine z4r Tryz.func72 (by kernel_rfl) rfl (by simp) ?_
 dsimp only[Tryz.f72]
 repeat' (first|(apply z07;(first|refine z0r ?_| (apply z1s;(refine z0a z3y ?_))|refine z9t rfl rfl (by decide) ?_))|(apply z08;(first|refine z0p ?_|apply z09))|(apply z05;(first|apply z06|apply z00)))
 refine zyf 1 0 901 (q:=.box [S s]) rfl rfl h1 (.inl rfl) (by simp[z4z,Blk.says,PV.says,PV.saysL,PV.lift]) q1 ?_
 exact z0n Tryz.func72 _ (y10 (.fn (.func 111) [] [.ptr (0,901) 0]) rfl rfl) ⟨rfl,rfl⟩
structure y3z (s:ByteArray) (u:Un):Prop where
 r0:0≤u.1
 r1:u.1≤1114111
 a0:0≤u.2.1
 n1:1≤u.2.2
 e:u.2.1+u.2.2≤s.size
theorem zlt {σ:Type} (s:ByteArray) (hs:s.size≤1000000) (ok:Int→σ→Prop) (go:σ→Un→Bool) (stp:σ→Un→σ) (W:σ→Hf) (hW:∀ x,W x 0 901=some (.box [S s]))
 (hok:∀ x u,y3z s u→ok u.2.1 x→go x u=true→ok (u.2.1+u.2.2) (stp x u))
 (hY:∀ (hp:Hp) (x:σ) (u:Un),z4z (1,5000) hp=true→ok u.2.1 x→y3z s u→zhz Tryz.prog (1,999) [.d (.agg (unc u))] (push hp (W x)) (fun r H'=>r=.v (B (go x u))∧H'=push hp (W (stp x u))) (fun y=>y=(1,5000)))
 (x0:σ) (h0:ok 0 x0):zar Tryz.prog 111 [.yl (0,999),.ptr (0,901) 0] (W x0) ⟨fun r H'=>r=.v (.tup [])∧H'=W (znr go stp x0 (unF 0 (rst s 0))),fun x=>x=(0,5000),none⟩:=by
 refine z4r Tryz.func111 (by kernel_rfl) rfl (by simp) ?_
 dsimp only[Tryz.f111]
 have hw0:=hW x0
 obtain⟨T,hT⟩:∃ T,znr go stp x0 (unF 0 (rst s 0))=T:=⟨_,rfl⟩
 rw[hT]
 repeat' (first|(apply z07;(first|(apply z0b;(refine z02 (z1i (b:=.box [S s])) rfl (bkN hw0) ?_))|(apply z0c;(refine z22 ?_))|(apply z0g;(refine z0a z16 ?_))|(apply z10;(refine z23 ?_))|refine zge rfl rfl rfl (by decide) ?_))|(apply z08;(first|refine z0p ?_|apply z09))|(apply z05;(first|apply z06|apply z00|apply z01)))
 all_goals try (exfalso;omega)
 refine z1f ?_
 refine z0d (z25 (fun q:Nat × Int × Int × σ=>⟨42,[(0,.yl (1,999)),(1,.ptr (1,901) 0),(3,.ptr (0,3) 0),(8,.ptr (0,8) 0)],[(3,.box [I .i32 q.2.1,I .i64 q.2.2.1,I .i64 0]),(8,.siter s q.1)],W q.2.2.2⟩)
  (fun q=>q.1≤s.size∧(0≤q.2.2.1→ok q.2.2.1 q.2.2.2)∧((q.1=0∧q.2.2.1=-1∧q.2.2.2=x0)∨(0≤q.2.2.1∧q.2.2.1<q.1∧0≤q.2.1∧q.2.1≤1114111∧znr go stp q.2.2.2 ((q.2.1,q.2.2.1,(q.1:Int)-q.2.2.1)::unF q.1 (rst s q.1))=T))) (fun q=>s.size-q.1) ?_ (0,0,-1,x0) ⟨zAf _,fun h=>by simp at h,.inl ⟨rfl,rfl,rfl⟩⟩) rfl rfl
 rintro⟨q,r,a,x⟩ ⟨i1,i2,i3⟩ ih
 simp only at i1 i2 i3 ih ⊢
 have hwx:=hW x
 by_cases hlt:q<s.size
 · have hd:=zer hlt
   have hw:=zhy s q hlt
   have hdh:=zx3 s q
   rcases i3 with ⟨rfl,rfl,rfl⟩|⟨a0,a1,r0,r1,hrun⟩
   · have ih':=ih (0+(Utf8.decode s 0).2,((Utf8.decode s 0).1:Nat),0,x) ⟨by simp only;omega,fun _=>h0,.inr ⟨by simp,by simp only;omega,by simp only;omega,by simp only;omega,by
      rw[hd] at hT
      simp only[unF] at hT
      simp only[Int.sub_zero]
      rw[← hT];simp⟩⟩ (by simp only;omega)
     repeat' (first|(apply z07;(first|refine z0r ?_| (apply z0b;(refine z02 z1i rfl rfl ?_))|(apply z0e;(refine z02 z0q rfl rfl ?_))|(apply z0t;(refine z02 (z1g z0x) rfl rfl ?_))|(apply z0c;(refine z22 ?_))|(apply z10;(refine z23 ?_))|refine z4t hlt rfl rfl (by decide) ?_))|(apply z08;(first|refine z0p ?_|apply z09|refine z1v ?_))|(apply z05;(first|apply z06|apply z00|refine z1c ?_| refine z0w ?_| apply z04|apply z01|apply z03)))
     all_goals exact zD18
   · have hu:y3z s (r,a,(q:Int)-a):=⟨r0,r1,a0,by simp only;omega,by simp only;omega⟩
     rw[znr] at hrun
     cases hg:go x (r,a,(q:Int)-a) with
     | true =>
      rw[zAz hg] at hrun
      have hy:∀ hp:Hp,z4z (1,5000) hp=true→zhz Tryz.prog (1,999) [.d (.agg (unc (r,a,(q:Int)-a)))] (push hp (W x)) (fun r' H'=>r'=.v (B true)∧H'=push hp (W (stp x (r,a,(q:Int)-a)))) (fun y=>y=(1,5000)):=fun hp hqq=>by
       have:=hY hp x _ hqq (i2 a0) hu
       rwa [hg] at this
      have ih':=ih (q+(Utf8.decode s q).2,((Utf8.decode s q).1:Nat),(q:Nat),stp x (r,a,(q:Int)-a)) ⟨by simp only;omega,fun _=>by have:=hok _ _ hu (i2 a0) hg;simp only at this;rwa [show a+((q:Int)-a)=(q:Nat) by omega] at this,.inr ⟨by simp only;omega,by simp only;omega,by simp only;omega,by simp only;omega,by
       rw[hd] at hrun
       simp only[unF] at hrun
       rw[show ((q+(Utf8.decode s q).2:Nat):Int)-(q:Nat)=((Utf8.decode s q).2:Nat) by omega]
       exact hrun⟩⟩ (by simp only;omega)
      repeat' (first|(apply z07;(first|refine zgf (mv:=(0,5000)) (hy _ (by rfl)) rfl rfl rfl rfl (by decide) ?_|refine z0r ?_| (apply z0b;(first|refine z02 z1i rfl rfl ?_| refine z02 z1y rfl rfl ?_))|(apply z0e;(refine z02 z0q rfl rfl ?_))|(apply z0t;(refine z02 (z1g z0x) rfl rfl ?_))|(apply z0c;(refine z22 ?_))|(apply z10;(refine z23 ?_))|refine z4t hlt rfl rfl (by decide) ?_))|(apply z08;(first|refine z0p ?_|apply z09|refine z1v ?_| refine z2n (fun _=>?_) (fun _=>?_)))|(apply z05;(first|apply z06|apply z00|refine z1c ?_| refine z0w ?_| apply z04|apply z01|apply z03)))
      all_goals exact zD18
     | false =>
      rw[zAy (by rw[hg];decide)] at hrun
      have hy:∀ hp:Hp,z4z (1,5000) hp=true→zhz Tryz.prog (1,999) [.d (.agg (unc (r,a,(q:Int)-a)))] (push hp (W x)) (fun r' H'=>r'=.v (B false)∧H'=push hp (W (stp x (r,a,(q:Int)-a)))) (fun y=>y=(1,5000)):=fun hp hqq=>by
       have:=hY hp x _ hqq (i2 a0) hu
       rwa [hg] at this
      repeat' (first|(apply z07;(first|refine zgf (mv:=(0,5000)) (hy _ (by rfl)) rfl rfl rfl rfl (by decide) ?_|refine z0r ?_| (apply z0b;(first|refine z02 z1i rfl rfl ?_| refine z02 z1y rfl rfl ?_))|(apply z0e;(refine z02 z0q rfl rfl ?_))|(apply z0t;(refine z02 (z1g z0x) rfl rfl ?_))|(apply z0c;(refine z22 ?_))|(apply z10;(refine z23 ?_))|refine z4t hlt rfl rfl (by decide) ?_))|(apply z08;(first|refine z0p ?_|apply z09|refine z1v ?_| refine z2n (fun _=>?_) (fun _=>?_)))|(apply z05;(first|apply z06|apply z00|refine z1c ?_| refine z0w ?_| apply z04|apply z01|apply z03)))
      all_goals try (exfalso;omega)
      all_goals exact z0n Tryz.func111 _ (z3d rfl) ⟨rfl,congrArg W hrun⟩
 · obtain rfl:q=s.size:=by omega
   have hd:=za9 (s:=s) (i:=s.size) (zAj _)
   rcases i3 with ⟨h1,rfl,rfl⟩|⟨a0,a1,r0,r1,hrun⟩
   · rw[← h1,hd] at hT
     simp only[unF,znr] at hT
     repeat' (first|(apply z07;(first|refine z0r ?_| (apply z0b;(first|refine z02 (z1i (b:=.box [S s])) rfl (bkN hwx) ?_| refine z02 z1i rfl rfl ?_))|(apply z0e;(refine z02 z0q rfl rfl ?_))|(apply z0t;(refine z02 (z1g z0x) rfl rfl ?_))|(apply z11;(refine z02 (z7s rfl) rfl rfl ?_))|(apply z0c;(refine z22 ?_))|refine z4u hlt rfl rfl (by decide) ?_))|(apply z08;(first|refine z0p ?_|apply z09))|(apply z05;(first|apply z06|apply z00|refine z0w ?_| apply z04|refine z0l ?_)))
     all_goals try (exfalso;omega)
     all_goals exact ze0 Tryz.func111 _ (z3d rfl) ⟨rfl,congrArg W hT⟩
   · have hu:y3z s (r,a,(s.size:Int)-a):=⟨r0,r1,a0,by simp only;omega,by simp only;omega⟩
     rw[hd] at hrun
     simp only[unF,znr,ite_self] at hrun
     repeat' (first|(apply z07;(first|refine zgf (mv:=(0,5000)) (hY _ x (r,a,(s.size:Int)-a) (by rfl) (i2 a0) hu) rfl rfl rfl rfl (by decide) ?_|refine z0r ?_| (apply z0b;(first|refine z02 (z1i (b:=.box [S s])) rfl (bkN hwx) ?_| refine z02 z1i rfl rfl ?_| refine z02 z1y rfl rfl ?_))|(apply z0e;(refine z02 z0q rfl rfl ?_))|(apply z0t;(refine z02 (z1g z0x) rfl rfl ?_))|(apply z11;(refine z02 (z7s rfl) rfl rfl ?_))|(apply z0c;(refine z22 ?_))|refine z4u hlt rfl rfl (by decide) ?_))|(apply z08;(first|refine z0p ?_|apply z09))|(apply z05;(first|apply z06|apply z00|refine z0w ?_| apply z04|refine z0f (fun _=>?_) (fun _=>?_)| refine z0l ?_)))
     all_goals try (exfalso;omega)
     all_goals exact ze0 Tryz.func111 _ (z3d rfl) ⟨rfl,congrArg W hrun⟩
theorem zij {hp:Hp} {up:Hf} (c:Nat) {q:Blk}:upd (push hp up) (0,c) q=push ((c,q)::hp) up:=by
 funext d s
 cases d with
 | zero =>
  simp only[upd,push,Ab.look,true_and]
  by_cases h1:s=c
  · rw[zAz h1,zAz h1.symm]
  · rw[zAy h1,zAy (Ne.symm h1)]
 | succ d=>simp[upd,push]
def atR (s:ByteArray) (i:Nat):PV:=match (unF 0 (rst s 0))[i]? with
 | some u=>.tup [I .i32 u.1,I .i64 u.2.1,I .i64 u.2.2,B true]
 | none=>.tup [I .i32 0,I .i64 0,I .i64 0,B false]
noncomputable def zq9:Code:=match Tryz.f69.body with|some (.seq _ (.seq (.seq _ (.block _ (.rangeFunc _ _ a _))) _))=>a|_=>.skip
noncomputable def ziq:Code:=match Tryz.f69.body with|some (.seq _ (.seq (.seq _ (.block _ (.rangeFunc _ _ _ b))) _))=>b|_=>.skip
def zo7:List (Nat × PV):=[(3,.ptr (0,3) 0),(4,.ptr (0,4) 0),(5,.ptr (0,5) 0),(6,.ptr (0,6) 0),(7,.ptr (0,7) 0)]
noncomputable def zky (state:LoopState) (j:Option Code):Blk:=.lp 22 69 #[11] zq9 ziq zo7 state j
inductive AtS where
 | run (i:Nat)
 | fin (u:Un)
noncomputable def atW (s:ByteArray) (H:Hf):AtS→Hf
 | .run i=>push [(999,zky .ready none),(7,.box [B false]),(6,.box [I .i64 0]),(5,.box [I .i64 0]),(4,.box [I .i32 0]),(3,.box [I .i64 (i:Nat)]),(901,.box [S s])] H
 | .fin u=>push [(999,zky .done (some .ret)),(7,.box [B true]),(6,.box [I .i64 u.2.2]),(5,.box [I .i64 u.2.1]),(4,.box [I .i32 u.1]),(3,.box [I .i64 0]),(901,.box [S s])] H
def y3v:AtS→Un→Bool
 | .run 0,_=>false
 | .run (_+1),_=>true
 | .fin _,_=>false
def znx:AtS→Un→AtS
 | .run 0,u=>.fin u
 | .run (i+1),_=>.run i
 | .fin v,_=>.fin v
def y67:AtS→Prop
 | .run i=>i≤1000000
 | .fin _=>False
theorem zw8:∀ (l:List Un) (i:Nat),znr y3v znx (.run i) l=match l[i]? with|some u=>.fin u|none=>.run (i-l.length)
 | [],i=>by simp[znr]
 | u::l,0=>by rw[znr,zAy (by simp[y3v])];rfl
 | u::l,i+1=>by
  rw[znr,zAz (by rfl),show znx (.run (i+1)) u=.run i from rfl,zw8 l i,List.getElem?_cons_succ,zAk,show i+1-(l.length+1)=i-l.length by omega]
theorem ztn (s:ByteArray) (H:Hf) (hp:Hp) (x:AtS) (u:Un) (hx:y67 x):zhz Tryz.prog (1,999) [.d (.agg (unc u))] (push hp (atW s H x)) (fun r H'=>r=.v (B (y3v x u))∧H'=push hp (atW s H (znx x u))) (fun y=>y=(1,5000)):=by
 match x,hx with
 | .run 0,_ =>
  refine y3r (n':=22) (f':=69) (t0:=11) (asg:=zq9) (body:=ziq) (st:=zo7) (pend:=none) (R2:=fun r H'=>r=.v (B false)∧H'=upd (upd (upd (upd (upd (push hp (atW s H (.run 0))) (1,999) (zky .busy none)) (1,4) (.box [I .i32 u.1])) (1,5) (.box [I .i64 u.2.1])) (1,6) (.box [I .i64 u.2.2])) (1,7) (.box [B true])) rfl (by decide) (by simp) ?_ ?_ ?_ ?_
  · rw[show z3e (1+1) zo7=[(3,.ptr (2,3) 0),(4,.ptr (2,4) 0),(5,.ptr (2,5) 0),(6,.ptr (2,6) 0),(7,.ptr (2,7) 0)] by simp[zo7,z3e,PV.lift]]
    dsimp only[zq9,ziq,Tryz.f69]
    have hb3:upd (push hp (atW s H (.run 0))) (1,999) (zky .busy none) 1 3=some (.box [I .i64 0]):=rfl
    repeat' (first|(apply z07;(first|(apply z0c;(refine z22 ?_))|(apply z0g;(refine z0a z16 ?_))))|(apply z08;(first|refine z0p ?_|apply z09))|(apply z05;(apply z00)))
    refine zgt rfl rfl ?_
    change Run _ _ _ _ ⟨_,_,_,upd (push hp (atW s H (.run 0))) (1,999) (zky .busy none)⟩
    have hb4:upd (push hp (atW s H (.run 0))) (1,999) (zky .busy none) 1 4=some (.box [I .i32 0]):=rfl
    have hb5:upd (push hp (atW s H (.run 0))) (1,999) (zky .busy none) 1 5=some (.box [I .i64 0]):=rfl
    have hb6:upd (push hp (atW s H (.run 0))) (1,999) (zky .busy none) 1 6=some (.box [I .i64 0]):=rfl
    have hb7:upd (push hp (atW s H (.run 0))) (1,999) (zky .busy none) 1 7=some (.box [B false]):=rfl
    generalize upd (push hp (atW s H (.run 0))) (1,999) (zky .busy none)=V at *
    repeat' (first|(apply z07;(first|refine z0r ?_| (apply z0b;(refine z02 (z1i (b:=.box [I .i64 0])) rfl (bkN hb3) ?_))))|(apply z08;(first|refine z0p ?_|apply z09))|(apply z05;(first|apply z06|apply z00|refine z1c ?_| apply z01|apply z2b))|(apply z2c;(first|(apply z0v;refine z1h mix ?_)|(apply z0j;(refine z0h z1i rfl rfl ?_))|(apply z0z;(refine z0h z0q rfl rfl ?_))|(apply z1q;(first|refine zc3 (raw':=.box [B true]) (by first|exact rfl|exact⟨_,rfl,rfl,rfl⟩) rfl (z0i (z0i (z0i hb7 (by simp)) (by simp)) (by simp)) rfl rfl rfl rfl rfl rfl ?_|refine zc3 (raw':=.box [I .i64 u.2.2]) (by first|exact rfl|exact⟨_,rfl,rfl,rfl⟩) rfl (z0i (z0i hb6 (by simp)) (by simp)) rfl rfl rfl rfl rfl rfl ?_|refine zc3 (raw':=.box [I .i64 u.2.1]) (by first|exact rfl|exact⟨_,rfl,rfl,rfl⟩) rfl (z0i hb5 (by simp)) rfl rfl rfl rfl rfl rfl ?_|refine zc3 (raw':=.box [I .i32 u.1]) (by first|exact rfl|exact⟨_,rfl,rfl,rfl⟩) rfl hb4 rfl rfl rfl rfl rfl rfl ?_)))))
    all_goals try (exfalso;omega)
    all_goals exact ze6 rfl ⟨rfl,rfl⟩
  · rintro H' ⟨h,_⟩;cases h
  · rintro H' ⟨_,rfl⟩
    refine⟨zo7,none,z0i (z0i (z0i (z0i (z1p _ _ _) (by simp)) (by simp)) (by simp)) (by simp),rfl,?_⟩
    funext d t
    match d with
    | 0=>rfl
    | d+2=>rfl
    | 1 =>
     by_cases h1:t=999
     · subst h1;rfl
     by_cases h2:t=7
     · subst h2;rfl
     by_cases h3:t=6
     · subst h3;rfl
     by_cases h4:t=5
     · subst h4;rfl
     by_cases h5:t=4
     · subst h5;rfl
     have k1:=Ne.symm h1
     have k2:=Ne.symm h2
     have k3:=Ne.symm h3
     have k4:=Ne.symm h4
     have k5:=Ne.symm h5
     simp[upd,push,atW,znx,Ab.look,h1,h2,h3,h4,h5,k1,k2,k3,k4,k5]
  · rintro id H' ⟨h,_⟩;cases h
 | .run (i+1),h =>
  have hi:i+1≤1000000:=h
  refine y3r (n':=22) (f':=69) (t0:=11) (asg:=zq9) (body:=ziq) (st:=zo7) (pend:=none) (R2:=fun r H'=>r=.v (B true)∧H'=upd (upd (push hp (atW s H (.run (i+1)))) (1,999) (zky .busy none)) (1,3) (.box [I .i64 (i:Nat)])) rfl (by decide) (by simp) ?_ ?_ ?_ ?_
  · rw[show z3e (1+1) zo7=[(3,.ptr (2,3) 0),(4,.ptr (2,4) 0),(5,.ptr (2,5) 0),(6,.ptr (2,6) 0),(7,.ptr (2,7) 0)] by simp[zo7,z3e,PV.lift]]
    dsimp only[zq9,ziq,Tryz.f69]
    repeat' (first|(apply z07;(first|(apply z0c;(refine z22 ?_))|(apply z0g;(refine z0a z16 ?_))))|(apply z08;(first|refine z0p ?_|apply z09))|(apply z05;(apply z00)))
    refine zgt rfl rfl ?_
    change Run _ _ _ _ ⟨_,_,_,upd (push hp (atW s H (.run (i+1)))) (1,999) (zky .busy none)⟩
    have hb3:upd (push hp (atW s H (.run (i+1)))) (1,999) (zky .busy none) 1 3=some (.box [I .i64 ((i+1:Nat):Int)]):=rfl
    generalize upd (push hp (atW s H (.run (i+1)))) (1,999) (zky .busy none)=V at *
    repeat' (first|(apply z07;(first|refine z0r ?_| (apply z0b;(refine z02 (z1i (b:=.box [I .i64 ((i+1:Nat):Int)])) rfl (bkN hb3) ?_))|(apply z0t;(refine z02 (z1g z0x) rfl rfl ?_))|(apply z0c;(refine z55 (raw':=.box [I .i64 (((i+1:Nat):Int)-1)]) rfl hb3 rfl rfl rfl rfl rfl rfl ?_))))|(apply z08;(first|refine z0p ?_|apply z09))|(apply z05;(first|apply z06|apply z00|refine z0w ?_| apply z04|apply z01|apply z03)))
    all_goals try (exfalso;omega)
    all_goals (rw[show ((i+1:Nat):Int)-1=(i:Nat) by omega];exact zr7 rfl ⟨rfl,rfl⟩)
  · rintro H' ⟨_,rfl⟩
    refine⟨zo7,none,z0i (z1p _ _ _) (by simp),rfl,?_⟩
    funext d t
    match d with
    | 0=>rfl
    | d+2=>rfl
    | 1 =>
     by_cases h1:t=999
     · subst h1;rfl
     by_cases h2:t=7
     · subst h2;rfl
     by_cases h3:t=6
     · subst h3;rfl
     by_cases h4:t=5
     · subst h4;rfl
     by_cases h5:t=4
     · subst h5;rfl
     by_cases h6:t=3
     · subst h6;rfl
     have k1:=Ne.symm h1
     have k2:=Ne.symm h2
     have k3:=Ne.symm h3
     have k4:=Ne.symm h4
     have k5:=Ne.symm h5
     have k6:=Ne.symm h6
     simp[upd,push,atW,znx,Ab.look,h1,h2,h3,h4,h5,h6,k1,k2,k3,k4,k5,k6]
  · rintro H' ⟨h,_⟩;cases h
  · rintro id H' ⟨h,_⟩;cases h
theorem y6k (s:ByteArray) (hs:s.size≤1000000) (i:Nat) (hi:i≤1000000):z0y Tryz.prog 69 [S s,I .i64 (i:Nat)] (atR s i):=by
 refine z1r fun H=>?_
 refine z0k Tryz.func69 (by kernel_rfl) rfl (by simp) ?_
 dsimp only[Tryz.f69]
 refine zm8 901 ?_
 have h37:∀ (hp:Hp),Ab.look hp 901=some Blk.gone→z4z (0,901) hp=true→zar Tryz.prog 72 [S s] (push hp H) ⟨fun r H'=>r=.v (.fn (.func 111) [] [.ptr (0,901) 0])∧H'=push ((901,.box [S s])::hp) H,fun x=>x=(0,901)∨x=(0,902),none⟩:=by
  exact zD86
 repeat' (first|(apply z07;(first|refine zqg (h37 _ rfl rfl) rfl rfl rfl (by decide) ?_|refine z0r ?_| (apply z0g;(refine z0a z16 ?_))|(apply z1s;(refine z0a z3y ?_))))|(apply z08;(first|refine z0p ?_|apply z09))|(apply z05;(first|apply z06|apply z00|apply z01)))
 all_goals try (exfalso;omega)
 refine z0d (tm':=[(3,.ptr (0,3) 0),(4,.ptr (0,4) 0),(5,.ptr (0,5) 0),(6,.ptr (0,6) 0),(7,.ptr (0,7) 0),(10,.fn (.func 111) [] [.ptr (0,901) 0])]) (hp':=[(7,.box [B false]),(6,.box [I .i64 0]),(5,.box [I .i64 0]),(4,.box [I .i32 0]),(3,.box [I .i64 (i:Nat)]),(901,.box [S s])]) ?_ rfl rfl
 have hsp:=zlt s hs (fun _=>y67) y3v znx (atW s H) (fun x=>by cases x <;> rfl) (fun x u _ h1 h2=>by
  match x,h1,h2 with
  | .run (i+1),h1,_=>have h1:i+1≤1000000:=h1;show i≤1000000;omega) (fun hp x u _ h1 h2=>ztn s H hp x u h1) (.run i) hi
 refine zdj 999 5000 zo7 rfl rfl rfl rfl rfl hsp (fun m h=>h) ?_
 rintro r H2 ⟨_,rfl⟩
 rw[zw8,atR]
 cases (unF 0 (rst s 0))[i]? with
 | some u =>
  refine⟨.done,some .ret,zo7,_,H,rfl,by simp,?_⟩
  exact z0n Tryz.func69 _ (zgz rfl rfl rfl rfl rfl rfl rfl rfl rfl rfl rfl rfl rfl rfl rfl rfl rfl) ⟨rfl,rfl⟩
 | none =>
  refine⟨.ready,none,zo7,_,H,rfl,by simp,?_⟩
  refine z0d (tm':=[(3,.ptr (0,3) 0),(4,.ptr (0,4) 0),(5,.ptr (0,5) 0),(6,.ptr (0,6) 0),(7,.ptr (0,7) 0)]) (hp':=[(7,.box [B false]),(6,.box [I .i64 0]),(5,.box [I .i64 0]),(4,.box [I .i32 0])]) ?_ rfl rfl
  repeat' (first|(apply z07;((apply z0c;(refine z22 ?_))))|(apply z08;(first|refine z0p ?_|apply z09))|(apply z05;(first|apply z06|apply z00|apply z03)))
  all_goals try (exfalso;omega)
  all_goals exact z0n Tryz.func69 _ (zgz rfl rfl rfl rfl rfl rfl rfl rfl rfl rfl rfl rfl rfl rfl rfl rfl rfl) ⟨rfl,rfl⟩
def okU (u:Un):Bool:=!decide (u.1=65533)||decide (u.2.2=3)
theorem zvh (u:Un):z0y Tryz.prog 73 [.d (.agg (unc u))] (B (okU u)):=by
 refine z1r fun H=>?_
 refine z0k Tryz.func73 (by kernel_rfl) rfl (by simp) ?_
 dsimp only[Tryz.f73]
 rw[okU]
 by_cases h:u.1=65533
 · rw[zAi h,Bool.not_true,Bool.false_or]
   all_goals exact zD59
 · rw[zAo h,Bool.not_false,Bool.true_or]
   all_goals exact zD59
noncomputable def zrh:Code:=match Tryz.f40.body with|some (.seq _ (.seq (.seq _ (.block _ (.rangeFunc _ _ a _))) _))=>a|_=>.skip
noncomputable def zix:Code:=match Tryz.f40.body with|some (.seq _ (.seq (.seq _ (.block _ (.rangeFunc _ _ _ b))) _))=>b|_=>.skip
def zo8:List (Nat × PV):=[(2,.ptr (0,2) 0)]
noncomputable def zv4 (state:LoopState) (j:Option Code):Blk:=.lp 10 40 #[6] zrh zix zo8 state j
noncomputable def vaW (s:ByteArray) (H:Hf):Bool→Hf
 | true=>push [(999,zv4 .ready none),(2,.box [B false]),(901,.box [S s])] H
 | false=>push [(999,zv4 .done (some .ret)),(2,.box [B false]),(901,.box [S s])] H
theorem zw7:∀ l:List Un,znr (fun (_:Bool) u=>okU u) (fun _ u=>okU u) true l=l.all okU
 | []=>rfl
 | u::l=>by
  rw[znr,List.all_cons]
  cases h:okU u with
  | true=>rw[zAz rfl,zw7 l];rfl
  | false=>rw[zAy (by decide)];rfl
theorem ztk (s:ByteArray) (H:Hf) (hp:Hp) (u:Un):zhz Tryz.prog (1,999) [.d (.agg (unc u))] (push hp (vaW s H true)) (fun r H'=>r=.v (B (okU u))∧H'=push hp (vaW s H (okU u))) (fun y=>y=(1,5000)):=by
 have huv:=zvh u
 cases ho:okU u with
 | false =>
  rw[ho] at huv
  refine y3r (n':=10) (f':=40) (t0:=6) (asg:=zrh) (body:=zix) (st:=zo8) (pend:=none) (R2:=fun r H'=>r=.v (B false)∧H'=upd (upd (push hp (vaW s H true)) (1,999) (zv4 .busy none)) (1,2) (.box [B false])) rfl (by decide) (by simp) ?_ ?_ ?_ ?_
  · rw[show z3e (1+1) zo8=[(2,.ptr (2,2) 0)] by simp[zo8,z3e,PV.lift]]
    dsimp only[zrh,zix,Tryz.f40]
    repeat' (first|(apply z07;(first|(apply z0c;(refine z22 ?_))|(apply z0g;(refine z0a z16 ?_))))|(apply z08;(first|refine z0p ?_|apply z09))|(apply z05;(apply z00)))
    refine zgt rfl rfl ?_
    change Run _ _ _ _ ⟨_,_,_,upd (push hp (vaW s H true)) (1,999) (zv4 .busy none)⟩
    have hb2:upd (push hp (vaW s H true)) (1,999) (zv4 .busy none) 1 2=some (.box [B false]):=rfl
    generalize upd (push hp (vaW s H true)) (1,999) (zv4 .busy none)=V at *
    repeat' (first|(apply z07;(first|refine z0r ?_| (apply z0b;(refine z02 z1y rfl rfl ?_))|(apply z0s;(refine z1w huv ?_))|(apply z0c;(refine z55 (raw':=.box [B false]) rfl hb2 rfl rfl rfl rfl rfl rfl ?_))))|(apply z08;(first|refine z0p ?_|apply z09))|(apply z05;(first|apply z06|apply z00|refine z1c ?_| apply z01)))
    all_goals try (exfalso;omega)
    all_goals exact ze6 rfl ⟨rfl,rfl⟩
  · rintro H' ⟨h,_⟩;cases h
  · rintro H' ⟨_,rfl⟩
    refine⟨zo8,none,z0i (z1p _ _ _) (by simp),rfl,?_⟩
    funext d t
    match d with
    | 0=>rfl
    | d+2=>rfl
    | 1 =>
     by_cases h1:t=999
     · subst h1;rfl
     by_cases h2:t=2
     · subst h2;rfl
     have k1:=Ne.symm h1
     have k2:=Ne.symm h2
     simp[upd,push,vaW,Ab.look,h1,h2,k1,k2]
  · rintro id H' ⟨h,_⟩;cases h
 | true =>
  rw[ho] at huv
  refine y3r (n':=10) (f':=40) (t0:=6) (asg:=zrh) (body:=zix) (st:=zo8) (pend:=none) (R2:=fun r H'=>r=.v (B true)∧H'=upd (push hp (vaW s H true)) (1,999) (zv4 .busy none)) rfl (by decide) (by simp) ?_ ?_ ?_ ?_
  · rw[show z3e (1+1) zo8=[(2,.ptr (2,2) 0)] by simp[zo8,z3e,PV.lift]]
    dsimp only[zrh,zix,Tryz.f40]
    repeat' (first|(apply z07;(first|(apply z0c;(refine z22 ?_))|(apply z0g;(refine z0a z16 ?_))))|(apply z08;(first|refine z0p ?_|apply z09))|(apply z05;(apply z00)))
    refine zgt rfl rfl ?_
    change Run _ _ _ _ ⟨_,_,_,upd (push hp (vaW s H true)) (1,999) (zv4 .busy none)⟩
    generalize upd (push hp (vaW s H true)) (1,999) (zv4 .busy none)=V at *
    repeat' (first|(apply z07;(first|refine z0r ?_| (apply z0b;(refine z02 z1y rfl rfl ?_))|(apply z0s;(refine z1w huv ?_))))|(apply z08;(first|refine z0p ?_|apply z09))|(apply z05;(first|apply z06|apply z00|refine z0w ?_| apply z04|apply z01|apply z03)))
    all_goals try (exfalso;omega)
    all_goals exact zr7 rfl ⟨rfl,rfl⟩
  · rintro H' ⟨_,rfl⟩
    refine⟨zo8,none,z1p _ _ _,rfl,?_⟩
    funext d t
    match d with
    | 0=>rfl
    | d+2=>rfl
    | 1 =>
     by_cases h1:t=999
     · subst h1;rfl
     have k1:=Ne.symm h1
     simp[upd,push,vaW,Ab.look,h1,k1]
  · rintro H' ⟨h,_⟩;cases h
  · rintro id H' ⟨h,_⟩;cases h
theorem zr1 (s:ByteArray) (hs:s.size≤1000000):z0y Tryz.prog 40 [S s] (B ((unF 0 (rst s 0)).all okU)):=by
 refine z1r fun H=>?_
 refine z0k Tryz.func40 (by kernel_rfl) rfl (by simp) ?_
 dsimp only[Tryz.f40]
 refine zm8 901 ?_
 have h37:∀ (hp:Hp),Ab.look hp 901=some Blk.gone→z4z (0,901) hp=true→zar Tryz.prog 72 [S s] (push hp H) ⟨fun r H'=>r=.v (.fn (.func 111) [] [.ptr (0,901) 0])∧H'=push ((901,.box [S s])::hp) H,fun x=>x=(0,901)∨x=(0,902),none⟩:=by
  exact zD86
 repeat' (first|(apply z07;(first|refine zqg (h37 _ rfl rfl) rfl rfl rfl (by decide) ?_|refine z0r ?_| (apply z0g;(refine z0a z16 ?_))))|(apply z08;(first|refine z0p ?_|apply z09))|(apply z05;(first|apply z06|apply z00|apply z01)))
 all_goals try (exfalso;omega)
 refine z0d (tm':=[(2,.ptr (0,2) 0),(5,.fn (.func 111) [] [.ptr (0,901) 0])]) (hp':=[(2,.box [B false]),(901,.box [S s])]) ?_ rfl rfl
 have hsp:=zlt s hs (fun _ b=>b=true) (fun (_:Bool) u=>okU u) (fun _ u=>okU u) (vaW s H) (fun x=>by cases x <;> rfl) (fun x u _ h1 h2=>h2) (fun hp x u _ h1 h2=>by subst h1;exact ztk s H hp u) true rfl
 refine zdj 999 5000 zo8 rfl rfl rfl rfl rfl hsp (fun m h=>h) ?_
 rintro r H2 ⟨_,rfl⟩
 rw[zw7]
 cases (unF 0 (rst s 0)).all okU with
 | false =>
  refine⟨.done,some .ret,zo8,_,H,rfl,by simp,?_⟩
  exact z0n Tryz.func40 _ (zh5 rfl rfl rfl rfl rfl) ⟨rfl,rfl⟩
 | true =>
  refine⟨.ready,none,zo8,_,H,rfl,by simp,?_⟩
  refine z0d (tm':=[(2,.ptr (0,2) 0)]) (hp':=[(2,.box [B false])]) ?_ rfl rfl
  repeat' (first|(apply z07;((apply z0c;(refine z22 ?_))))|(apply z08;(first|refine z0p ?_|apply z09))|(apply z05;(first|apply z06|apply z00|apply z03)))
  all_goals try (exfalso;omega)
  all_goals exact z0n Tryz.func40 _ (zh5 rfl rfl rfl rfl rfl) ⟨rfl,rfl⟩
def inB (l:List Rg) (c:Int):Bool:=l.any fun r=>decide (r.1≤c)&&decide (c≤r.2)
theorem zo0 (l:List Rg) (hl:l.length≤9223372036854775807) (c:Int):z0y Tryz.prog 108 [.d (rgs l),I .i32 c] (B (inB l c)):=by
 refine z1r fun H=>?_
 refine z0k Tryz.func108 (by kernel_rfl) rfl (by simp) ?_
 dsimp only[Tryz.f108]
 repeat' (first|(apply z07;(first|refine z0r ?_| (apply z11;(refine z02 (z1k rfl) rfl rfl ?_))))|(apply z08;(first|refine z0p ?_|apply z09))|(apply z05;(first|apply z06|apply z00|apply z01)))
 all_goals try (exfalso;omega)
 refine z1f ?_
 refine z0d (z25 (fun q:Nat=>⟨24,[(1,I .i32 c),(7,.d (rgs l)),(8,I .i64 l.length),(9,I .i64 (q:Nat))],[],H⟩) (fun q=>q≤l.length∧inB (l.drop q) c=inB l c) (fun q=>l.length-q) ?_ 0 ⟨zAf _,rfl⟩) rfl rfl
 intro q ⟨i1,i2⟩ ih
 by_cases hlt:q<l.length
 · obtain⟨r,hr⟩:∃ r,l[q]? =some r:=⟨_,zA0 hlt⟩
   rw[drop_cons hr,inB,List.any_cons,← inB] at i2
   by_cases hc:r.1≤c∧c≤r.2
   · rw[zAi hc.1,zAi hc.2,Bool.true_and,Bool.true_or] at i2
     rw[← i2]
     repeat' (first|(apply z07;(first|refine z0r ?_| (apply z0b;(first|refine z02 z1i rfl rfl ?_| refine z02 z1z rfl rfl ?_))|(apply z0e;(refine z02 z0q rfl rfl ?_))|(apply z0m;(refine z02 (z1b (ys:=l.map rgc) rfl (idx hr)) rfl rfl ?_))|(apply z0t;(refine z02 (z0u z0x) rfl rfl ?_))|(apply z0c;(refine z22 ?_))|(apply z0g;(refine z0a z16 ?_))))|(apply z08;(first|refine z0p ?_|apply z09|refine z1v ?_| refine z2n (fun _=>?_) (fun _=>?_)))|(apply z05;(first|apply z06|apply z00|refine z0w ?_| apply z04|apply z01|apply z03|refine z0f (fun _=>?_) (fun _=>?_)| refine z0l ?_)))
     all_goals try (exfalso;omega)
     all_goals exact z0n Tryz.func108 _ z19 ⟨rfl,rfl⟩
   · exact zD24
 · obtain rfl:q=l.length:=by omega
   rw[zAs,inB,List.any_nil] at i2
   rw[← i2]
   repeat' (first|(apply z07;(refine z0r ?_))|(apply z08;(first|refine z0p ?_|apply z09))|(apply z05;(first|apply z06|apply z00|apply z04|apply z01|refine z0f (fun _=>?_) (fun _=>?_)| refine z0l ?_)))
   all_goals try (exfalso;omega)
   all_goals exact z0n Tryz.func108 _ z19 ⟨rfl,rfl⟩
end Go.Proofs.YthdfkabdoidjfaaGreatDoor
