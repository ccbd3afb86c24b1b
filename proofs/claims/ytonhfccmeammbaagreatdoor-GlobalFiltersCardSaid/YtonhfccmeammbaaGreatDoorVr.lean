/- A part. -/
import Derived.Test.YtonhfccmeammbaaGreatDoorVt
set_option linter.all false
open Go.Proofs.Tryz
namespace Go.Proofs.YtonhfccmeammbaaGreatDoor
open Go.Ab Go.Rx
set_option maxHeartbeats 20000000
set_option maxRecDepth 100000
attribute [local irreducible] Run Ops Op1 z1z Val Tr z0q z1v NF Rel z5c z5d
abbrev Un:=Int × Int × Int
abbrev unc(u:Un):List D:=[zbg u.1,z2g u.2.1,z2g u.2.2]
def unF:Nat→List U→List Un
 | _,[]=>[]
 | i,u::l=>(u.r,(i:Int),(u.n:Int))::unF (i+u.n) l
def zkk{σ:Type}(go:σ→Un→Bool)(stp:σ→Un→σ):σ→List Un→σ
 | x,[]=>x
 | x,u::l=>if go x u=true then zkk go stp (stp x u) l else stp x u
theorem zkd(s:ByteArray)(H:Hf)(h1:H 0 901=some .gone)(q1:za0 H (0,901)) :
 z9r prog 145 [S s] H ⟨fun r H'=>r=.v (.fn (.func 167) [] [.ptr (0,901) 0])∧H'=upd H (0,901) (.box [S s]),fun x=>x=(0,901)∨x=(0,902),none⟩:=by
 refine z4y func145 (by kernel_rfl) rfl (by simp) ?_
 dsimp only[f145]
 repeat' first|(apply z05;first|refine z0n ?_| (apply z18;refine z0b z43 ?_)|refine z4x rfl rfl (by decide) ?_)|(apply z06;first|refine z0m ?_|apply z09)|(apply z07;first|apply z08|apply z00)
 refine zz6 1 0 901 (q:=.box [S s]) rfl rfl h1 (.inl rfl) (by simp[z3u,Blk.says,PV.says,PV.saysL,PV.lift]) q1 ?_
 exact z0e func145 _ (zvw (.fn (.func 167) [] [.ptr (0,901) 0]) rfl rfl) ⟨rfl,rfl⟩
structure y1k(s:ByteArray)(u:Un):Prop where
 r0:0≤u.1
 r1:u.1≤1114111
 a0:0≤u.2.1
 n1:1≤u.2.2
 e:u.2.1+u.2.2≤s.size
theorem zh5{σ:Type}(s:ByteArray)(hs:s.size≤1000000)(ok:Int→σ→Prop)(go:σ→Un→Bool)(stp:σ→Un→σ)(W:σ→Hf)(hW:∀x,W x 0 901=some (.box [S s]))
 (hok:∀x u,y1k s u→ok u.2.1 x→go x u=true→ok (u.2.1+u.2.2) (stp x u))
 (hY:∀(hp:Hp) (x:σ) (u:Un),z3u (1,5000) hp=true→ok u.2.1 x→y1k s u→zhd prog (1,999) [.d (.agg (unc u))] (push hp (W x)) (fun r H'=>r=.v (B (go x u))∧H'=push hp (W (stp x u))) fun y=>y=(1,5000))
 (x0:σ) (h0:ok 0 x0):z9r prog 167 [.yl (0,999),.ptr (0,901) 0] (W x0) ⟨fun r H'=>r=.v (.tup [])∧H'=W (zkk go stp x0 (unF 0 (rst s 0))),fun x=>x=(0,5000),none⟩:=by
 refine z4y func167 (by kernel_rfl) rfl (by simp) ?_
 dsimp only[f167]
 have hw0:=hW x0
 obtain⟨T,hT⟩:∃T,zkk go stp x0 (unF 0 (rst s 0))=T:=⟨_,rfl⟩
 rw[hT]
 repeat' first|(apply z05;first|(apply z0a;refine z02 (z16 (b:=.box [S s])) rfl (bkN hw0) ?_)|(apply z0f;refine z25 ?_)|(apply z0l;refine z0b z2e ?_)|(apply z1n;refine z2y ?_)|refine zaj rfl rfl rfl (by decide) ?_)|(apply z06;first|refine z0m ?_|apply z09)|(apply z07;first|apply z08|apply z00|apply z01)
 all_goals try omega
 refine z0r ?_
 refine z0d (z1o (fun q:Nat × Int × Int × σ=>⟨42,[(0,.yl (1,999)),(1,.ptr (1,901) 0),(3,.ptr (0,3) 0),(8,.ptr (0,8) 0)],[(3,.box [I .i32 q.2.1,I .i64 q.2.2.1,I .i64 0]),(8,.siter s q.1)],W q.2.2.2⟩)
  (fun q=>q.1≤s.size∧(0≤q.2.2.1→ok q.2.2.1 q.2.2.2)∧((q.1=0∧q.2.2.1=-1∧q.2.2.2=x0)∨(0≤q.2.2.1∧q.2.2.1<q.1∧0≤q.2.1∧q.2.1≤1114111∧zkk go stp q.2.2.2 ((q.2.1,q.2.2.1,(q.1:Int)-q.2.2.1)::unF q.1 (rst s q.1))=T))) (fun q=>s.size-q.1) ?_ (0,0,-1,x0) ⟨zAf _,fun h=>by simp at h,.inl ⟨rfl,rfl,rfl⟩⟩) rfl rfl
 rintro⟨q,r,a,x⟩ ⟨i1,i2,i3⟩ ih
 simp only at i1 i2 i3 ih⊢
 have hwx:=hW x
 by_cases hlt:q<s.size
 ·have hd:=z9y hlt
  have hw:=zcv s q hlt
  have hdh:=zrb s q
  rcases i3 with⟨rfl,rfl,rfl⟩|⟨a0,a1,r0,r1,hrun⟩
  ·have ih':=ih (0+(Utf8.decode s 0).2,((Utf8.decode s 0).1:Nat),0,x) ⟨by simp only;omega,fun _=>h0,.inr ⟨by simp,by simp only;omega,by simp only;omega,by simp only;omega,by
    rw[hd]at hT
    simp only[unF]at hT
    simp only[Int.sub_zero]
    rw[←hT];simp⟩⟩ (by simp only;omega)
   repeat' first|(apply z05;first|refine z0n ?_| (apply z0a;refine z02 z16 rfl rfl ?_)|(apply z0c;refine z02 z0i rfl rfl ?_)|(apply z0t;refine z02 (z2l z1h) rfl rfl ?_)|(apply z0f;refine z25 ?_)|(apply z1n;refine z2y ?_)|refine z3e hlt rfl rfl (by decide) ?_)|(apply z06;first|refine z0m ?_|apply z09|refine z1g ?_)|(apply z07;first|apply z08|apply z00|refine z1j ?_| refine z15 ?_| apply z04|apply z01|apply z03)
   all_goals exact zD23
  ·have hu:y1k s (r,a,(q:Int)-a):=⟨r0,r1,a0,by simp only;omega,by simp only;omega⟩
   rw[zkk]at hrun
   cases hg:go x (r,a,(q:Int)-a)with
   | true =>
    rw[zAz hg]at hrun
    have hy:∀hp:Hp,z3u (1,5000) hp=true→zhd prog (1,999) [.d (.agg (unc (r,a,(q:Int)-a)))] (push hp (W x)) (fun r' H'=>r'=.v (B true)∧H'=push hp (W (stp x (r,a,(q:Int)-a)))) (fun y=>y=(1,5000)):=fun hp hqq=>by
     have:=hY hp x _ hqq (i2 a0) hu
     rwa [hg]at this
    have ih':=ih (q+(Utf8.decode s q).2,((Utf8.decode s q).1:Nat),(q:Nat),stp x (r,a,(q:Int)-a)) ⟨by simp only;omega,fun _=>by have:=hok _ _ hu (i2 a0) hg;simp only at this;rwa [show a+((q:Int)-a)=(q:Nat) by omega]at this,.inr ⟨by simp only;omega,by simp only;omega,by simp only;omega,by simp only;omega,by
     rw[hd]at hrun
     simp only[unF]at hrun
     rw[show((q+(Utf8.decode s q).2:Nat):Int)-(q:Nat)=((Utf8.decode s q).2:Nat) by omega]
     exact hrun⟩⟩ (by simp only;omega)
    repeat' first|(apply z05;first|refine zgc (mv:=(0,5000)) (hy _ (by rfl)) rfl rfl rfl rfl (by decide) ?_|refine z0n ?_| (apply z0a;first|refine z02 z16 rfl rfl ?_| refine z02 z1y rfl rfl ?_)|(apply z0c;refine z02 z0i rfl rfl ?_)|(apply z0t;refine z02 (z2l z1h) rfl rfl ?_)|(apply z0f;refine z25 ?_)|(apply z1n;refine z2y ?_)|refine z3e hlt rfl rfl (by decide) ?_)|(apply z06;first|refine z0m ?_|apply z09|refine z1g ?_| refine z1p (fun _=>?_) fun _=>?_)|(apply z07;first|apply z08|apply z00|refine z1j ?_| refine z15 ?_| apply z04|apply z01|apply z03)
    all_goals exact zD23
   | false =>
    rw[zAy (by rw[hg];decide)]at hrun
    have hy:∀hp:Hp,z3u (1,5000) hp=true→zhd prog (1,999) [.d (.agg (unc (r,a,(q:Int)-a)))] (push hp (W x)) (fun r' H'=>r'=.v (B false)∧H'=push hp (W (stp x (r,a,(q:Int)-a)))) (fun y=>y=(1,5000)):=fun hp hqq=>by
     have:=hY hp x _ hqq (i2 a0) hu
     rwa [hg]at this
    repeat' first|(apply z05;first|refine zgc (mv:=(0,5000)) (hy _ (by rfl)) rfl rfl rfl rfl (by decide) ?_|refine z0n ?_| (apply z0a;first|refine z02 z16 rfl rfl ?_| refine z02 z1y rfl rfl ?_)|(apply z0c;refine z02 z0i rfl rfl ?_)|(apply z0t;refine z02 (z2l z1h) rfl rfl ?_)|(apply z0f;refine z25 ?_)|(apply z1n;refine z2y ?_)|refine z3e hlt rfl rfl (by decide) ?_)|(apply z06;first|refine z0m ?_|apply z09|refine z1g ?_| refine z1p (fun _=>?_) fun _=>?_)|(apply z07;first|apply z08|apply z00|refine z1j ?_| refine z15 ?_| apply z04|apply z01|apply z03)
    all_goals try omega
    all_goals exact z0e func167 _ (z4j rfl) ⟨rfl,congrArg W hrun⟩
 ·obtain rfl:q=s.size:=by omega
  have hd:=z68 (s:=s) (i:=s.size) (zAj _)
  rcases i3 with⟨h1,rfl,rfl⟩|⟨a0,a1,r0,r1,hrun⟩
  ·rw[←h1,hd]at hT
   simp only[unF,zkk]at hT
   repeat' first|(apply z05;first|refine z0n ?_| (apply z0a;first|refine z02 (z16 (b:=.box [S s])) rfl (bkN hwx) ?_| refine z02 z16 rfl rfl ?_)|(apply z0c;refine z02 z0i rfl rfl ?_)|(apply z0t;refine z02 (z2l z1h) rfl rfl ?_)|(apply z0s;refine z02 (z63 rfl) rfl rfl ?_)|(apply z0f;refine z25 ?_)|refine z3f hlt rfl rfl (by decide) ?_)|(apply z06;first|refine z0m ?_|apply z09)|(apply z07;first|apply z08|apply z00|refine z15 ?_| apply z04|refine z0o ?_)
   all_goals try omega
   all_goals exact zcc func167 _ (z4j rfl) ⟨rfl,congrArg W hT⟩
  ·have hu:y1k s (r,a,(s.size:Int)-a):=⟨r0,r1,a0,by simp only;omega,by simp only;omega⟩
   rw[hd]at hrun
   simp only[unF,zkk,ite_self]at hrun
   repeat' first|(apply z05;first|refine zgc (mv:=(0,5000)) (hY _ x (r,a,(s.size:Int)-a) (by rfl) (i2 a0) hu) rfl rfl rfl rfl (by decide) ?_|refine z0n ?_| (apply z0a;first|refine z02 (z16 (b:=.box [S s])) rfl (bkN hwx) ?_| refine z02 z16 rfl rfl ?_| refine z02 z1y rfl rfl ?_)|(apply z0c;refine z02 z0i rfl rfl ?_)|(apply z0t;refine z02 (z2l z1h) rfl rfl ?_)|(apply z0s;refine z02 (z63 rfl) rfl rfl ?_)|(apply z0f;refine z25 ?_)|refine z3f hlt rfl rfl (by decide) ?_)|(apply z06;first|refine z0m ?_|apply z09)|(apply z07;first|apply z08|apply z00|refine z15 ?_| apply z04|refine z0h (fun _=>?_) (fun _=>?_)| refine z0o ?_)
   all_goals try omega
   all_goals exact zcc func167 _ (z4j rfl) ⟨rfl,congrArg W hrun⟩
theorem zen{hp:Hp}{up:Hf}(c:Nat){q:Blk}:upd (push hp up) (0,c) q=push ((c,q)::hp) up:=by
 funext d s
 cases d with
 | zero =>
  simp only[upd,push,Ab.look,true_and]
  by_cases h1:s=c
  ·rw[zAz h1,zAz h1.symm]
  ·rw[zAy h1,zAy (Ne.symm h1)]
 | succ d=>simp[upd,push]
def atR(s:ByteArray)(i:Nat):PV:=match(unF 0 (rst s 0))[i]? with
 | some u=>.tup [I .i32 u.1,I .i64 u.2.1,I .i64 u.2.2,B true]
 | none=>.tup [I .i32 0,I .i64 0,I .i64 0,B false]
noncomputable def zqa:Code:=match f119.body with|some (.seq _ (.seq (.seq _ (.block _ (.rangeFunc _ _ a _))) _))=>a|_=>.skip
noncomputable def zis:Code:=match f119.body with|some (.seq _ (.seq (.seq _ (.block _ (.rangeFunc _ _ _ b))) _))=>b|_=>.skip
def zoo:List (Nat × PV):=[(3,.ptr (0,3) 0),(4,.ptr (0,4) 0),(5,.ptr (0,5) 0),(6,.ptr (0,6) 0),(7,.ptr (0,7) 0)]
noncomputable def zlv(state:LoopState)(j:Option Code):Blk:=.lp 22 119 #[11] zqa zis zoo state j
inductive AtS where
 | run (i:Nat)
 | fin (u:Un)
noncomputable def atW(s:ByteArray)(H:Hf):AtS→Hf
 | .run i=>push [(999,zlv .ready none),(7,.box [B false]),(6,.box [I .i64 0]),(5,.box [I .i64 0]),(4,.box [I .i32 0]),(3,.box [I .i64 (i:Nat)]),(901,.box [S s])] H
 | .fin u=>push [(999,zlv .done (some .ret)),(7,.box [B true]),(6,.box [I .i64 u.2.2]),(5,.box [I .i64 u.2.1]),(4,.box [I .i32 u.1]),(3,.box [I .i64 0]),(901,.box [S s])] H
def y4e:AtS→Un→Bool
 | .run 0,_=>false
 | .run (_+1),_=>true
 | .fin _,_=>false
def znj:AtS→Un→AtS
 | .run 0,u=>.fin u
 | .run (i+1),_=>.run i
 | .fin v,_=>.fin v
def y6k:AtS→Prop
 | .run i=>i≤1000000
 | .fin _=>False
theorem zw6:∀(l:List Un) (i:Nat),zkk y4e znj (.run i) l=match l[i]? with|some u=>.fin u|none=>.run (i-l.length)
 | [],i=>by simp[zkk]
 | u::l,0=>by rw[zkk,zAy (by simp[y4e])];rfl
 | u::l,i+1=>by
  rw[zkk,zAz (by rfl),show znj (.run (i+1)) u=.run i from rfl,zw6 l i,List.getElem?_cons_succ,zAk,show i+1-(l.length+1)=i-l.length by omega]
theorem ztn(s:ByteArray)(H:Hf)(hp:Hp)(x:AtS)(u:Un)(hx:y6k x):zhd prog (1,999) [.d (.agg (unc u))] (push hp (atW s H x)) (fun r H'=>r=.v (B (y4e x u))∧H'=push hp (atW s H (znj x u))) (fun y=>y=(1,5000)):=by
 match x,hx with
 | .run 0,_ =>
  refine y28 (n':=22) (f':=119) (t0:=11) (asg:=zqa) (body:=zis) (st:=zoo) (pend:=none) (R2:=fun r H'=>r=.v (B false)∧H'=upd (upd (upd (upd (upd (push hp (atW s H (.run 0))) (1,999) (zlv .busy none)) (1,4) (.box [I .i32 u.1])) (1,5) (.box [I .i64 u.2.1])) (1,6) (.box [I .i64 u.2.2])) (1,7) (.box [B true])) rfl (by decide) (by simp) ?_ ?_ ?_ ?_
  ·rw[show z3j (1+1) zoo=[(3,.ptr (2,3) 0),(4,.ptr (2,4) 0),(5,.ptr (2,5) 0),(6,.ptr (2,6) 0),(7,.ptr (2,7) 0)] by simp[zoo,z3j,PV.lift]]
   dsimp only[zqa,zis,f119]
   have hb3:upd (push hp (atW s H (.run 0))) (1,999) (zlv .busy none) 1 3=some (.box [I .i64 0]):=rfl
   repeat' first|(apply z05;first|(apply z0f;refine z25 ?_)|(apply z0l;refine z0b z2e ?_))|(apply z06;first|refine z0m ?_|apply z09)|(apply z07;apply z00)
   refine zea rfl rfl ?_
   change Run _ _ _ _ ⟨_,_,_,upd (push hp (atW s H (.run 0))) (1,999) (zlv .busy none)⟩
   have hb4:upd (push hp (atW s H (.run 0))) (1,999) (zlv .busy none) 1 4=some (.box [I .i32 0]):=rfl
   have hb5:upd (push hp (atW s H (.run 0))) (1,999) (zlv .busy none) 1 5=some (.box [I .i64 0]):=rfl
   have hb6:upd (push hp (atW s H (.run 0))) (1,999) (zlv .busy none) 1 6=some (.box [I .i64 0]):=rfl
   have hb7:upd (push hp (atW s H (.run 0))) (1,999) (zlv .busy none) 1 7=some (.box [B false]):=rfl
   generalize upd (push hp (atW s H (.run 0))) (1,999) (zlv .busy none)=V at *
   repeat' first|(apply z05;first|refine z0n ?_| (apply z0a;refine z02 (z16 (b:=.box [I .i64 0])) rfl (bkN hb3) ?_))|(apply z06;first|refine z0m ?_|apply z09)|(apply z07;first|apply z08|apply z00|refine z1j ?_| apply z01|apply z2o)|(apply z2m;first|(apply z1e;refine z2c mix ?_)|(apply z0v;refine z0x z16 rfl rfl ?_)|(apply z0u;refine z0x z0i rfl rfl ?_)|(apply z2r;first|refine zd4 (raw':=.box [B true]) (by first|exact rfl|exact⟨_,rfl,rfl,rfl⟩) rfl (z14 (z14 (z14 hb7 (by simp)) (by simp)) (by simp)) rfl rfl rfl rfl rfl rfl ?_|refine zd4 (raw':=.box [I .i64 u.2.2]) (by first|exact rfl|exact⟨_,rfl,rfl,rfl⟩) rfl (z14 (z14 hb6 (by simp)) (by simp)) rfl rfl rfl rfl rfl rfl ?_|refine zd4 (raw':=.box [I .i64 u.2.1]) (by first|exact rfl|exact⟨_,rfl,rfl,rfl⟩) rfl (z14 hb5 (by simp)) rfl rfl rfl rfl rfl rfl ?_|refine zd4 (raw':=.box [I .i32 u.1]) (by first|exact rfl|exact⟨_,rfl,rfl,rfl⟩) rfl hb4 rfl rfl rfl rfl rfl rfl ?_))
   all_goals try omega
   all_goals exact zdp rfl ⟨rfl,rfl⟩
  ·rintro H' ⟨h,_⟩;cases h
  ·rintro H' ⟨_,rfl⟩
   refine⟨zoo,none,z14 (z14 (z14 (z14 (z4s _ _ _) (by simp)) (by simp)) (by simp)) (by simp),rfl,?_⟩
   funext d t
   match d with
   | 0=>rfl
   | d+2=>rfl
   | 1 =>
    by_cases h1:t=999
    ·subst h1;rfl
    by_cases h2:t=7
    ·subst h2;rfl
    by_cases h3:t=6
    ·subst h3;rfl
    by_cases h4:t=5
    ·subst h4;rfl
    by_cases h5:t=4
    ·subst h5;rfl
    have k1:=Ne.symm h1
    have k2:=Ne.symm h2
    have k3:=Ne.symm h3
    have k4:=Ne.symm h4
    have k5:=Ne.symm h5
    simp[upd,push,atW,znj,Ab.look,h1,h2,h3,h4,h5,k1,k2,k3,k4,k5]
  ·rintro id H' ⟨h,_⟩;cases h
 | .run (i+1),h =>
  have hi:i+1≤1000000:=h
  refine y28 (n':=22) (f':=119) (t0:=11) (asg:=zqa) (body:=zis) (st:=zoo) (pend:=none) (R2:=fun r H'=>r=.v (B true)∧H'=upd (upd (push hp (atW s H (.run (i+1)))) (1,999) (zlv .busy none)) (1,3) (.box [I .i64 (i:Nat)])) rfl (by decide) (by simp) ?_ ?_ ?_ ?_
  ·rw[show z3j (1+1) zoo=[(3,.ptr (2,3) 0),(4,.ptr (2,4) 0),(5,.ptr (2,5) 0),(6,.ptr (2,6) 0),(7,.ptr (2,7) 0)] by simp[zoo,z3j,PV.lift]]
   dsimp only[zqa,zis,f119]
   repeat' first|(apply z05;first|(apply z0f;refine z25 ?_)|(apply z0l;refine z0b z2e ?_))|(apply z06;first|refine z0m ?_|apply z09)|(apply z07;apply z00)
   refine zea rfl rfl ?_
   change Run _ _ _ _ ⟨_,_,_,upd (push hp (atW s H (.run (i+1)))) (1,999) (zlv .busy none)⟩
   have hb3:upd (push hp (atW s H (.run (i+1)))) (1,999) (zlv .busy none) 1 3=some (.box [I .i64 ((i+1:Nat):Int)]):=rfl
   generalize upd (push hp (atW s H (.run (i+1)))) (1,999) (zlv .busy none)=V at *
   repeat' first|(apply z05;first|refine z0n ?_| (apply z0a;refine z02 (z16 (b:=.box [I .i64 ((i+1:Nat):Int)])) rfl (bkN hb3) ?_)|(apply z0t;refine z02 (z2l z1h) rfl rfl ?_)|(apply z0f;refine z5k (raw':=.box [I .i64 (((i+1:Nat):Int)-1)]) rfl hb3 rfl rfl rfl rfl rfl rfl ?_))|(apply z06;first|refine z0m ?_|apply z09)|(apply z07;first|apply z08|apply z00|refine z15 ?_| apply z04|apply z01|apply z03)
   all_goals try omega
   all_goals (rw[show((i+1:Nat):Int)-1=(i:Nat) by omega];exact zg5 rfl ⟨rfl,rfl⟩)
  ·rintro H' ⟨_,rfl⟩
   refine⟨zoo,none,z14 (z4s _ _ _) (by simp),rfl,?_⟩
   funext d t
   match d with
   | 0=>rfl
   | d+2=>rfl
   | 1 =>
    by_cases h1:t=999
    ·subst h1;rfl
    by_cases h2:t=7
    ·subst h2;rfl
    by_cases h3:t=6
    ·subst h3;rfl
    by_cases h4:t=5
    ·subst h4;rfl
    by_cases h5:t=4
    ·subst h5;rfl
    by_cases h6:t=3
    ·subst h6;rfl
    have k1:=Ne.symm h1
    have k2:=Ne.symm h2
    have k3:=Ne.symm h3
    have k4:=Ne.symm h4
    have k5:=Ne.symm h5
    have k6:=Ne.symm h6
    simp[upd,push,atW,znj,Ab.look,h1,h2,h3,h4,h5,h6,k1,k2,k3,k4,k5,k6]
  ·rintro H' ⟨h,_⟩;cases h
  ·rintro id H' ⟨h,_⟩;cases h
theorem y6s(s:ByteArray)(hs:s.size≤1000000)(i:Nat)(hi:i≤1000000):z0q prog 119 [S s,I .i64 (i:Nat)] (atR s i):=by
 refine z0y fun H=>?_
 refine z0g func119 (by kernel_rfl) rfl (by simp) ?_
 dsimp only[f119]
 refine zhi 901 ?_
 have h37:∀(hp:Hp),Ab.look hp 901=some Blk.gone→z3u (0,901) hp=true→z9r prog 145 [S s] (push hp H) ⟨fun r H'=>r=.v (.fn (.func 167) [] [.ptr (0,901) 0])∧H'=push ((901,.box [S s])::hp) H,fun x=>x=(0,901)∨x=(0,902),none⟩:=by
  exact zD34
 repeat' first|(apply z05;first|refine zl3 (h37 _ rfl rfl) rfl rfl rfl (by decide) ?_|refine z0n ?_| (apply z0l;refine z0b z2e ?_)|(apply z18;refine z0b z43 ?_))|(apply z06;first|refine z0m ?_|apply z09)|(apply z07;first|apply z08|apply z00|apply z01)
 all_goals try omega
 refine z0d (tm':=[(3,.ptr (0,3) 0),(4,.ptr (0,4) 0),(5,.ptr (0,5) 0),(6,.ptr (0,6) 0),(7,.ptr (0,7) 0),(10,.fn (.func 167) [] [.ptr (0,901) 0])]) (hp':=[(7,.box [B false]),(6,.box [I .i64 0]),(5,.box [I .i64 0]),(4,.box [I .i32 0]),(3,.box [I .i64 (i:Nat)]),(901,.box [S s])]) ?_ rfl rfl
 have hsp:=zh5 s hs (fun _=>y6k) y4e znj (atW s H) (fun x=>by cases x <;> rfl) (fun x u _ h1 h2=>by
  match x,h1,h2 with
  | .run (i+1),h1,_=>have h1:i+1≤1000000:=h1;show i≤1000000;omega) (fun hp x u _ h1 h2=>ztn s H hp x u h1) (.run i) hi
 refine zae 999 5000 zoo rfl rfl rfl rfl rfl hsp (fun m h=>h) ?_
 rintro r H2 ⟨_,rfl⟩
 rw[zw6,atR]
 cases(unF 0 (rst s 0))[i]? with
 | some u =>
  refine⟨.done,some .ret,zoo,_,H,rfl,by simp,?_⟩
  exact z0e func119 _ (ziq rfl rfl rfl rfl rfl rfl rfl rfl rfl rfl rfl rfl rfl rfl rfl rfl rfl) ⟨rfl,rfl⟩
 | none =>
  refine⟨.ready,none,zoo,_,H,rfl,by simp,?_⟩
  refine z0d (tm':=[(3,.ptr (0,3) 0),(4,.ptr (0,4) 0),(5,.ptr (0,5) 0),(6,.ptr (0,6) 0),(7,.ptr (0,7) 0)]) (hp':=[(7,.box [B false]),(6,.box [I .i64 0]),(5,.box [I .i64 0]),(4,.box [I .i32 0])]) ?_ rfl rfl
  repeat' first|(apply z05;apply z0f;refine z25 ?_)|(apply z06;first|refine z0m ?_|apply z09)|(apply z07;first|apply z08|apply z00|apply z03)
  all_goals try omega
  all_goals exact z0e func119 _ (ziq rfl rfl rfl rfl rfl rfl rfl rfl rfl rfl rfl rfl rfl rfl rfl rfl rfl) ⟨rfl,rfl⟩
def okU(u:Un):Bool:=!decide (u.1=65533)||decide (u.2.2=3)
theorem zut(u:Un):z0q prog 171 [.d (.agg (unc u))] (B (okU u)):=by
 refine z0y fun H=>?_
 refine z0g func171 (by kernel_rfl) rfl (by simp) ?_
 dsimp only[f171]
 rw[okU]
 by_cases h:u.1=65533
 ·rw[zAi h,Bool.not_true,Bool.false_or]
  all_goals exact zD36
 ·rw[zAo h,Bool.not_false,Bool.true_or]
  all_goals exact zD36
noncomputable def zrm:Code:=match f151.body with|some (.seq _ (.seq (.seq _ (.block _ (.rangeFunc _ _ a _))) _))=>a|_=>.skip
noncomputable def ziw:Code:=match f151.body with|some (.seq _ (.seq (.seq _ (.block _ (.rangeFunc _ _ _ b))) _))=>b|_=>.skip
def zom:List (Nat × PV):=[(2,.ptr (0,2) 0)]
noncomputable def zu4(state:LoopState)(j:Option Code):Blk:=.lp 10 151 #[6] zrm ziw zom state j
noncomputable def vaW(s:ByteArray)(H:Hf):Bool→Hf
 | true=>push [(999,zu4 .ready none),(2,.box [B false]),(901,.box [S s])] H
 | false=>push [(999,zu4 .done (some .ret)),(2,.box [B false]),(901,.box [S s])] H
theorem zw2:∀l:List Un,zkk (fun(_:Bool) u=>okU u) (fun _ u=>okU u) true l=l.all okU
 | []=>rfl
 | u::l=>by
  rw[zkk,List.all_cons]
  cases h:okU u with
  | true=>rw[zAz rfl,zw2 l];rfl
  | false=>rw[zAy (by decide)];rfl
theorem zu6(s:ByteArray)(H:Hf)(hp:Hp)(u:Un):zhd prog (1,999) [.d (.agg (unc u))] (push hp (vaW s H true)) (fun r H'=>r=.v (B (okU u))∧H'=push hp (vaW s H (okU u))) (fun y=>y=(1,5000)):=by
 have huv:=zut u
 cases ho:okU u with
 | false =>
  rw[ho]at huv
  refine y28 (n':=10) (f':=151) (t0:=6) (asg:=zrm) (body:=ziw) (st:=zom) (pend:=none) (R2:=fun r H'=>r=.v (B false)∧H'=upd (upd (push hp (vaW s H true)) (1,999) (zu4 .busy none)) (1,2) (.box [B false])) rfl (by decide) (by simp) ?_ ?_ ?_ ?_
  ·rw[show z3j (1+1) zom=[(2,.ptr (2,2) 0)] by simp[zom,z3j,PV.lift]]
   dsimp only[zrm,ziw,f151]
   repeat' first|(apply z05;first|(apply z0f;refine z25 ?_)|(apply z0l;refine z0b z2e ?_))|(apply z06;first|refine z0m ?_|apply z09)|(apply z07;apply z00)
   refine zea rfl rfl ?_
   change Run _ _ _ _ ⟨_,_,_,upd (push hp (vaW s H true)) (1,999) (zu4 .busy none)⟩
   have hb2:upd (push hp (vaW s H true)) (1,999) (zu4 .busy none) 1 2=some (.box [B false]):=rfl
   generalize upd (push hp (vaW s H true)) (1,999) (zu4 .busy none)=V at *
   repeat' first|(apply z05;first|refine z0n ?_| (apply z0a;refine z02 z1y rfl rfl ?_)|(apply z0j;refine z29 huv ?_)|(apply z0f;refine z5k (raw':=.box [B false]) rfl hb2 rfl rfl rfl rfl rfl rfl ?_))|(apply z06;first|refine z0m ?_|apply z09)|(apply z07;first|apply z08|apply z00|refine z1j ?_| apply z01)
   all_goals try omega
   all_goals exact zdp rfl ⟨rfl,rfl⟩
  ·rintro H' ⟨h,_⟩;cases h
  ·rintro H' ⟨_,rfl⟩
   refine⟨zom,none,z14 (z4s _ _ _) (by simp),rfl,?_⟩
   funext d t
   match d with
   | 0=>rfl
   | d+2=>rfl
   | 1 =>
    by_cases h1:t=999
    ·subst h1;rfl
    by_cases h2:t=2
    ·subst h2;rfl
    have k1:=Ne.symm h1
    have k2:=Ne.symm h2
    simp[upd,push,vaW,Ab.look,h1,h2,k1,k2]
  ·rintro id H' ⟨h,_⟩;cases h
 | true =>
  rw[ho]at huv
  refine y28 (n':=10) (f':=151) (t0:=6) (asg:=zrm) (body:=ziw) (st:=zom) (pend:=none) (R2:=fun r H'=>r=.v (B true)∧H'=upd (push hp (vaW s H true)) (1,999) (zu4 .busy none)) rfl (by decide) (by simp) ?_ ?_ ?_ ?_
  ·rw[show z3j (1+1) zom=[(2,.ptr (2,2) 0)] by simp[zom,z3j,PV.lift]]
   dsimp only[zrm,ziw,f151]
   repeat' first|(apply z05;first|(apply z0f;refine z25 ?_)|(apply z0l;refine z0b z2e ?_))|(apply z06;first|refine z0m ?_|apply z09)|(apply z07;apply z00)
   refine zea rfl rfl ?_
   change Run _ _ _ _ ⟨_,_,_,upd (push hp (vaW s H true)) (1,999) (zu4 .busy none)⟩
   generalize upd (push hp (vaW s H true)) (1,999) (zu4 .busy none)=V at *
   repeat' first|(apply z05;first|refine z0n ?_| (apply z0a;refine z02 z1y rfl rfl ?_)|(apply z0j;refine z29 huv ?_))|(apply z06;first|refine z0m ?_|apply z09)|(apply z07;first|apply z08|apply z00|refine z15 ?_| apply z04|apply z01|apply z03)
   all_goals try omega
   all_goals exact zg5 rfl ⟨rfl,rfl⟩
  ·rintro H' ⟨_,rfl⟩
   refine⟨zom,none,z4s _ _ _,rfl,?_⟩
   funext d t
   match d with
   | 0=>rfl
   | d+2=>rfl
   | 1 =>
    by_cases h1:t=999
    ·subst h1;rfl
    have k1:=Ne.symm h1
    simp[upd,push,vaW,Ab.look,h1,k1]
  ·rintro H' ⟨h,_⟩;cases h
  ·rintro id H' ⟨h,_⟩;cases h
theorem zxz(s:ByteArray)(hs:s.size≤1000000):z0q prog 151 [S s] (B ((unF 0 (rst s 0)).all okU)):=by
 refine z0y fun H=>?_
 refine z0g func151 (by kernel_rfl) rfl (by simp) ?_
 dsimp only[f151]
 refine zhi 901 ?_
 have h37:∀(hp:Hp),Ab.look hp 901=some Blk.gone→z3u (0,901) hp=true→z9r prog 145 [S s] (push hp H) ⟨fun r H'=>r=.v (.fn (.func 167) [] [.ptr (0,901) 0])∧H'=push ((901,.box [S s])::hp) H,fun x=>x=(0,901)∨x=(0,902),none⟩:=by
  exact zD34
 repeat' first|(apply z05;first|refine zl3 (h37 _ rfl rfl) rfl rfl rfl (by decide) ?_|refine z0n ?_| (apply z0l;refine z0b z2e ?_))|(apply z06;first|refine z0m ?_|apply z09)|(apply z07;first|apply z08|apply z00|apply z01)
 all_goals try omega
 refine z0d (tm':=[(2,.ptr (0,2) 0),(5,.fn (.func 167) [] [.ptr (0,901) 0])]) (hp':=[(2,.box [B false]),(901,.box [S s])]) ?_ rfl rfl
 have hsp:=zh5 s hs (fun _ b=>b=true) (fun(_:Bool) u=>okU u) (fun _ u=>okU u) (vaW s H) (fun x=>by cases x <;> rfl) (fun x u _ h1 h2=>h2) (fun hp x u _ h1 h2=>by subst h1;exact zu6 s H hp u) true rfl
 refine zae 999 5000 zom rfl rfl rfl rfl rfl hsp (fun m h=>h) ?_
 rintro r H2 ⟨_,rfl⟩
 rw[zw2]
 cases(unF 0 (rst s 0)).all okU with
 | false =>
  refine⟨.done,some .ret,zom,_,H,rfl,by simp,?_⟩
  exact z0e func151 _ (zjl rfl rfl rfl rfl rfl) ⟨rfl,rfl⟩
 | true =>
  refine⟨.ready,none,zom,_,H,rfl,by simp,?_⟩
  refine z0d (tm':=[(2,.ptr (0,2) 0)]) (hp':=[(2,.box [B false])]) ?_ rfl rfl
  repeat' first|(apply z05;apply z0f;refine z25 ?_)|(apply z06;first|refine z0m ?_|apply z09)|(apply z07;first|apply z08|apply z00|apply z03)
  all_goals try omega
  all_goals exact z0e func151 _ (zjl rfl rfl rfl rfl rfl) ⟨rfl,rfl⟩
theorem zy7(r:Int)(h0:0≤r)(h1:r≤1114111):z0q prog 173 [I .i32 r] (I .i32 (z65 r)):=by
 refine z0y fun H=>?_
 refine z0g func173 (by kernel_rfl) rfl (by simp) ?_
 dsimp only[f173]
 rw[z65]
 by_cases hc:zps r
 ·rw[zAz hc]
  rw[zps]at hc
  all_goals exact zD10
 ·rw[zAy hc]
  rw[zps]at hc
  by_cases hd:1024≤r∧r≤1039
  ·rw[zAz hd]
   all_goals exact zD10
  ·rw[zAy hd]
   all_goals exact zD10
def inB(l:List Rg)(c:Int):Bool:=l.any fun r=>decide (r.1≤c)&&decide (c≤r.2)
theorem zo9(l:List Rg)(hl:l.length≤9223372036854775807)(c:Int):z0q prog 154 [.d (rgs l),I .i32 c] (B (inB l c)):=by
 refine z0y fun H=>?_
 refine z0g func154 (by kernel_rfl) rfl (by simp) ?_
 dsimp only[f154]
 repeat' first|(apply z05;first|refine z0n ?_| (apply z0s;refine z02 (z0w rfl) rfl rfl ?_))|(apply z06;first|refine z0m ?_|apply z09)|(apply z07;first|apply z08|apply z00|apply z01)
 all_goals try omega
 refine z0r ?_
 refine z0d (z1o (fun q:Nat=>⟨24,[(1,I .i32 c),(7,.d (rgs l)),(8,I .i64 l.length),(9,I .i64 (q:Nat))],[],H⟩) (fun q=>q≤l.length∧inB (l.drop q) c=inB l c) (fun q=>l.length-q) ?_ 0 ⟨zAf _,rfl⟩) rfl rfl
 intro q ⟨i1,i2⟩ ih
 by_cases hlt:q<l.length
 ·obtain⟨r,hr⟩:∃r,l[q]? =some r:=⟨_,zA0 hlt⟩
  rw[drop_cons hr,inB,List.any_cons,←inB]at i2
  by_cases hc:r.1≤c∧c≤r.2
  ·rw[zAi hc.1,zAi hc.2,Bool.true_and,Bool.true_or]at i2
   rw[←i2]
   repeat' first|(apply z05;first|refine z0n ?_| (apply z0a;first|refine z02 z16 rfl rfl ?_| refine z02 z1w rfl rfl ?_)|(apply z0c;refine z02 z0i rfl rfl ?_)|(apply z0k;refine z02 (z1a (ys:=l.map rgc) rfl (idx hr)) rfl rfl ?_)|(apply z0t;refine z02 (z0z z1h) rfl rfl ?_)|(apply z0f;refine z25 ?_)|(apply z0l;refine z0b z2e ?_))|(apply z06;first|refine z0m ?_|apply z09|refine z1g ?_| refine z1p (fun _=>?_) fun _=>?_)|(apply z07;first|apply z08|apply z00|refine z15 ?_| apply z04|apply z01|apply z03|refine z0h (fun _=>?_) (fun _=>?_)| refine z0o ?_)
   all_goals try omega
   all_goals exact z0e func154 _ z0p ⟨rfl,rfl⟩
  ·have hf:(decide (r.1≤c)&&decide (c≤r.2))=false:=by
    rw[←Bool.decide_and];exact zAo hc
   rw[hf,Bool.false_or]at i2
   repeat' first|(apply z05;first|refine z0n ?_| (apply z0a;first|refine z02 z16 rfl rfl ?_| refine z02 z1w rfl rfl ?_)|(apply z0c;refine z02 z0i rfl rfl ?_)|(apply z0k;refine z02 (z1a (ys:=l.map rgc) rfl (idx hr)) rfl rfl ?_)|(apply z0t;refine z02 (z0z z1h) rfl rfl ?_)|(apply z0f;refine z25 ?_)|(apply z0l;refine z0b z2e ?_))|(apply z06;first|refine z0m ?_|apply z09|refine z1g ?_| refine z1p (fun _=>?_) fun _=>?_)|(apply z07;first|apply z08|apply z00|refine z15 ?_| apply z04|apply z01|apply z03|refine z0h (fun _=>?_) (fun _=>?_)| refine z0o ?_)
   all_goals try omega
   all_goals exact z0d (ih (q+1) ⟨by omega,i2⟩ (by omega)) rfl rfl
 ·obtain rfl:q=l.length:=by omega
  rw[zAs,inB,List.any_nil]at i2
  rw[←i2]
  repeat' first|(apply z05;refine z0n ?_)|(apply z06;first|refine z0m ?_|apply z09)|(apply z07;first|apply z08|apply z00|apply z04|apply z01|refine z0h (fun _=>?_) (fun _=>?_)| refine z0o ?_)
  all_goals try omega
  all_goals exact z0e func154 _ z0p ⟨rfl,rfl⟩
attribute [local irreducible] zal
noncomputable def zze:Code:=match f155.body with|some (.seq _ (.seq _ (.seq (.seq _ (.block _ (.rangeFunc _ _ a _))) _)))=>a|_=>.skip
noncomputable def zou:Code:=match f155.body with|some (.seq _ (.seq _ (.seq (.seq _ (.block _ (.rangeFunc _ _ _ b))) _)))=>b|_=>.skip
def zzj:List (Nat × PV):=[(1,.ptr (0,1) 0),(3,.ptr (0,3) 0)]
noncomputable def zzz(state:LoopState):Blk:=.lp 36 155 #[11] zze zou zzj state none
abbrev b8r(q:List Int):Blk:=.row 5 1 (q.map by8)
abbrev pcU(s:ByteArray)(u:Un):List Int:=btI (pcS s u.1 u.2.1 u.2.2)
noncomputable def y50(s:ByteArray)(q:List Int):Hp:=[(999,zzz .ready),(3,.box [.ref (0,5000)]),(5000,b8r q),(1,.box [S s]),(901,.box [S s])]
noncomputable def foW(s:ByteArray)(H:Hf)(q:List Int):Hf:=push (y50 s q) H
theorem zak{m:Nm}(k:Nat):∀ {hp:Hp} {t:Nat} {b:Blk},z3u m (hp.filter fun q=>!(q.1 == k))=true→Ab.look hp t=some b→t≠k→b.says m=false
 | [],t,b,_,h,_=>by simp[Ab.look]at h
 | (x,q)::r,t,b,hq,h,hn=>by
  simp only[Ab.look]at h
  by_cases hx:x=k
  ·subst hx
   simp only[List.filter,beq_self_eq_true,Bool.not_true]at hq
   rw[zAy (Ne.symm hn)]at h
   exact zak x hq h hn
  ·have:(!(x == k))=true:=by simpa using hx
   simp only[List.filter,this,z3u,zA7,zA6]at hq
   split at h
   ·simp at h;subst h;exact hq.1
   ·exact zak k hq.2 h hn
theorem zul(s:ByteArray)(hs:s.size≤1000000)(H:Hf)(hp:Hp)(q:List Int)(u:Un)(hqt:z3u (1,5000) hp=true)(hok:(q.length:Int)≤4*u.2.1)(hu:y1k s u) :
 zhd prog (1,999) [.d (.agg (unc u))] (push hp (foW s H q)) (fun r H'=>r=.v (B true)∧H'=push hp (foW s H (q++pcU s u))) (fun y=>y=(1,5000)):=by
 have hlow:=zy7 u.1 hu.r0 hu.r1
 obtain⟨z0,z1,z2,z3,z4⟩:=hu
 refine y28 (n':=36) (f':=155) (t0:=11) (asg:=zze) (body:=zou) (st:=zzj) (pend:=none) (R2:=fun r H'=>r=.v (B true)∧H'=upd (upd (push hp (foW s H q)) (1,999) (zzz .busy)) (1,5000) (b8r (q++pcU s u))) rfl (by decide) (by simp) ?_ ?_ ?_ ?_
 ·rw[show z3j (1+1) zzj=[(1,.ptr (2,1) 0),(3,.ptr (2,3) 0)] by simp[zzj,z3j,PV.lift]]
  dsimp only[zze,zou,f155]
  repeat' first|(apply z05;first|(apply z0f;refine z25 ?_)|(apply z0l;refine z0b z2e ?_))|(apply z06;first|refine z0m ?_|apply z09)|(apply z07;apply z00)
  refine zea rfl rfl ?_
  change Run _ _ _ _ ⟨_,_,_,upd (push hp (foW s H q)) (1,999) (zzz .busy)⟩
  have hb1:upd (push hp (foW s H q)) (1,999) (zzz .busy) 1 1=some (.box [S s]):=rfl
  have hb3:upd (push hp (foW s H q)) (1,999) (zzz .busy) 1 3=some (.box [.ref (0,5000)]):=rfl
  have hb5:upd (push hp (foW s H q)) (1,999) (zzz .busy) 1 5000=some (b8r q):=rfl
  obtain⟨U,hU⟩:∃U,upd (push hp (foW s H q)) (1,999) (zzz .busy)=U:=⟨_,rfl⟩
  rw[hU]at hb1 hb3 hb5⊢
  refine z0d (tm':=[(4,.ptr (0,4) 0),(1,.ptr (2,1) 0),(3,.ptr (2,3) 0)]) (hp':=[(4,.box ((unc u).map .d))]) ?_ rfl rfl
  refine z57 700 1 3 hb3 rfl rfl ?_
  refine z50 701 1 5000 (z14 hb5 (by simp)) rfl rfl ?_
  refine z4z 100701 rfl ?_
  refine z0d (tm':=[(4,.ptr (0,4) 0),(1,.ptr (2,1) 0),(3,.ptr (0,700) 0),(100700,.al (0,700) (2,3))]) (hp':=[(4,.box ((unc u).map .d)),(700,.box [.ref (0,701)]),(701,b8r q)]) ?_ rfl rfl
  obtain⟨V,hV⟩:∃V,upd (upd U (1,3) .gone) (1,5000) .gone=V:=⟨_,rfl⟩
  have v1:V 1 1=some (.box [S s]):=by rw[←hV];exact z14 (z14 hb1 (by simp)) (by simp)
  have v3:V 1 3=some .gone:=by rw[←hV];exact z14 (z4s _ (1,3) _) (by simp)
  have v5:V 1 5000=some .gone:=by rw[←hV];exact z4s _ (1,5000) _
  rw[hV]
  have hqV:za0 V (1,5000):=by
   intro x y b hx hb
   rw[←hV,←hU]at hb
   simp only[upd]at hb
   split at hb
   ·simp at hb;subst hb;rfl
   rename_i n1
   split at hb
   ·simp at hb;subst hb;rfl
   rename_i n2
   split at hb
   ·simp at hb;subst hb;rename_i n3;obtain⟨rfl,rfl⟩:=n3;rfl
   ·match x,hx with
    | 0,_=>exact z4o hqt hb
    | 1,_ =>
     have hb':Ab.look (y50 s q) y=some b:=hb
     refine zak 3 (m:=(0,5000)) ?_ hb' (by omega)
     rfl
  have hps:=zme s u.1 u.2.1 u.2.2 z2 z3 z4
  have hbl:=zhf (pcS s u.1 u.2.1 u.2.2)
  by_cases hl:z65 u.1=u.1
  ·have hpc:pcS s u.1 u.2.1 u.2.2=s.extract u.2.1.toNat (u.2.1+u.2.2).toNat:=by rw[pcS,zAz hl]
   rw[pcU,hpc]
   rw[hpc]at hps hbl
   repeat' (first | (apply z05; (first | refine z0n ?_| (apply z0a; (refine z02 z16 rfl rfl ?_)) | (apply z0c; (refine z02 z0i rfl rfl ?_)) | (apply z0s; ((refine zmr rfl rfl rfl rfl rfl rfl (by kernel_rfl) rfl (by decide) (by omega) ?_) /- z7l -/)) | (apply z0j; (refine z29 hlow ?_)) | (apply z0f; (refine z25 ?_)))) | (apply z06; (first | refine z0m ?_ | apply z09)) | (apply z07; (first | apply z08 | apply z00 | apply z01 | apply z2o | apply z03 | refine z38 rfl (fun _ => ?_) (fun _ => ?_))) | (apply z2m; (first | (apply z0v; (first | refine z0x (z16 (b := .box [S s])) rfl (bkN v1) ?_| refine z0x z16 rfl rfl ?_)) | (apply z0u; (refine z0x z0i rfl rfl ?_)) | (apply z3p; (refine z0x (z0z z1h) rfl rfl ?_)) | (apply z7b; (refine z0x (zga rfl (by omega) (by omega) (by omega)) rfl rfl ?_)) | (apply z3v; ((refine zbb mix (by kernel_rfl) ?_) /- zao -/)))))
   all_goals try omega
   refine z0d (tm':=[(100700,.al (0,700) (2,3))]) (hp':=[(700,.box [.ref (0,33)]),(33,b8r (q++btI _))]) ?_ rfl rfl
   refine zp2 33 1 5000 rfl v5 rfl rfl hqV ?_
   exact zD80
  ·have hpc:pcS s u.1 u.2.1 u.2.2=Utf8.encode (z65 u.1):=by rw[pcS,zAy hl]
   rw[pcU,hpc]
   rw[hpc]at hps hbl
   repeat' (first | (apply z05; (first | refine z0n ?_| (apply z0a; (refine z02 z16 rfl rfl ?_)) | (apply z0c; (refine z02 z0i rfl rfl ?_)) | (apply z0s; ((refine zmr rfl rfl rfl rfl rfl rfl (by kernel_rfl) rfl (by decide) (by omega) ?_) /- z7l -/)) | (apply z0j; (refine z29 hlow ?_)) | (apply z0f; (refine z25 ?_)) | (apply z9u; (refine z02 (zaw rfl rfl) rfl rfl ?_)))) | (apply z06; (first | refine z0m ?_ | apply z09)) | (apply z07; (first | apply z08 | apply z00 | apply z01 | apply z2o | apply z03 | refine z38 rfl (fun _ => ?_) (fun _ => ?_))) | (apply z2m; ((apply z0v; (refine z0x z16 rfl rfl ?_)))))
   all_goals try omega
   refine z0d (tm':=[(100700,.al (0,700) (2,3))]) (hp':=[(700,.box [.ref (0,22)]),(22,b8r (q++btI _))]) ?_ rfl rfl
   refine zp2 22 1 5000 rfl v5 rfl rfl hqV ?_
   exact zD80
 ·rintro H' ⟨_,rfl⟩
  refine⟨zzj,none,z14 (z4s _ _ _) (by simp),rfl,?_⟩
  rw[zd2 (by simp),z3g]
  funext d t
  match d with
  | 0=>rfl
  | d+2=>rfl
  | 1 =>
   by_cases h1:t=5000
   ·subst h1;rfl
   by_cases h2:t=999
   ·subst h2;rfl
   by_cases h3:t=3
   ·subst h3;rfl
   have k1:=Ne.symm h1
   have k2:=Ne.symm h2
   have k3:=Ne.symm h3
   simp[upd,push,foW,y50,Ab.look,h1,h2,h3,k1,k2,k3]
 ·rintro H' ⟨h,_⟩;cases h
 ·rintro id H' ⟨h,_⟩;cases h
def zik(s:ByteArray):List Int→List Un→List Int
 | q,[]=>q
 | q,u::l=>zik s (q++pcU s u) l
theorem zwj(s:ByteArray):∀(l:List Un) (q:List Int),zkk (fun(_:List Int) _=>true) (fun q u=>q++pcU s u) q l=zik s q l
 | [],q=>rfl
 | u::l,q=>by rw[zkk,zAz rfl,zwj s l];rfl
theorem zyz(s:ByteArray):btI s=(btN s).map fun x:Nat=>(x:Int):=by rw[btI,btN,List.map_map];rfl
theorem y3q(s:ByteArray):∀(f i:Nat) (q:List Int),s.size-i≤f→zik s q (unF i (rst s i))=q++(fd ((btN s).drop i)).map fun x:Nat=>(x:Int)
 | 0,i,q,h=>by
  rw[z68 (by omega),List.drop_eq_nil_of_le (by rw[z6v];omega)]
  simp[unF,zik,fd,fdL]
 | f+1,i,q,h=>by
  by_cases hi:i<s.size
  ·have hw:=zcv s i hi
   have hne:(btN s).drop i≠[]:=fun e=>by
    have:=congrArg List.length e
    rw[List.length_drop,z6v]at this;simp at this;omega
   rw[z9y hi,unF,zik,y3q s f _ _ (by simp only;omega),zkp hne,List.map_append,←zy0 s i hi,←zgj s i hi,List.drop_drop,zAl]
   congr 1
   congr 1
   rw[pcU,zyz]
  ·rw[z68 (s:=s) (i:=i) (by omega),List.drop_eq_nil_of_le (by rw[z6v];omega)]
   simp[unF,zik,fd,fdL]
theorem y42(s:ByteArray):strOfNums (zik s [] (unF 0 (rst s 0)))=za4 s:=by
 rw[y3q s s.size 0 [] (by omega),List.nil_append,List.drop_zero,za4,y0w,strOfNums,List.map_map]
 rfl
theorem zwa(s:ByteArray)(hs:s.size≤1000000):z0q prog 155 [S s] (S (za4 s)):=by
 refine z0y fun H=>?_
 refine z0g func155 (by kernel_rfl) rfl (by simp) ?_
 dsimp only[f155]
 refine zhi 901 ?_
 have h37:∀(hp:Hp),Ab.look hp 901=some Blk.gone→z3u (0,901) hp=true→z9r prog 145 [S s] (push hp H) ⟨fun r H'=>r=.v (.fn (.func 167) [] [.ptr (0,901) 0])∧H'=push ((901,.box [S s])::hp) H,fun x=>x=(0,901)∨x=(0,902),none⟩:=by
  exact zD34
 repeat' first|(apply z05;first|refine zl3 (h37 _ rfl rfl) rfl rfl rfl (by decide) ?_|refine z0n ?_| (apply z0a;refine z02 z16 rfl rfl ?_)|(apply z0s;refine z02 (z63 rfl) rfl rfl ?_)|(apply z0f;refine z25 ?_)|(apply z0l;refine z0b z2e ?_)|(apply z18;refine z0b z43 ?_)|refine zym rfl rfl (by omega) (by omega) (by omega) (by decide) rfl rfl (by decide) rfl ?_)|(apply z06;first|refine z0m ?_|apply z09)|(apply z07;first|apply z08|apply z00|apply z01)
 all_goals try omega
 refine z4n 8 5000 rfl rfl ?_
 refine z0d (tm':=[(1,.ptr (0,1) 0),(3,.ptr (0,3) 0),(10,.fn (.func 167) [] [.ptr (0,901) 0])]) (hp':=[(3,.box [.ref (0,5000)]),(5000,b8r []),(1,.box [S s]),(901,.box [S s])]) ?_ rfl rfl
 have hsp:=zh5 s hs (fun i q=>(q.length:Int)≤4*i) (fun _ _=>true) (fun q u=>q++pcU s u) (foW s H) (fun x=>rfl) (fun x u hu h1 _=>by
  have h2:=zme s u.1 u.2.1 u.2.2 hu.a0 hu.n1 hu.e
  have h3:=zhf (pcS s u.1 u.2.1 u.2.2)
  rw[zAa,pcU];omega) (fun hp x u hq h1 h2=>zul s hs H hp x u hq h1 h2) [] (by simp)
 refine zae 999 5000 zzj rfl rfl rfl rfl rfl hsp (fun m h=>h) ?_
 rintro r H2 ⟨_,rfl⟩
 rw[zwj]
 have hstr:=y42 s
 generalize zik s [] (unF 0 (rst s 0))=Q at *
 refine⟨.ready,none,zzj,_,H,rfl,by simp,?_⟩
 refine z0d (tm':=[(1,.ptr (0,1) 0),(3,.ptr (0,3) 0)]) (hp':=[(3,.box [.ref (0,5000)]),(5000,b8r Q)]) ?_ rfl rfl
 refine z1f 5000 rfl ?_
 repeat' first|(apply z05;first|refine z0n ?_| (apply z0a;refine z02 z16 rfl rfl ?_)|refine z02 (zzx rfl rfl rfl) rfl rfl ?_)|(apply z06;first|refine z0m ?_|apply z09)|(apply z07;first|apply z08|apply z00|apply z03)
 all_goals try omega
 all_goals exact z0e func155 _ z0p ⟨congrArg (fun b=>RV.v (S b)) hstr,rfl⟩
end Go.Proofs.YtonhfccmeammbaaGreatDoor
