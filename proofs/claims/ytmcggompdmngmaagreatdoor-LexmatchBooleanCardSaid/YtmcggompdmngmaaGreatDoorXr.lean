/- A part. -/
import Derived.Test.YtmcggompdmngmaaGreatDoorXt
set_option linter.all false
open Go.Proofs.Tryz
namespace Go.Proofs.YtmcggompdmngmaaGreatDoor
open Go.Ab Go.Rx
set_option maxHeartbeats 20000000
set_option maxRecDepth 100000
attribute [local irreducible] Run Ops Op1 z0y Val Tr z0a z0u NF Rel z27 z29
abbrev Un:=Int × Int × Int
abbrev unc(u:Un):List D:=[z1b u.1,z2i u.2.1,z2i u.2.2]
def unF:Nat→List U→List Un
 | _,[]=>[]
 | i,u::l=>(u.r,(i:Int),(u.n:Int))::unF (i+u.n) l
def zij{σ:Type}(go:σ→Un→Bool)(stp:σ→Un→σ):σ→List Un→σ
 | x,[]=>x
 | x,u::l=>if go x u=true then zij go stp (stp x u) l else stp x u
theorem zgj(s:ByteArray)(H:Hf)(h1:H 0 901=some .gone)(q1:z73 H (0,901)) :
 z9f prog 119 [S s] H ⟨fun r H'=>r=.v (.fn (.func 149) [] [.ptr (0,901) 0])∧H'=upd H (0,901) (.box [S s]),fun x=>x=(0,901)∨x=(0,902),none⟩:=by
 refine z4o func119 (by kernel_rfl) rfl (by simp) ?_
 dsimp only[f119]
 repeat' first|(apply z1n;refine z09 z3s ?_)|refine z04 ?_|(apply z0r;refine z7c rfl rfl (by decide) ?_)
 refine y4n 1 0 901 (q:=.box [S s]) rfl rfl h1 (.inl rfl) (by simp[z2m,Blk.says,PV.says,PV.saysL,PV.lift]) q1 ?_
 exact z03 func119 _ (y7h (.fn (.func 149) [] [.ptr (0,901) 0]) rfl rfl) ⟨rfl,rfl⟩
structure y72(s:ByteArray)(u:Un):Prop where
 r0:0≤u.1
 r1:u.1≤1114111
 a0:0≤u.2.1
 n1:1≤u.2.2
 e:u.2.1+u.2.2≤s.size
theorem zco{σ:Type}(s:ByteArray)(hs:s.size≤1000000)(ok:Int→σ→Prop)(go:σ→Un→Bool)(stp:σ→Un→σ)(W:σ→Hf)(hW:∀x,W x 0 901=some (.box [S s]))
 (hok:∀x u,y72 s u→ok u.2.1 x→go x u=true→ok (u.2.1+u.2.2) (stp x u))
 (hY:∀(hp:Hp) (x:σ) (u:Un),z2m (1,5000) hp=true→ok u.2.1 x→y72 s u→zf0 prog (1,999) [.d (.agg (unc u))] (push hp (W x)) (fun r H'=>r=.v (B (go x u))∧H'=push hp (W (stp x u))) fun y=>y=(1,5000))
 (x0:σ) (h0:ok 0 x0):z9f prog 149 [.yl (0,999),.ptr (0,901) 0] (W x0) ⟨fun r H'=>r=.v (.tup [])∧H'=W (zij go stp x0 (unF 0 (rst s 0))),fun x=>x=(0,5000),none⟩:=by
 refine z4o func149 (by kernel_rfl) rfl (by simp) ?_
 dsimp only[f149]
 have hw0:=hW x0
 obtain⟨T,hT⟩:∃T,zij go stp x0 (unF 0 (rst s 0))=T:=⟨_,rfl⟩
 rw[hT]
 repeat' first|(apply z1f;refine z07 (z4f (b:=.box [S s]) rfl rfl rfl rfl) rfl (bkN hw0) ?_)|refine z04 ?_|(apply z0r;refine z95 rfl rfl rfl (by decide) ?_)
 all_goals try omega
 refine z0f ?_
 refine z00 (z0s (fun q:Nat × Int × Int × σ=>⟨42,[(0,.yl (1,999)),(1,.ptr (1,901) 0),(3,.ptr (0,3) 0),(8,.ptr (0,8) 0)],[(3,.box [I .i32 q.2.1,I .i64 q.2.2.1,I .i64 0]),(8,.siter s q.1)],W q.2.2.2⟩)
  (fun q=>q.1≤s.size∧(0≤q.2.2.1→ok q.2.2.1 q.2.2.2)∧((q.1=0∧q.2.2.1=-1∧q.2.2.2=x0)∨(0≤q.2.2.1∧q.2.2.1<q.1∧0≤q.2.1∧q.2.1≤1114111∧zij go stp q.2.2.2 ((q.2.1,q.2.2.1,(q.1:Int)-q.2.2.1)::unF q.1 (rst s q.1))=T))) (fun q=>s.size-q.1) ?_ (0,0,-1,x0) ⟨zAf _,fun h=>by simp at h,.inl ⟨rfl,rfl,rfl⟩⟩) rfl rfl
 rintro⟨q,r,a,x⟩ ⟨i1,i2,i3⟩ ih
 simp only at i1 i2 i3 ih⊢
 have hwx:=hW x
 by_cases hlt:q<s.size
 ·have hd:=z5y hlt
  have hw:=z8r s q hlt
  have hdh:=zg7 s q
  rcases i3 with⟨rfl,rfl,rfl⟩|⟨a0,a1,r0,r1,hrun⟩
  ·have ih':=ih (0+(Utf8.decode s 0).2,((Utf8.decode s 0).1:Nat),0,x) ⟨by simp only;omega,fun _=>h0,.inr ⟨by simp,by simp only;omega,by simp only;omega,by simp only;omega,by
    rw[hd]at hT
    simp only[unF]at hT
    simp only[Int.sub_zero]
    rw[←hT];simp⟩⟩ (by simp only;omega)
   repeat' first|refine z04 ?_|(apply z0r;refine z1r hlt rfl rfl (by decide) ?_)
   all_goals exact zD8
  ·have hu:y72 s (r,a,(q:Int)-a):=⟨r0,r1,a0,by simp only;omega,by simp only;omega⟩
   rw[zij]at hrun
   cases hg:go x (r,a,(q:Int)-a)with
   | true =>
    rw[zAz hg]at hrun
    have hy:∀hp:Hp,z2m (1,5000) hp=true→zf0 prog (1,999) [.d (.agg (unc (r,a,(q:Int)-a)))] (push hp (W x)) (fun r' H'=>r'=.v (B true)∧H'=push hp (W (stp x (r,a,(q:Int)-a)))) (fun y=>y=(1,5000)):=fun hp hqq=>by
     have:=hY hp x _ hqq (i2 a0) hu
     rwa [hg]at this
    have ih':=ih (q+(Utf8.decode s q).2,((Utf8.decode s q).1:Nat),(q:Nat),stp x (r,a,(q:Int)-a)) ⟨by simp only;omega,fun _=>by have:=hok _ _ hu (i2 a0) hg;simp only at this;rwa [show a+((q:Int)-a)=(q:Nat) by omega]at this,.inr ⟨by simp only;omega,by simp only;omega,by simp only;omega,by simp only;omega,by
     rw[hd]at hrun
     simp only[unF]at hrun
     rw[show((q+(Utf8.decode s q).2:Nat):Int)-(q:Nat)=((Utf8.decode s q).2:Nat) by omega]
     exact hrun⟩⟩ (by simp only;omega)
    repeat' first|(apply z0r;refine zh5 (mv:=(0,5000)) (hy _ (by rfl)) rfl rfl rfl rfl (by decide) ?_)|refine z04 ?_|refine fk (fun _=>?_) (fun _=>?_)|(apply z0r;refine z1r hlt rfl rfl (by decide) ?_)
    all_goals exact zD8
   | false =>
    rw[zAy (by rw[hg];decide)]at hrun
    have hy:∀hp:Hp,z2m (1,5000) hp=true→zf0 prog (1,999) [.d (.agg (unc (r,a,(q:Int)-a)))] (push hp (W x)) (fun r' H'=>r'=.v (B false)∧H'=push hp (W (stp x (r,a,(q:Int)-a)))) (fun y=>y=(1,5000)):=fun hp hqq=>by
     have:=hY hp x _ hqq (i2 a0) hu
     rwa [hg]at this
    repeat' first|(apply z0r;refine zh5 (mv:=(0,5000)) (hy _ (by rfl)) rfl rfl rfl rfl (by decide) ?_)|refine z04 ?_|refine fk (fun _=>?_) (fun _=>?_)|(apply z0r;refine z1r hlt rfl rfl (by decide) ?_)
    all_goals try omega
    all_goals exact z03 func149 _ (z2o rfl) ⟨rfl,congrArg W hrun⟩
 ·obtain rfl:q=s.size:=by omega
  have hd:=z3i (s:=s) (i:=s.size) (zAj _)
  rcases i3 with⟨h1,rfl,rfl⟩|⟨a0,a1,r0,r1,hrun⟩
  ·rw[←h1,hd]at hT
   simp only[unF,zij]at hT
   repeat' first|(apply z1f;refine z07 (z4f (b:=.box [S s]) rfl rfl rfl rfl) rfl (bkN hwx) ?_)|refine z04 ?_|(apply z0r;refine z2l hlt rfl rfl (by decide) ?_)
   all_goals try omega
   all_goals exact ze8 func149 _ (z2o rfl) ⟨rfl,congrArg W hT⟩
  ·have hu:y72 s (r,a,(s.size:Int)-a):=⟨r0,r1,a0,by simp only;omega,by simp only;omega⟩
   rw[hd]at hrun
   simp only[unF,zij,ite_self]at hrun
   repeat' first|(apply z0r;refine zh5 (mv:=(0,5000)) (hY _ x (r,a,(s.size:Int)-a) (by rfl) (i2 a0) hu) rfl rfl rfl rfl (by decide) ?_)|(apply z1f;refine z07 (z4f (b:=.box [S s]) rfl rfl rfl rfl) rfl (bkN hwx) ?_)|refine z04 ?_|refine fk (fun _=>?_) (fun _=>?_)|(apply z0r;refine z2l hlt rfl rfl (by decide) ?_)
   all_goals try omega
   all_goals exact ze8 func149 _ (z2o rfl) ⟨rfl,congrArg W hrun⟩
theorem z9m{hp:Hp}{up:Hf}(c:Nat){q:Blk}:upd (push hp up) (0,c) q=push ((c,q)::hp) up:=by
 funext d s
 cases d with
 | zero =>
  simp only[upd,push,Ab.look,true_and]
  by_cases h1:s=c
  ·rw[zAz h1,zAz h1.symm]
  ·rw[zAy h1,zAy (Ne.symm h1)]
 | succ d=>simp[upd,push]
def atR(s:ByteArray)(i:Nat):PV:=match(unF 0 (rst s 0))[i]? with
 | some u=>.tup [I .i32 u.1,I .i64 u.2.1,I .i64 u.2.2,B true]
 | none=>.tup [I .i32 0,I .i64 0,I .i64 0,B false]
noncomputable def zv9:Code:=match f86.body with|some (.seq _ (.seq (.seq _ (.block _ (.rangeFunc _ _ a _))) _))=>a|_=>.skip
noncomputable def zjp:Code:=match f86.body with|some (.seq _ (.seq (.seq _ (.block _ (.rangeFunc _ _ _ b))) _))=>b|_=>.skip
def zr6:List (Nat × PV):=[(3,.ptr (0,3) 0),(4,.ptr (0,4) 0),(5,.ptr (0,5) 0),(6,.ptr (0,6) 0),(7,.ptr (0,7) 0)]
noncomputable def zpd(state:LoopState)(j:Option Code):Blk:=.lp 22 86 #[11] zv9 zjp zr6 state j
inductive AtS where
 | run (i:Nat)
 | fin (u:Un)
noncomputable def atW(s:ByteArray)(H:Hf):AtS→Hf
 | .run i=>push [(999,zpd .ready none),(7,.box [B false]),(6,.box [I .i64 0]),(5,.box [I .i64 0]),(4,.box [I .i32 0]),(3,.box [I .i64 (i:Nat)]),(901,.box [S s])] H
 | .fin u=>push [(999,zpd .done (some .ret)),(7,.box [B true]),(6,.box [I .i64 u.2.2]),(5,.box [I .i64 u.2.1]),(4,.box [I .i32 u.1]),(3,.box [I .i64 0]),(901,.box [S s])] H
def yb1:AtS→Un→Bool
 | .run 0,_=>false
 | .run (_+1),_=>true
 | .fin _,_=>false
def zql:AtS→Un→AtS
 | .run 0,u=>.fin u
 | .run (i+1),_=>.run i
 | .fin v,_=>.fin v
def yd9:AtS→Prop
 | .run i=>i≤1000000
 | .fin _=>False
theorem y24:∀(l:List Un) (i:Nat),zij yb1 zql (.run i) l=match l[i]? with|some u=>.fin u|none=>.run (i-l.length)
 | [],i=>by simp[zij]
 | u::l,0=>by rw[zij,zAy (by simp[yb1])];rfl
 | u::l,i+1=>by
  rw[zij,zAz (by rfl),show zql (.run (i+1)) u=.run i from rfl,y24 l i,List.getElem?_cons_succ,zAk,show i+1-(l.length+1)=i-l.length by omega]
theorem y0a(s:ByteArray)(H:Hf)(hp:Hp)(x:AtS)(u:Un)(hx:yd9 x):zf0 prog (1,999) [.d (.agg (unc u))] (push hp (atW s H x)) (fun r H'=>r=.v (B (yb1 x u))∧H'=push hp (atW s H (zql x u))) (fun y=>y=(1,5000)):=by
 match x,hx with
 | .run 0,_ =>
  refine y74 (n':=22) (f':=86) (t0:=11) (asg:=zv9) (body:=zjp) (st:=zr6) (pend:=none) (R2:=fun r H'=>r=.v (B false)∧H'=upd (upd (upd (upd (upd (push hp (atW s H (.run 0))) (1,999) (zpd .busy none)) (1,4) (.box [I .i32 u.1])) (1,5) (.box [I .i64 u.2.1])) (1,6) (.box [I .i64 u.2.2])) (1,7) (.box [B true])) rfl (by decide) (by simp) ?_ ?_ ?_ ?_
  ·rw[show z1w (1+1) zr6=[(3,.ptr (2,3) 0),(4,.ptr (2,4) 0),(5,.ptr (2,5) 0),(6,.ptr (2,6) 0),(7,.ptr (2,7) 0)] by simp[zr6,z1w,PV.lift]]
   dsimp only[zv9,zjp,f86]
   have hb3:upd (push hp (atW s H (.run 0))) (1,999) (zpd .busy none) 1 3=some (.box [I .i64 0]):=rfl
   repeat' first|refine z04 ?_|fail
   refine zb6 rfl rfl ?_
   change Run _ _ _ _ ⟨_,_,_,upd (push hp (atW s H (.run 0))) (1,999) (zpd .busy none)⟩
   have hb4:upd (push hp (atW s H (.run 0))) (1,999) (zpd .busy none) 1 4=some (.box [I .i32 0]):=rfl
   have hb5:upd (push hp (atW s H (.run 0))) (1,999) (zpd .busy none) 1 5=some (.box [I .i64 0]):=rfl
   have hb6:upd (push hp (atW s H (.run 0))) (1,999) (zpd .busy none) 1 6=some (.box [I .i64 0]):=rfl
   have hb7:upd (push hp (atW s H (.run 0))) (1,999) (zpd .busy none) 1 7=some (.box [B false]):=rfl
   generalize upd (push hp (atW s H (.run 0))) (1,999) (zpd .busy none)=V at *
   repeat' first|(apply z1f;refine z07 (z4f (b:=.box [I .i64 0]) rfl rfl rfl rfl) rfl (bkN hb3) ?_)|(apply z10;first|refine zce (raw':=.box [B true]) (by first|exact rfl|exact⟨_,rfl,rfl,rfl⟩) rfl (z08 (z08 (z08 hb7 (by simp)) (by simp)) (by simp)) rfl rfl rfl rfl rfl rfl ?_|refine zce (raw':=.box [I .i64 u.2.2]) (by first|exact rfl|exact⟨_,rfl,rfl,rfl⟩) rfl (z08 (z08 hb6 (by simp)) (by simp)) rfl rfl rfl rfl rfl rfl ?_|refine zce (raw':=.box [I .i64 u.2.1]) (by first|exact rfl|exact⟨_,rfl,rfl,rfl⟩) rfl (z08 hb5 (by simp)) rfl rfl rfl rfl rfl rfl ?_|refine zce (raw':=.box [I .i32 u.1]) (by first|exact rfl|exact⟨_,rfl,rfl,rfl⟩) rfl hb4 rfl rfl rfl rfl rfl rfl ?_)|refine z04 ?_|fail
   all_goals try omega
   all_goals exact zd6 rfl ⟨rfl,rfl⟩
  ·rintro H' ⟨h,_⟩;cases h
  ·rintro H' ⟨_,rfl⟩
   refine⟨zr6,none,z08 (z08 (z08 (z08 (z1g _ _ _) (by simp)) (by simp)) (by simp)) (by simp),rfl,?_⟩
   funext d t
   match d with
   | 0=>rfl
   | d+2=>rfl
   | 1 =>
    by_cases h1:t=999
    ·subst h1;rfl
    by_cases h2:t=7
    ·subst h2;rfl
    by_cases h3:t=6
    ·subst h3;rfl
    by_cases h4:t=5
    ·subst h4;rfl
    by_cases h5:t=4
    ·subst h5;rfl
    have k1:=Ne.symm h1
    have k2:=Ne.symm h2
    have k3:=Ne.symm h3
    have k4:=Ne.symm h4
    have k5:=Ne.symm h5
    simp[upd,push,atW,zql,Ab.look,h1,h2,h3,h4,h5,k1,k2,k3,k4,k5]
  ·rintro id H' ⟨h,_⟩;cases h
 | .run (i+1),h =>
  have hi:i+1≤1000000:=h
  refine y74 (n':=22) (f':=86) (t0:=11) (asg:=zv9) (body:=zjp) (st:=zr6) (pend:=none) (R2:=fun r H'=>r=.v (B true)∧H'=upd (upd (push hp (atW s H (.run (i+1)))) (1,999) (zpd .busy none)) (1,3) (.box [I .i64 (i:Nat)])) rfl (by decide) (by simp) ?_ ?_ ?_ ?_
  ·rw[show z1w (1+1) zr6=[(3,.ptr (2,3) 0),(4,.ptr (2,4) 0),(5,.ptr (2,5) 0),(6,.ptr (2,6) 0),(7,.ptr (2,7) 0)] by simp[zr6,z1w,PV.lift]]
   dsimp only[zv9,zjp,f86]
   repeat' first|refine z04 ?_|fail
   refine zb6 rfl rfl ?_
   change Run _ _ _ _ ⟨_,_,_,upd (push hp (atW s H (.run (i+1)))) (1,999) (zpd .busy none)⟩
   have hb3:upd (push hp (atW s H (.run (i+1)))) (1,999) (zpd .busy none) 1 3=some (.box [I .i64 ((i+1:Nat):Int)]):=rfl
   generalize upd (push hp (atW s H (.run (i+1)))) (1,999) (zpd .busy none)=V at *
   repeat' first|(apply z1f;refine z07 (z4f (b:=.box [I .i64 ((i+1:Nat):Int)]) rfl rfl rfl rfl) rfl (bkN hb3) ?_)|(apply z0x;refine zmr (raw':=.box [I .i64 (((i+1:Nat):Int)-1)]) hb3 ?_)|refine z04 ?_|fail
   all_goals try omega
   all_goals (rw[show((i+1:Nat):Int)-1=(i:Nat) by omega];exact zd3 rfl ⟨rfl,rfl⟩)
  ·rintro H' ⟨_,rfl⟩
   refine⟨zr6,none,z08 (z1g _ _ _) (by simp),rfl,?_⟩
   funext d t
   match d with
   | 0=>rfl
   | d+2=>rfl
   | 1 =>
    by_cases h1:t=999
    ·subst h1;rfl
    by_cases h2:t=7
    ·subst h2;rfl
    by_cases h3:t=6
    ·subst h3;rfl
    by_cases h4:t=5
    ·subst h4;rfl
    by_cases h5:t=4
    ·subst h5;rfl
    by_cases h6:t=3
    ·subst h6;rfl
    have k1:=Ne.symm h1
    have k2:=Ne.symm h2
    have k3:=Ne.symm h3
    have k4:=Ne.symm h4
    have k5:=Ne.symm h5
    have k6:=Ne.symm h6
    simp[upd,push,atW,zql,Ab.look,h1,h2,h3,h4,h5,h6,k1,k2,k3,k4,k5,k6]
  ·rintro H' ⟨h,_⟩;cases h
  ·rintro id H' ⟨h,_⟩;cases h
theorem ydv(s:ByteArray)(hs:s.size≤1000000)(i:Nat)(hi:i≤1000000):z0a prog 86 [S s,I .i64 (i:Nat)] (atR s i):=by
 refine z0q fun H=>?_
 refine z05 func86 (by kernel_rfl) rfl (by simp) ?_
 dsimp only[f86]
 refine zcy 901 ?_
 have h37:∀(hp:Hp),Ab.look hp 901=some Blk.gone→z2m (0,901) hp=true→z9f prog 119 [S s] (push hp H) ⟨fun r H'=>r=.v (.fn (.func 149) [] [.ptr (0,901) 0])∧H'=push ((901,.box [S s])::hp) H,fun x=>x=(0,901)∨x=(0,902),none⟩:=by
  exact zD26
 repeat' first|(apply z0r;refine zia (h37 _ rfl rfl) rfl rfl rfl (by decide) ?_)|(apply z1s;refine z09 z4t ?_)|(apply z1n;refine z09 z3s ?_)|refine z04 ?_|fail
 all_goals try omega
 refine z00 (tm':=[(3,.ptr (0,3) 0),(4,.ptr (0,4) 0),(5,.ptr (0,5) 0),(6,.ptr (0,6) 0),(7,.ptr (0,7) 0),(10,.fn (.func 149) [] [.ptr (0,901) 0])]) (hp':=[(7,.box [B false]),(6,.box [I .i64 0]),(5,.box [I .i64 0]),(4,.box [I .i32 0]),(3,.box [I .i64 (i:Nat)]),(901,.box [S s])]) ?_ rfl rfl
 have hsp:=zco s hs (fun _=>yd9) yb1 zql (atW s H) (fun x=>by cases x <;> rfl) (fun x u _ h1 h2=>by
  match x,h1,h2 with
  | .run (i+1),h1,_=>have h1:i+1≤1000000:=h1;show i≤1000000;omega) (fun hp x u _ h1 h2=>y0a s H hp x u h1) (.run i) hi
 refine z6n 999 5000 zr6 rfl rfl rfl rfl rfl hsp (fun m h=>h) ?_
 rintro r H2 ⟨_,rfl⟩
 rw[y24,atR]
 cases(unF 0 (rst s 0))[i]? with
 | some u =>
  refine⟨.done,some .ret,zr6,_,H,rfl,by simp,?_⟩
  exact z03 func86 _ (zjf rfl rfl rfl rfl rfl rfl rfl rfl rfl rfl rfl rfl rfl rfl rfl rfl rfl) ⟨rfl,rfl⟩
 | none =>
  refine⟨.ready,none,zr6,_,H,rfl,by simp,?_⟩
  refine z00 (tm':=[(3,.ptr (0,3) 0),(4,.ptr (0,4) 0),(5,.ptr (0,5) 0),(6,.ptr (0,6) 0),(7,.ptr (0,7) 0)]) (hp':=[(7,.box [B false]),(6,.box [I .i64 0]),(5,.box [I .i64 0]),(4,.box [I .i32 0])]) ?_ rfl rfl
  repeat' first|refine z04 ?_|fail
  all_goals try omega
  all_goals exact z03 func86 _ (zjf rfl rfl rfl rfl rfl rfl rfl rfl rfl rfl rfl rfl rfl rfl rfl rfl rfl) ⟨rfl,rfl⟩
def okU(u:Un):Bool:=!decide (u.1=65533)||decide (u.2.2=3)
theorem zxs(u:Un):z0a prog 120 [.d (.agg (unc u))] (B (okU u)):=by
 refine z0q fun H=>?_
 refine z05 func120 (by kernel_rfl) rfl (by simp) ?_
 dsimp only[f120]
 rw[okU]
 by_cases h:u.1=65533
 ·rw[zAi h,Bool.not_true,Bool.false_or]
  all_goals exact zD114
 ·rw[zAo h,Bool.not_false,Bool.true_or]
  all_goals exact zD114
noncomputable def zu8:Code:=match f82.body with|some (.seq _ (.seq (.seq _ (.block _ (.rangeFunc _ _ a _))) _))=>a|_=>.skip
noncomputable def zk2:Code:=match f82.body with|some (.seq _ (.seq (.seq _ (.block _ (.rangeFunc _ _ _ b))) _))=>b|_=>.skip
def zr7:List (Nat × PV):=[(2,.ptr (0,2) 0)]
noncomputable def zy4(state:LoopState)(j:Option Code):Blk:=.lp 10 82 #[6] zu8 zk2 zr7 state j
noncomputable def vaW(s:ByteArray)(H:Hf):Bool→Hf
 | true=>push [(999,zy4 .ready none),(2,.box [B false]),(901,.box [S s])] H
 | false=>push [(999,zy4 .done (some .ret)),(2,.box [B false]),(901,.box [S s])] H
theorem y2c:∀l:List Un,zij (fun(_:Bool) u=>okU u) (fun _ u=>okU u) true l=l.all okU
 | []=>rfl
 | u::l=>by
  rw[zij,List.all_cons]
  cases h:okU u with
  | true=>rw[zAz rfl,y2c l];rfl
  | false=>rw[zAy (by decide)];rfl
theorem zzw(s:ByteArray)(H:Hf)(hp:Hp)(u:Un):zf0 prog (1,999) [.d (.agg (unc u))] (push hp (vaW s H true)) (fun r H'=>r=.v (B (okU u))∧H'=push hp (vaW s H (okU u))) (fun y=>y=(1,5000)):=by
 have huv:=zxs u
 cases ho:okU u with
 | false =>
  rw[ho]at huv
  refine y74 (n':=10) (f':=82) (t0:=6) (asg:=zu8) (body:=zk2) (st:=zr7) (pend:=none) (R2:=fun r H'=>r=.v (B false)∧H'=upd (upd (push hp (vaW s H true)) (1,999) (zy4 .busy none)) (1,2) (.box [B false])) rfl (by decide) (by simp) ?_ ?_ ?_ ?_
  ·rw[show z1w (1+1) zr7=[(2,.ptr (2,2) 0)] by simp[zr7,z1w,PV.lift]]
   dsimp only[zu8,zk2,f82]
   repeat' first|refine z04 ?_|fail
   refine zb6 rfl rfl ?_
   change Run _ _ _ _ ⟨_,_,_,upd (push hp (vaW s H true)) (1,999) (zy4 .busy none)⟩
   have hb2:upd (push hp (vaW s H true)) (1,999) (zy4 .busy none) 1 2=some (.box [B false]):=rfl
   generalize upd (push hp (vaW s H true)) (1,999) (zy4 .busy none)=V at *
   repeat' first|(apply z06;refine z1o huv ?_)|(apply z0x;refine zmr (raw':=.box [B false]) hb2 ?_)|refine z04 ?_|fail
   all_goals try omega
   all_goals exact zd6 rfl ⟨rfl,rfl⟩
  ·rintro H' ⟨h,_⟩;cases h
  ·rintro H' ⟨_,rfl⟩
   refine⟨zr7,none,z08 (z1g _ _ _) (by simp),rfl,?_⟩
   funext d t
   match d with
   | 0=>rfl
   | d+2=>rfl
   | 1 =>
    by_cases h1:t=999
    ·subst h1;rfl
    by_cases h2:t=2
    ·subst h2;rfl
    have k1:=Ne.symm h1
    have k2:=Ne.symm h2
    simp[upd,push,vaW,Ab.look,h1,h2,k1,k2]
  ·rintro id H' ⟨h,_⟩;cases h
 | true =>
  rw[ho]at huv
  refine y74 (n':=10) (f':=82) (t0:=6) (asg:=zu8) (body:=zk2) (st:=zr7) (pend:=none) (R2:=fun r H'=>r=.v (B true)∧H'=upd (push hp (vaW s H true)) (1,999) (zy4 .busy none)) rfl (by decide) (by simp) ?_ ?_ ?_ ?_
  ·rw[show z1w (1+1) zr7=[(2,.ptr (2,2) 0)] by simp[zr7,z1w,PV.lift]]
   dsimp only[zu8,zk2,f82]
   repeat' first|refine z04 ?_|fail
   refine zb6 rfl rfl ?_
   change Run _ _ _ _ ⟨_,_,_,upd (push hp (vaW s H true)) (1,999) (zy4 .busy none)⟩
   generalize upd (push hp (vaW s H true)) (1,999) (zy4 .busy none)=V at *
   repeat' first|(apply z06;refine z1o huv ?_)|refine z04 ?_|fail
   all_goals try omega
   all_goals exact zd3 rfl ⟨rfl,rfl⟩
  ·rintro H' ⟨_,rfl⟩
   refine⟨zr7,none,z1g _ _ _,rfl,?_⟩
   funext d t
   match d with
   | 0=>rfl
   | d+2=>rfl
   | 1 =>
    by_cases h1:t=999
    ·subst h1;rfl
    have k1:=Ne.symm h1
    simp[upd,push,vaW,Ab.look,h1,k1]
  ·rintro H' ⟨h,_⟩;cases h
  ·rintro id H' ⟨h,_⟩;cases h
theorem ztk(s:ByteArray)(hs:s.size≤1000000):z0a prog 82 [S s] (B ((unF 0 (rst s 0)).all okU)):=by
 refine z0q fun H=>?_
 refine z05 func82 (by kernel_rfl) rfl (by simp) ?_
 dsimp only[f82]
 refine zcy 901 ?_
 have h37:∀(hp:Hp),Ab.look hp 901=some Blk.gone→z2m (0,901) hp=true→z9f prog 119 [S s] (push hp H) ⟨fun r H'=>r=.v (.fn (.func 149) [] [.ptr (0,901) 0])∧H'=push ((901,.box [S s])::hp) H,fun x=>x=(0,901)∨x=(0,902),none⟩:=by
  exact zD26
 repeat' first|(apply z0r;refine zia (h37 _ rfl rfl) rfl rfl rfl (by decide) ?_)|(apply z1s;refine z09 z4t ?_)|refine z04 ?_|fail
 all_goals try omega
 refine z00 (tm':=[(2,.ptr (0,2) 0),(5,.fn (.func 149) [] [.ptr (0,901) 0])]) (hp':=[(2,.box [B false]),(901,.box [S s])]) ?_ rfl rfl
 have hsp:=zco s hs (fun _ b=>b=true) (fun(_:Bool) u=>okU u) (fun _ u=>okU u) (vaW s H) (fun x=>by cases x <;> rfl) (fun x u _ h1 h2=>h2) (fun hp x u _ h1 h2=>by subst h1;exact zzw s H hp u) true rfl
 refine z6n 999 5000 zr7 rfl rfl rfl rfl rfl hsp (fun m h=>h) ?_
 rintro r H2 ⟨_,rfl⟩
 rw[y2c]
 cases(unF 0 (rst s 0)).all okU with
 | false =>
  refine⟨.done,some .ret,zr7,_,H,rfl,by simp,?_⟩
  exact z03 func82 _ (zit rfl rfl rfl rfl rfl) ⟨rfl,rfl⟩
 | true =>
  refine⟨.ready,none,zr7,_,H,rfl,by simp,?_⟩
  refine z00 (tm':=[(2,.ptr (0,2) 0)]) (hp':=[(2,.box [B false])]) ?_ rfl rfl
  repeat' first|refine z04 ?_|fail
  all_goals try omega
  all_goals exact z03 func82 _ (zit rfl rfl rfl rfl rfl) ⟨rfl,rfl⟩
theorem y5m(r:Int)(h0:0≤r)(h1:r≤1114111):z0a prog 179 [I .i32 r] (I .i32 (z97 r)):=by
 refine z0q fun H=>?_
 refine z05 func179 (by kernel_rfl) rfl (by simp) ?_
 dsimp only[f179]
 rw[z97]
 by_cases hc:y6c r
 ·rw[zAz hc]
  rw[y6c]at hc
  all_goals exact zD40
 ·rw[zAy hc]
  rw[y6c]at hc
  by_cases hd:1024≤r∧r≤1039
  ·rw[zAz hd]
   all_goals exact zD40
  ·rw[zAy hd]
   all_goals exact zD40
def inB(l:List Rg)(c:Int):Bool:=l.any fun r=>decide (r.1≤c)&&decide (c≤r.2)
theorem zqm(l:List Rg)(hl:l.length≤9223372036854775807)(c:Int):z0a prog 97 [.d (rgs l),I .i32 c] (B (inB l c)):=by
 refine z0q fun H=>?_
 refine z05 func97 (by kernel_rfl) rfl (by simp) ?_
 dsimp only[f97]
 repeat' first|refine z04 ?_|fail
 all_goals try omega
 refine z0f ?_
 refine z00 (z0s (fun q:Nat=>⟨24,[(1,I .i32 c),(7,.d (rgs l)),(8,I .i64 l.length),(9,I .i64 (q:Nat))],[],H⟩) (fun q=>q≤l.length∧inB (l.drop q) c=inB l c) (fun q=>l.length-q) ?_ 0 ⟨zAf _,rfl⟩) rfl rfl
 intro q ⟨i1,i2⟩ ih
 by_cases hlt:q<l.length
 ·obtain⟨r,hr⟩:∃r,l[q]? =some r:=⟨_,zA0 hlt⟩
  rw[drop_cons hr,inB,List.any_cons,←inB]at i2
  by_cases hc:r.1≤c∧c≤r.2
  ·rw[zAi hc.1,zAi hc.2,Bool.true_and,Bool.true_or]at i2
   rw[←i2]
   repeat' first|(apply z01;refine z07 (z11 (ys:=l.map rgc) rfl (idx hr)) rfl rfl ?_)|refine z04 ?_|refine fk (fun _=>?_) fun _=>?_
   all_goals try omega
   all_goals exact z03 func97 _ z1h ⟨rfl,rfl⟩
  ·exact zD46
 ·obtain rfl:q=l.length:=by omega
  rw[zAs,inB,List.any_nil]at i2
  rw[←i2]
  repeat' first|refine z04 ?_|refine fk (fun _=>?_) fun _=>?_
  all_goals try omega
  all_goals exact z03 func97 _ z1h ⟨rfl,rfl⟩
attribute [local irreducible] z5w
noncomputable def y44:Code:=match f142.body with|some (.seq _ (.seq _ (.seq (.seq _ (.block _ (.rangeFunc _ _ a _))) _)))=>a|_=>.skip
noncomputable def zvi:Code:=match f142.body with|some (.seq _ (.seq _ (.seq (.seq _ (.block _ (.rangeFunc _ _ _ b))) _)))=>b|_=>.skip
def y48:List (Nat × PV):=[(1,.ptr (0,1) 0),(3,.ptr (0,3) 0)]
noncomputable def y6x(state:LoopState):Blk:=.lp 36 142 #[11] y44 zvi y48 state none
abbrev b8r(q:List Int):Blk:=.row 5 1 (q.map by8)
abbrev pcU(s:ByteArray)(u:Un):List Int:=btI (pcS s u.1 u.2.1 u.2.2)
noncomputable def ycj(s:ByteArray)(q:List Int):Hp:=[(999,y6x .ready),(3,.box [.ref (0,5000)]),(5000,b8r q),(1,.box [S s]),(901,.box [S s])]
noncomputable def foW(s:ByteArray)(H:Hf)(q:List Int):Hf:=push (ycj s q) H
theorem z6v{m:Nm}(k:Nat):∀ {hp:Hp} {t:Nat} {b:Blk},z2m m (hp.filter fun q=>!(q.1 == k))=true→Ab.look hp t=some b→t≠k→b.says m=false
 | [],t,b,_,h,_=>by simp[Ab.look]at h
 | (x,q)::r,t,b,hq,h,hn=>by
  simp only[Ab.look]at h
  by_cases hx:x=k
  ·subst hx
   simp only[List.filter,beq_self_eq_true,Bool.not_true]at hq
   rw[zAy (Ne.symm hn)]at h
   exact z6v x hq h hn
  ·have:(!(x == k))=true:=by simpa using hx
   simp only[List.filter,this,z2m,zA7,zA6]at hq
   split at h
   ·simp at h;subst h;exact hq.1
   ·exact z6v k hq.2 h hn
theorem zza(s:ByteArray)(hs:s.size≤1000000)(H:Hf)(hp:Hp)(q:List Int)(u:Un)(hqt:z2m (1,5000) hp=true)(hok:(q.length:Int)≤4*u.2.1)(hu:y72 s u) :
 zf0 prog (1,999) [.d (.agg (unc u))] (push hp (foW s H q)) (fun r H'=>r=.v (B true)∧H'=push hp (foW s H (q++pcU s u))) (fun y=>y=(1,5000)):=by
 have hlow:=y5m u.1 hu.r0 hu.r1
 obtain⟨z0,z1,z2,z3,z4⟩:=hu
 refine y74 (n':=36) (f':=142) (t0:=11) (asg:=y44) (body:=zvi) (st:=y48) (pend:=none) (R2:=fun r H'=>r=.v (B true)∧H'=upd (upd (push hp (foW s H q)) (1,999) (y6x .busy)) (1,5000) (b8r (q++pcU s u))) rfl (by decide) (by simp) ?_ ?_ ?_ ?_
 ·rw[show z1w (1+1) y48=[(1,.ptr (2,1) 0),(3,.ptr (2,3) 0)] by simp[y48,z1w,PV.lift]]
  dsimp only[y44,zvi,f142]
  repeat' first|refine z04 ?_|fail
  refine zb6 rfl rfl ?_
  change Run _ _ _ _ ⟨_,_,_,upd (push hp (foW s H q)) (1,999) (y6x .busy)⟩
  have hb1:upd (push hp (foW s H q)) (1,999) (y6x .busy) 1 1=some (.box [S s]):=rfl
  have hb3:upd (push hp (foW s H q)) (1,999) (y6x .busy) 1 3=some (.box [.ref (0,5000)]):=rfl
  have hb5:upd (push hp (foW s H q)) (1,999) (y6x .busy) 1 5000=some (b8r q):=rfl
  obtain⟨U,hU⟩:∃U,upd (push hp (foW s H q)) (1,999) (y6x .busy)=U:=⟨_,rfl⟩
  rw[hU]at hb1 hb3 hb5⊢
  refine z00 (tm':=[(4,.ptr (0,4) 0),(1,.ptr (2,1) 0),(3,.ptr (2,3) 0)]) (hp':=[(4,.box ((unc u).map .d))]) ?_ rfl rfl
  refine z4d 700 1 3 hb3 rfl rfl ?_
  refine z1k 701 1 5000 (z08 hb5 (by simp)) rfl rfl ?_
  refine z3l 100701 rfl ?_
  refine z00 (tm':=[(4,.ptr (0,4) 0),(1,.ptr (2,1) 0),(3,.ptr (0,700) 0),(100700,.al (0,700) (2,3))]) (hp':=[(4,.box ((unc u).map .d)),(700,.box [.ref (0,701)]),(701,b8r q)]) ?_ rfl rfl
  obtain⟨V,hV⟩:∃V,upd (upd U (1,3) .gone) (1,5000) .gone=V:=⟨_,rfl⟩
  have v1:V 1 1=some (.box [S s]):=by rw[←hV];exact z08 (z08 hb1 (by simp)) (by simp)
  have v3:V 1 3=some .gone:=by rw[←hV];exact z08 (z1g _ (1,3) _) (by simp)
  have v5:V 1 5000=some .gone:=by rw[←hV];exact z1g _ (1,5000) _
  rw[hV]
  have hqV:z73 V (1,5000):=by
   intro x y b hx hb
   rw[←hV,←hU]at hb
   simp only[upd]at hb
   split at hb
   ·simp at hb;subst hb;rfl
   rename_i n1
   split at hb
   ·simp at hb;subst hb;rfl
   rename_i n2
   split at hb
   ·simp at hb;subst hb;rename_i n3;obtain⟨rfl,rfl⟩:=n3;rfl
   ·match x,hx with
    | 0,_=>exact z38 hqt hb
    | 1,_ =>
     have hb':Ab.look (ycj s q) y=some b:=hb
     refine z6v 3 (m:=(0,5000)) ?_ hb' (by omega)
     rfl
  have hps:=zn2 s u.1 u.2.1 u.2.2 z2 z3 z4
  have hbl:=zdd (pcS s u.1 u.2.1 u.2.2)
  by_cases hl:z97 u.1=u.1
  ·have hpc:pcS s u.1 u.2.1 u.2.2=s.extract u.2.1.toNat (u.2.1+u.2.2).toNat:=by rw[pcS,zAz hl]
   rw[pcU,hpc]
   rw[hpc]at hps hbl
   repeat' (first | (apply z0b; (refine z0c (z4f (b := .box [S s]) rfl rfl rfl rfl) rfl (bkN v1) ?_)) | (apply z3p; (refine z0c (zpw rfl (by omega) (by omega) (by omega)) rfl rfl ?_)) | (apply z14; ((refine zgr rfl rfl rfl rfl rfl rfl (by kernel_rfl) rfl (by decide) (by omega) ?_) /- z4x -/)) | (apply z4i; ((refine zc1 mix (by kernel_rfl) ?_) /- z4y -/)) | (apply z06; (refine z1o hlow ?_)) | refine z04 ?_ | refine fk (fun _ => ?_) (fun _ => ?_))
   all_goals try omega
   refine z00 (tm':=[(100700,.al (0,700) (2,3))]) (hp':=[(700,.box [.ref (0,33)]),(33,b8r (q++btI _))]) ?_ rfl rfl
   refine zlk 33 1 5000 rfl v5 rfl rfl hqV ?_
   exact zD70
  ·have hpc:pcS s u.1 u.2.1 u.2.2=Utf8.encode (z97 u.1):=by rw[pcS,zAy hl]
   rw[pcU,hpc]
   rw[hpc]at hps hbl
   repeat' (first | (apply z14; ((refine zgr rfl rfl rfl rfl rfl rfl (by kernel_rfl) rfl (by decide) (by omega) ?_) /- z4x -/)) | (apply z06; (refine z1o hlow ?_)) | (apply z4q; (refine z07 (z6p rfl rfl) rfl rfl ?_)) | refine z04 ?_ | refine fk (fun _ => ?_) (fun _ => ?_))
   all_goals try omega
   refine z00 (tm':=[(100700,.al (0,700) (2,3))]) (hp':=[(700,.box [.ref (0,22)]),(22,b8r (q++btI _))]) ?_ rfl rfl
   refine zlk 22 1 5000 rfl v5 rfl rfl hqV ?_
   exact zD70
 ·rintro H' ⟨_,rfl⟩
  refine⟨y48,none,z08 (z1g _ _ _) (by simp),rfl,?_⟩
  rw[z8b (by simp),z1m]
  funext d t
  match d with
  | 0=>rfl
  | d+2=>rfl
  | 1 =>
   by_cases h1:t=5000
   ·subst h1;rfl
   by_cases h2:t=999
   ·subst h2;rfl
   by_cases h3:t=3
   ·subst h3;rfl
   have k1:=Ne.symm h1
   have k2:=Ne.symm h2
   have k3:=Ne.symm h3
   simp[upd,push,foW,ycj,Ab.look,h1,h2,h3,k1,k2,k3]
 ·rintro H' ⟨h,_⟩;cases h
 ·rintro id H' ⟨h,_⟩;cases h
def zin(s:ByteArray):List Int→List Un→List Int
 | q,[]=>q
 | q,u::l=>zin s (q++pcU s u) l
theorem y33(s:ByteArray):∀(l:List Un) (q:List Int),zij (fun(_:List Int) _=>true) (fun q u=>q++pcU s u) q l=zin s q l
 | [],q=>rfl
 | u::l,q=>by rw[zij,zAz rfl,y33 s l];rfl
theorem y5n(s:ByteArray):btI s=(btN s).map fun x:Nat=>(x:Int):=by rw[btI,btN,List.map_map];rfl
theorem ya0(s:ByteArray):∀(f i:Nat) (q:List Int),s.size-i≤f→zin s q (unF i (rst s i))=q++(fd ((btN s).drop i)).map fun x:Nat=>(x:Int)
 | 0,i,q,h=>by
  rw[z3i (by omega),List.drop_eq_nil_of_le (by rw[z3r];omega)]
  simp[unF,zin,fd,fdL]
 | f+1,i,q,h=>by
  by_cases hi:i<s.size
  ·have hw:=z8r s i hi
   have hne:(btN s).drop i≠[]:=fun e=>by
    have:=congrArg List.length e
    rw[List.length_drop,z3r]at this;simp at this;omega
   rw[z5y hi,unF,zin,ya0 s f _ _ (by simp only;omega),zl9 hne,List.map_append,←y5l s i hi,←zh1 s i hi,List.drop_drop,zAl]
   congr 1
   congr 1
   rw[pcU,y5n]
  ·rw[z3i (s:=s) (i:=i) (by omega),List.drop_eq_nil_of_le (by rw[z3r];omega)]
   simp[unF,zin,fd,fdL]
theorem y8u(s:ByteArray):strOfNums (zin s [] (unF 0 (rst s 0)))=zb7 s:=by
 rw[ya0 s s.size 0 [] (by omega),List.nil_append,List.drop_zero,zb7,y6d,strOfNums,List.map_map]
 rfl
theorem y29(s:ByteArray)(hs:s.size≤1000000):z0a prog 142 [S s] (S (zb7 s)):=by
 refine z0q fun H=>?_
 refine z05 func142 (by kernel_rfl) rfl (by simp) ?_
 dsimp only[f142]
 refine zcy 901 ?_
 have h37:∀(hp:Hp),Ab.look hp 901=some Blk.gone→z2m (0,901) hp=true→z9f prog 119 [S s] (push hp H) ⟨fun r H'=>r=.v (.fn (.func 149) [] [.ptr (0,901) 0])∧H'=push ((901,.box [S s])::hp) H,fun x=>x=(0,901)∨x=(0,902),none⟩:=by
  exact zD26
 repeat' first|(apply z0r;refine zia (h37 _ rfl rfl) rfl rfl rfl (by decide) ?_)|(apply z1s;refine z09 z4t ?_)|(apply z1n;refine z09 z3s ?_)|refine z04 ?_|(apply z0r;refine ztl rfl rfl (by omega) (by omega) (by omega) (by decide) rfl rfl (by decide) rfl ?_)
 all_goals try omega
 refine z1d 8 5000 ?_
 refine z00 (tm':=[(1,.ptr (0,1) 0),(3,.ptr (0,3) 0),(10,.fn (.func 149) [] [.ptr (0,901) 0])]) (hp':=[(3,.box [.ref (0,5000)]),(5000,b8r []),(1,.box [S s]),(901,.box [S s])]) ?_ rfl rfl
 have hsp:=zco s hs (fun i q=>(q.length:Int)≤4*i) (fun _ _=>true) (fun q u=>q++pcU s u) (foW s H) (fun x=>rfl) (fun x u hu h1 _=>by
  have h2:=zn2 s u.1 u.2.1 u.2.2 hu.a0 hu.n1 hu.e
  have h3:=zdd (pcS s u.1 u.2.1 u.2.2)
  rw[zAa,pcU];omega) (fun hp x u hq h1 h2=>zza s hs H hp x u hq h1 h2) [] (by simp)
 refine z6n 999 5000 y48 rfl rfl rfl rfl rfl hsp (fun m h=>h) ?_
 rintro r H2 ⟨_,rfl⟩
 rw[y33]
 have hstr:=y8u s
 generalize zin s [] (unF 0 (rst s 0))=Q at *
 refine⟨.ready,none,y48,_,H,rfl,by simp,?_⟩
 refine z00 (tm':=[(1,.ptr (0,1) 0),(3,.ptr (0,3) 0)]) (hp':=[(3,.box [.ref (0,5000)]),(5000,b8r Q)]) ?_ rfl rfl
 refine z0o 5000 rfl ?_
 repeat' first|refine z04 ?_|(apply z0r;refine z07 (zhh rfl rfl rfl) rfl rfl ?_)
 all_goals try omega
 all_goals exact z03 func142 _ z1h ⟨congrArg (fun b=>RV.v (S b)) hstr,rfl⟩
end Go.Proofs.YtmcggompdmngmaaGreatDoor
