/- A part of the proof: G16 to G30. -/
import Derived.Test.YtmcggompdmngmaaGreatDoorYc
import Derived.Test.YtmcggompdmngmaaGreatDoorYt
import Derived.Test.YtmcggompdmngmaaGreatDoorYx
set_option linter.all false
namespace Go.Proofs.YtmcggompdmngmaaGreatDoor
open Go.Ab Go.Rx
set_option maxHeartbeats 20000000
set_option maxRecDepth 100000
attribute [local irreducible] Run Ops Op1 z0u Val Tr z09 z0q NF Rel z1v z1u
abbrev Un:=Int × Int × Int
abbrev unc (u:Un):List D:=[z11 u.1,z2g u.2.1,z2g u.2.2]
def unF:Nat→List U→List Un
 | _,[]=>[]
 | i,u::l=>(u.r,(i:Int),(u.n:Int))::unF (i+u.n) l
def zhf {σ:Type} (go:σ→Un→Bool) (stp:σ→Un→σ):σ→List Un→σ
 | x,[]=>x
 | x,u::l=>if go x u=true then zhf go stp (stp x u) l else stp x u
theorem zfz (s:ByteArray) (H:Hf) (h1:H 0 901=some .gone) (q1:z6t H (0,901)) :
 z74 Tryz.prog 119 [S s] H ⟨fun r H'=>r=.v (.fn (.func 149) [] [.ptr (0,901) 0])∧H'=upd H (0,901) (.box [S s]),fun x=>x=(0,901)∨x=(0,902),none⟩:=by
 refine z3p Tryz.func119 (by kernel_rfl) rfl (by simp) ?_
 dsimp only[Tryz.f119]
 repeat' (first|(apply z2c;(refine z0h z4x ?_))|refine z01 ?_|(apply z10;(refine z9x rfl rfl (by decide) ?_)))
 refine y3y 1 0 901 (q:=.box [S s]) rfl rfl h1 (.inl rfl) (by simp[z1y,Blk.says,PV.says,PV.saysL,PV.lift]) q1 ?_
 exact z02 Tryz.func119 _ (zzn (.fn (.func 149) [] [.ptr (0,901) 0]) rfl rfl) ⟨rfl,rfl⟩
structure y64 (s:ByteArray) (u:Un):Prop where
 r0:0≤u.1
 r1:u.1≤1114111
 a0:0≤u.2.1
 n1:1≤u.2.2
 e:u.2.1+u.2.2≤s.size
theorem zbr {σ:Type} (s:ByteArray) (hs:s.size≤1000000) (ok:Int→σ→Prop) (go:σ→Un→Bool) (stp:σ→Un→σ) (W:σ→Hf) (hW:∀ x,W x 0 901=some (.box [S s]))
 (hok:∀ x u,y64 s u→ok u.2.1 x→go x u=true→ok (u.2.1+u.2.2) (stp x u))
 (hY:∀ (hp:Hp) (x:σ) (u:Un),z1y (1,5000) hp=true→ok u.2.1 x→y64 s u→ze6 Tryz.prog (1,999) [.d (.agg (unc u))] (push hp (W x)) (fun r H'=>r=.v (B (go x u))∧H'=push hp (W (stp x u))) (fun y=>y=(1,5000)))
 (x0:σ) (h0:ok 0 x0):z74 Tryz.prog 149 [.yl (0,999),.ptr (0,901) 0] (W x0) ⟨fun r H'=>r=.v (.tup [])∧H'=W (zhf go stp x0 (unF 0 (rst s 0))),fun x=>x=(0,5000),none⟩:=by
 refine z3p Tryz.func149 (by kernel_rfl) rfl (by simp) ?_
 dsimp only[Tryz.f149]
 have hw0:=hW x0
 obtain⟨T,hT⟩:∃ T,zhf go stp x0 (unF 0 (rst s 0))=T:=⟨_,rfl⟩
 rw[hT]
 repeat' (first|(apply z13;(refine z08 (z42 (b:=.box [S s]) rfl rfl rfl rfl) rfl (bkN hw0) ?_))|refine z01 ?_|(apply z10;(refine z8y rfl rfl rfl (by decide) ?_)))
 all_goals try (exfalso;omega)
 refine z0d ?_
 refine z00 (z0p (fun q:Nat × Int × Int × σ=>⟨42,[(0,.yl (1,999)),(1,.ptr (1,901) 0),(3,.ptr (0,3) 0),(8,.ptr (0,8) 0)],[(3,.box [I .i32 q.2.1,I .i64 q.2.2.1,I .i64 0]),(8,.siter s q.1)],W q.2.2.2⟩)
  (fun q=>q.1≤s.size∧(0≤q.2.2.1→ok q.2.2.1 q.2.2.2)∧((q.1=0∧q.2.2.1=-1∧q.2.2.2=x0)∨(0≤q.2.2.1∧q.2.2.1<q.1∧0≤q.2.1∧q.2.1≤1114111∧zhf go stp q.2.2.2 ((q.2.1,q.2.2.1,(q.1:Int)-q.2.2.1)::unF q.1 (rst s q.1))=T))) (fun q=>s.size-q.1) ?_ (0,0,-1,x0) ⟨zAf _,fun h=>by simp at h,.inl ⟨rfl,rfl,rfl⟩⟩) rfl rfl
 rintro⟨q,r,a,x⟩ ⟨i1,i2,i3⟩ ih
 simp only at i1 i2 i3 ih ⊢
 have hwx:=hW x
 by_cases hlt:q<s.size
 · have hd:=z5l hlt
   have hw:=z8a s q hlt
   have hdh:=zei s q
   rcases i3 with ⟨rfl,rfl,rfl⟩|⟨a0,a1,r0,r1,hrun⟩
   · have ih':=ih (0+(Utf8.decode s 0).2,((Utf8.decode s 0).1:Nat),0,x) ⟨by simp only;omega,fun _=>h0,.inr ⟨by simp,by simp only;omega,by simp only;omega,by simp only;omega,by
      rw[hd] at hT
      simp only[unF] at hT
      simp only[Int.sub_zero]
      rw[← hT];simp⟩⟩ (by simp only;omega)
     repeat' (first|refine z01 ?_|(apply z10;(refine z1p hlt rfl rfl (by decide) ?_)))
     all_goals exact zD8
   · have hu:y64 s (r,a,(q:Int)-a):=⟨r0,r1,a0,by simp only;omega,by simp only;omega⟩
     rw[zhf] at hrun
     cases hg:go x (r,a,(q:Int)-a) with
     | true =>
      rw[zAz hg] at hrun
      have hy:∀ hp:Hp,z1y (1,5000) hp=true→ze6 Tryz.prog (1,999) [.d (.agg (unc (r,a,(q:Int)-a)))] (push hp (W x)) (fun r' H'=>r'=.v (B true)∧H'=push hp (W (stp x (r,a,(q:Int)-a)))) (fun y=>y=(1,5000)):=fun hp hqq=>by
       have:=hY hp x _ hqq (i2 a0) hu
       rwa [hg] at this
      have ih':=ih (q+(Utf8.decode s q).2,((Utf8.decode s q).1:Nat),(q:Nat),stp x (r,a,(q:Int)-a)) ⟨by simp only;omega,fun _=>by have:=hok _ _ hu (i2 a0) hg;simp only at this;rwa [show a+((q:Int)-a)=(q:Nat) by omega] at this,.inr ⟨by simp only;omega,by simp only;omega,by simp only;omega,by simp only;omega,by
       rw[hd] at hrun
       simp only[unF] at hrun
       rw[show ((q+(Utf8.decode s q).2:Nat):Int)-(q:Nat)=((Utf8.decode s q).2:Nat) by omega]
       exact hrun⟩⟩ (by simp only;omega)
      repeat' (first|(apply z10;(refine zfo (mv:=(0,5000)) (hy _ (by rfl)) rfl rfl rfl rfl (by decide) ?_))|refine z01 ?_|refine fk (fun _=>?_) (fun _=>?_)|(apply z10;(refine z1p hlt rfl rfl (by decide) ?_)))
      all_goals exact zD8
     | false =>
      rw[zAy (by rw[hg];decide)] at hrun
      have hy:∀ hp:Hp,z1y (1,5000) hp=true→ze6 Tryz.prog (1,999) [.d (.agg (unc (r,a,(q:Int)-a)))] (push hp (W x)) (fun r' H'=>r'=.v (B false)∧H'=push hp (W (stp x (r,a,(q:Int)-a)))) (fun y=>y=(1,5000)):=fun hp hqq=>by
       have:=hY hp x _ hqq (i2 a0) hu
       rwa [hg] at this
      repeat' (first|(apply z10;(refine zfo (mv:=(0,5000)) (hy _ (by rfl)) rfl rfl rfl rfl (by decide) ?_))|refine z01 ?_|refine fk (fun _=>?_) (fun _=>?_)|(apply z10;(refine z1p hlt rfl rfl (by decide) ?_)))
      all_goals try (exfalso;omega)
      all_goals exact z02 Tryz.func149 _ (z1o rfl) ⟨rfl,congrArg W hrun⟩
 · obtain rfl:q=s.size:=by omega
   have hd:=z3g (s:=s) (i:=s.size) (zAj _)
   rcases i3 with ⟨h1,rfl,rfl⟩|⟨a0,a1,r0,r1,hrun⟩
   · rw[← h1,hd] at hT
     simp only[unF,zhf] at hT
     repeat' (first|(apply z13;(refine z08 (z42 (b:=.box [S s]) rfl rfl rfl rfl) rfl (bkN hwx) ?_))|refine z01 ?_|(apply z10;(refine z2f hlt rfl rfl (by decide) ?_)))
     all_goals try (exfalso;omega)
     all_goals exact z8e Tryz.func149 _ (z1o rfl) ⟨rfl,congrArg W hT⟩
   · have hu:y64 s (r,a,(s.size:Int)-a):=⟨r0,r1,a0,by simp only;omega,by simp only;omega⟩
     rw[hd] at hrun
     simp only[unF,zhf,ite_self] at hrun
     repeat' (first|(apply z10;(refine zfo (mv:=(0,5000)) (hY _ x (r,a,(s.size:Int)-a) (by rfl) (i2 a0) hu) rfl rfl rfl rfl (by decide) ?_))|(apply z13;(refine z08 (z42 (b:=.box [S s]) rfl rfl rfl rfl) rfl (bkN hwx) ?_))|refine z01 ?_|refine fk (fun _=>?_) (fun _=>?_)|(apply z10;(refine z2f hlt rfl rfl (by decide) ?_)))
     all_goals try (exfalso;omega)
     all_goals exact z8e Tryz.func149 _ (z1o rfl) ⟨rfl,congrArg W hrun⟩
theorem z9l {hp:Hp} {up:Hf} (c:Nat) {q:Blk}:upd (push hp up) (0,c) q=push ((c,q)::hp) up:=by
 funext d s
 cases d with
 | zero =>
  simp only[upd,push,Ab.look,true_and]
  by_cases h1:s=c
  · rw[zAz h1,zAz h1.symm]
  · rw[zAy h1,zAy (Ne.symm h1)]
 | succ d=>simp[upd,push]
def atR (s:ByteArray) (i:Nat):PV:=match (unF 0 (rst s 0))[i]? with
 | some u=>.tup [I .i32 u.1,I .i64 u.2.1,I .i64 u.2.2,B true]
 | none=>.tup [I .i32 0,I .i64 0,I .i64 0,B false]
noncomputable def zrk:Code:=match Tryz.f86.body with|some (.seq _ (.seq (.seq _ (.block _ (.rangeFunc _ _ a _))) _))=>a|_=>.skip
noncomputable def zi7:Code:=match Tryz.f86.body with|some (.seq _ (.seq (.seq _ (.block _ (.rangeFunc _ _ _ b))) _))=>b|_=>.skip
def zpj:List (Nat × PV):=[(3,.ptr (0,3) 0),(4,.ptr (0,4) 0),(5,.ptr (0,5) 0),(6,.ptr (0,6) 0),(7,.ptr (0,7) 0)]
noncomputable def znq (state:LoopState) (j:Option Code):Blk:=.lp 22 86 #[11] zrk zi7 zpj state j
inductive AtS where
 | run (i:Nat)
 | fin (u:Un)
noncomputable def atW (s:ByteArray) (H:Hf):AtS→Hf
 | .run i=>push [(999,znq .ready none),(7,.box [B false]),(6,.box [I .i64 0]),(5,.box [I .i64 0]),(4,.box [I .i32 0]),(3,.box [I .i64 (i:Nat)]),(901,.box [S s])] H
 | .fin u=>push [(999,znq .done (some .ret)),(7,.box [B true]),(6,.box [I .i64 u.2.2]),(5,.box [I .i64 u.2.1]),(4,.box [I .i32 u.1]),(3,.box [I .i64 0]),(901,.box [S s])] H
def yad:AtS→Un→Bool
 | .run 0,_=>false
 | .run (_+1),_=>true
 | .fin _,_=>false
def zpd:AtS→Un→AtS
 | .run 0,u=>.fin u
 | .run (i+1),_=>.run i
 | .fin v,_=>.fin v
def yct:AtS→Prop
 | .run i=>i≤1000000
 | .fin _=>False
theorem y0f:∀ (l:List Un) (i:Nat),zhf yad zpd (.run i) l=match l[i]? with|some u=>.fin u|none=>.run (i-l.length)
 | [],i=>by simp[zhf]
 | u::l,0=>by rw[zhf,zAy (by simp[yad])];rfl
 | u::l,i+1=>by
  rw[zhf,zAz (by rfl),show zpd (.run (i+1)) u=.run i from rfl,y0f l i,List.getElem?_cons_succ,zAk,show i+1-(l.length+1)=i-l.length by omega]
theorem zwo (s:ByteArray) (H:Hf) (hp:Hp) (x:AtS) (u:Un) (hx:yct x):ze6 Tryz.prog (1,999) [.d (.agg (unc u))] (push hp (atW s H x)) (fun r H'=>r=.v (B (yad x u))∧H'=push hp (atW s H (zpd x u))) (fun y=>y=(1,5000)):=by
 match x,hx with
 | .run 0,_ =>
  refine y5x (n':=22) (f':=86) (t0:=11) (asg:=zrk) (body:=zi7) (st:=zpj) (pend:=none) (R2:=fun r H'=>r=.v (B false)∧H'=upd (upd (upd (upd (upd (push hp (atW s H (.run 0))) (1,999) (znq .busy none)) (1,4) (.box [I .i32 u.1])) (1,5) (.box [I .i64 u.2.1])) (1,6) (.box [I .i64 u.2.2])) (1,7) (.box [B true])) rfl (by decide) (by simp) ?_ ?_ ?_ ?_
  · rw[show z1x (1+1) zpj=[(3,.ptr (2,3) 0),(4,.ptr (2,4) 0),(5,.ptr (2,5) 0),(6,.ptr (2,6) 0),(7,.ptr (2,7) 0)] by simp[zpj,z1x,PV.lift]]
    dsimp only[zrk,zi7,Tryz.f86]
    have hb3:upd (push hp (atW s H (.run 0))) (1,999) (znq .busy none) 1 3=some (.box [I .i64 0]):=rfl
    repeat' (first|refine z01 ?_|fail)
    refine zau rfl rfl ?_
    change Run _ _ _ _ ⟨_,_,_,upd (push hp (atW s H (.run 0))) (1,999) (znq .busy none)⟩
    have hb4:upd (push hp (atW s H (.run 0))) (1,999) (znq .busy none) 1 4=some (.box [I .i32 0]):=rfl
    have hb5:upd (push hp (atW s H (.run 0))) (1,999) (znq .busy none) 1 5=some (.box [I .i64 0]):=rfl
    have hb6:upd (push hp (atW s H (.run 0))) (1,999) (znq .busy none) 1 6=some (.box [I .i64 0]):=rfl
    have hb7:upd (push hp (atW s H (.run 0))) (1,999) (znq .busy none) 1 7=some (.box [B false]):=rfl
    generalize upd (push hp (atW s H (.run 0))) (1,999) (znq .busy none)=V at *
    repeat' (first|(apply z13;(refine z08 (z42 (b:=.box [I .i64 0]) rfl rfl rfl rfl) rfl (bkN hb3) ?_))|(apply z0w;(first|refine zc2 (raw':=.box [B true]) (by first|exact rfl|exact⟨_,rfl,rfl,rfl⟩) rfl (z07 (z07 (z07 hb7 (by simp)) (by simp)) (by simp)) rfl rfl rfl rfl rfl rfl ?_|refine zc2 (raw':=.box [I .i64 u.2.2]) (by first|exact rfl|exact⟨_,rfl,rfl,rfl⟩) rfl (z07 (z07 hb6 (by simp)) (by simp)) rfl rfl rfl rfl rfl rfl ?_|refine zc2 (raw':=.box [I .i64 u.2.1]) (by first|exact rfl|exact⟨_,rfl,rfl,rfl⟩) rfl (z07 hb5 (by simp)) rfl rfl rfl rfl rfl rfl ?_|refine zc2 (raw':=.box [I .i32 u.1]) (by first|exact rfl|exact⟨_,rfl,rfl,rfl⟩) rfl hb4 rfl rfl rfl rfl rfl rfl ?_))|refine z01 ?_|fail)
    all_goals try (exfalso;omega)
    all_goals exact zdk rfl ⟨rfl,rfl⟩
  · rintro H' ⟨h,_⟩;cases h
  · rintro H' ⟨_,rfl⟩
    refine⟨zpj,none,z07 (z07 (z07 (z07 (z0y _ _ _) (by simp)) (by simp)) (by simp)) (by simp),rfl,?_⟩
    funext d t
    match d with
    | 0=>rfl
    | d+2=>rfl
    | 1 =>
     by_cases h1:t=999
     · subst h1;rfl
     by_cases h2:t=7
     · subst h2;rfl
     by_cases h3:t=6
     · subst h3;rfl
     by_cases h4:t=5
     · subst h4;rfl
     by_cases h5:t=4
     · subst h5;rfl
     have k1:=Ne.symm h1
     have k2:=Ne.symm h2
     have k3:=Ne.symm h3
     have k4:=Ne.symm h4
     have k5:=Ne.symm h5
     simp[upd,push,atW,zpd,Ab.look,h1,h2,h3,h4,h5,k1,k2,k3,k4,k5]
  · rintro id H' ⟨h,_⟩;cases h
 | .run (i+1),h =>
  have hi:i+1≤1000000:=h
  refine y5x (n':=22) (f':=86) (t0:=11) (asg:=zrk) (body:=zi7) (st:=zpj) (pend:=none) (R2:=fun r H'=>r=.v (B true)∧H'=upd (upd (push hp (atW s H (.run (i+1)))) (1,999) (znq .busy none)) (1,3) (.box [I .i64 (i:Nat)])) rfl (by decide) (by simp) ?_ ?_ ?_ ?_
  · rw[show z1x (1+1) zpj=[(3,.ptr (2,3) 0),(4,.ptr (2,4) 0),(5,.ptr (2,5) 0),(6,.ptr (2,6) 0),(7,.ptr (2,7) 0)] by simp[zpj,z1x,PV.lift]]
    dsimp only[zrk,zi7,Tryz.f86]
    repeat' (first|refine z01 ?_|fail)
    refine zau rfl rfl ?_
    change Run _ _ _ _ ⟨_,_,_,upd (push hp (atW s H (.run (i+1)))) (1,999) (znq .busy none)⟩
    have hb3:upd (push hp (atW s H (.run (i+1)))) (1,999) (znq .busy none) 1 3=some (.box [I .i64 ((i+1:Nat):Int)]):=rfl
    generalize upd (push hp (atW s H (.run (i+1)))) (1,999) (znq .busy none)=V at *
    repeat' (first|(apply z13;(refine z08 (z42 (b:=.box [I .i64 ((i+1:Nat):Int)]) rfl rfl rfl rfl) rfl (bkN hb3) ?_))|(apply z1q;(refine zjw (raw':=.box [I .i64 (((i+1:Nat):Int)-1)]) hb3 ?_))|refine z01 ?_|fail)
    all_goals try (exfalso;omega)
    all_goals (rw[show ((i+1:Nat):Int)-1=(i:Nat) by omega];exact zdu rfl ⟨rfl,rfl⟩)
  · rintro H' ⟨_,rfl⟩
    refine⟨zpj,none,z07 (z0y _ _ _) (by simp),rfl,?_⟩
    funext d t
    match d with
    | 0=>rfl
    | d+2=>rfl
    | 1 =>
     by_cases h1:t=999
     · subst h1;rfl
     by_cases h2:t=7
     · subst h2;rfl
     by_cases h3:t=6
     · subst h3;rfl
     by_cases h4:t=5
     · subst h4;rfl
     by_cases h5:t=4
     · subst h5;rfl
     by_cases h6:t=3
     · subst h6;rfl
     have k1:=Ne.symm h1
     have k2:=Ne.symm h2
     have k3:=Ne.symm h3
     have k4:=Ne.symm h4
     have k5:=Ne.symm h5
     have k6:=Ne.symm h6
     simp[upd,push,atW,zpd,Ab.look,h1,h2,h3,h4,h5,h6,k1,k2,k3,k4,k5,k6]
  · rintro H' ⟨h,_⟩;cases h
  · rintro id H' ⟨h,_⟩;cases h
theorem ydv (s:ByteArray) (hs:s.size≤1000000) (i:Nat) (hi:i≤1000000):z09 Tryz.prog 86 [S s,I .i64 (i:Nat)] (atR s i):=by
 refine z0t fun H=>?_
 refine z06 Tryz.func86 (by kernel_rfl) rfl (by simp) ?_
 dsimp only[Tryz.f86]
 refine zby 901 ?_
 have h37:∀ (hp:Hp),Ab.look hp 901=some Blk.gone→z1y (0,901) hp=true→z74 Tryz.prog 119 [S s] (push hp H) ⟨fun r H'=>r=.v (.fn (.func 149) [] [.ptr (0,901) 0])∧H'=push ((901,.box [S s])::hp) H,fun x=>x=(0,901)∨x=(0,902),none⟩:=by
  exact zD25
 repeat' (first|(apply z10;(refine zfq (h37 _ rfl rfl) rfl rfl rfl (by decide) ?_))|(apply z2d;(refine z0h z5o ?_))|(apply z2c;(refine z0h z4x ?_))|refine z01 ?_|fail)
 all_goals try (exfalso;omega)
 refine z00 (tm':=[(3,.ptr (0,3) 0),(4,.ptr (0,4) 0),(5,.ptr (0,5) 0),(6,.ptr (0,6) 0),(7,.ptr (0,7) 0),(10,.fn (.func 149) [] [.ptr (0,901) 0])]) (hp':=[(7,.box [B false]),(6,.box [I .i64 0]),(5,.box [I .i64 0]),(4,.box [I .i32 0]),(3,.box [I .i64 (i:Nat)]),(901,.box [S s])]) ?_ rfl rfl
 have hsp:=zbr s hs (fun _=>yct) yad zpd (atW s H) (fun x=>by cases x <;> rfl) (fun x u _ h1 h2=>by
  match x,h1,h2 with
  | .run (i+1),h1,_=>have h1:i+1≤1000000:=h1;show i≤1000000;omega) (fun hp x u _ h1 h2=>zwo s H hp x u h1) (.run i) hi
 refine z6h 999 5000 zpj rfl rfl rfl rfl rfl hsp (fun m h=>h) ?_
 rintro r H2 ⟨_,rfl⟩
 rw[y0f,atR]
 cases (unF 0 (rst s 0))[i]? with
 | some u =>
  refine⟨.done,some .ret,zpj,_,H,rfl,by simp,?_⟩
  exact z02 Tryz.func86 _ (zil rfl rfl rfl rfl rfl rfl rfl rfl rfl rfl rfl rfl rfl rfl rfl rfl rfl) ⟨rfl,rfl⟩
 | none =>
  refine⟨.ready,none,zpj,_,H,rfl,by simp,?_⟩
  refine z00 (tm':=[(3,.ptr (0,3) 0),(4,.ptr (0,4) 0),(5,.ptr (0,5) 0),(6,.ptr (0,6) 0),(7,.ptr (0,7) 0)]) (hp':=[(7,.box [B false]),(6,.box [I .i64 0]),(5,.box [I .i64 0]),(4,.box [I .i32 0])]) ?_ rfl rfl
  repeat' (first|refine z01 ?_|fail)
  all_goals try (exfalso;omega)
  all_goals exact z02 Tryz.func86 _ (zil rfl rfl rfl rfl rfl rfl rfl rfl rfl rfl rfl rfl rfl rfl rfl rfl rfl) ⟨rfl,rfl⟩
def okU (u:Un):Bool:=!decide (u.1=65533)||decide (u.2.2=3)
theorem zzf (u:Un):z09 Tryz.prog 120 [.d (.agg (unc u))] (B (okU u)):=by
 refine z0t fun H=>?_
 refine z06 Tryz.func120 (by kernel_rfl) rfl (by simp) ?_
 dsimp only[Tryz.f120]
 rw[okU]
 by_cases h:u.1=65533
 · rw[zAi h,Bool.not_true,Bool.false_or]
   all_goals exact zD112
 · rw[zAo h,Bool.not_false,Bool.true_or]
   all_goals exact zD112
noncomputable def zth:Code:=match Tryz.f82.body with|some (.seq _ (.seq (.seq _ (.block _ (.rangeFunc _ _ a _))) _))=>a|_=>.skip
noncomputable def zhl:Code:=match Tryz.f82.body with|some (.seq _ (.seq (.seq _ (.block _ (.rangeFunc _ _ _ b))) _))=>b|_=>.skip
def zpk:List (Nat × PV):=[(2,.ptr (0,2) 0)]
noncomputable def zya (state:LoopState) (j:Option Code):Blk:=.lp 10 82 #[6] zth zhl zpk state j
noncomputable def vaW (s:ByteArray) (H:Hf):Bool→Hf
 | true=>push [(999,zya .ready none),(2,.box [B false]),(901,.box [S s])] H
 | false=>push [(999,zya .done (some .ret)),(2,.box [B false]),(901,.box [S s])] H
theorem zzk:∀ l:List Un,zhf (fun (_:Bool) u=>okU u) (fun _ u=>okU u) true l=l.all okU
 | []=>rfl
 | u::l=>by
  rw[zhf,List.all_cons]
  cases h:okU u with
  | true=>rw[zAz rfl,zzk l];rfl
  | false=>rw[zAy (by decide)];rfl
theorem zy9 (s:ByteArray) (H:Hf) (hp:Hp) (u:Un):ze6 Tryz.prog (1,999) [.d (.agg (unc u))] (push hp (vaW s H true)) (fun r H'=>r=.v (B (okU u))∧H'=push hp (vaW s H (okU u))) (fun y=>y=(1,5000)):=by
 have huv:=zzf u
 cases ho:okU u with
 | false =>
  rw[ho] at huv
  refine y5x (n':=10) (f':=82) (t0:=6) (asg:=zth) (body:=zhl) (st:=zpk) (pend:=none) (R2:=fun r H'=>r=.v (B false)∧H'=upd (upd (push hp (vaW s H true)) (1,999) (zya .busy none)) (1,2) (.box [B false])) rfl (by decide) (by simp) ?_ ?_ ?_ ?_
  · rw[show z1x (1+1) zpk=[(2,.ptr (2,2) 0)] by simp[zpk,z1x,PV.lift]]
    dsimp only[zth,zhl,Tryz.f82]
    repeat' (first|refine z01 ?_|fail)
    refine zau rfl rfl ?_
    change Run _ _ _ _ ⟨_,_,_,upd (push hp (vaW s H true)) (1,999) (zya .busy none)⟩
    have hb2:upd (push hp (vaW s H true)) (1,999) (zya .busy none) 1 2=some (.box [B false]):=rfl
    generalize upd (push hp (vaW s H true)) (1,999) (zya .busy none)=V at *
    repeat' (first|(apply z03;(refine z1n huv ?_))|(apply z1q;(refine zjw (raw':=.box [B false]) hb2 ?_))|refine z01 ?_|fail)
    all_goals try (exfalso;omega)
    all_goals exact zdk rfl ⟨rfl,rfl⟩
  · rintro H' ⟨h,_⟩;cases h
  · rintro H' ⟨_,rfl⟩
    refine⟨zpk,none,z07 (z0y _ _ _) (by simp),rfl,?_⟩
    funext d t
    match d with
    | 0=>rfl
    | d+2=>rfl
    | 1 =>
     by_cases h1:t=999
     · subst h1;rfl
     by_cases h2:t=2
     · subst h2;rfl
     have k1:=Ne.symm h1
     have k2:=Ne.symm h2
     simp[upd,push,vaW,Ab.look,h1,h2,k1,k2]
  · rintro id H' ⟨h,_⟩;cases h
 | true =>
  rw[ho] at huv
  refine y5x (n':=10) (f':=82) (t0:=6) (asg:=zth) (body:=zhl) (st:=zpk) (pend:=none) (R2:=fun r H'=>r=.v (B true)∧H'=upd (push hp (vaW s H true)) (1,999) (zya .busy none)) rfl (by decide) (by simp) ?_ ?_ ?_ ?_
  · rw[show z1x (1+1) zpk=[(2,.ptr (2,2) 0)] by simp[zpk,z1x,PV.lift]]
    dsimp only[zth,zhl,Tryz.f82]
    repeat' (first|refine z01 ?_|fail)
    refine zau rfl rfl ?_
    change Run _ _ _ _ ⟨_,_,_,upd (push hp (vaW s H true)) (1,999) (zya .busy none)⟩
    generalize upd (push hp (vaW s H true)) (1,999) (zya .busy none)=V at *
    repeat' (first|(apply z03;(refine z1n huv ?_))|refine z01 ?_|fail)
    all_goals try (exfalso;omega)
    all_goals exact zdu rfl ⟨rfl,rfl⟩
  · rintro H' ⟨_,rfl⟩
    refine⟨zpk,none,z0y _ _ _,rfl,?_⟩
    funext d t
    match d with
    | 0=>rfl
    | d+2=>rfl
    | 1 =>
     by_cases h1:t=999
     · subst h1;rfl
     have k1:=Ne.symm h1
     simp[upd,push,vaW,Ab.look,h1,k1]
  · rintro H' ⟨h,_⟩;cases h
  · rintro id H' ⟨h,_⟩;cases h
theorem ztk (s:ByteArray) (hs:s.size≤1000000):z09 Tryz.prog 82 [S s] (B ((unF 0 (rst s 0)).all okU)):=by
 refine z0t fun H=>?_
 refine z06 Tryz.func82 (by kernel_rfl) rfl (by simp) ?_
 dsimp only[Tryz.f82]
 refine zby 901 ?_
 have h37:∀ (hp:Hp),Ab.look hp 901=some Blk.gone→z1y (0,901) hp=true→z74 Tryz.prog 119 [S s] (push hp H) ⟨fun r H'=>r=.v (.fn (.func 149) [] [.ptr (0,901) 0])∧H'=push ((901,.box [S s])::hp) H,fun x=>x=(0,901)∨x=(0,902),none⟩:=by
  exact zD25
 repeat' (first|(apply z10;(refine zfq (h37 _ rfl rfl) rfl rfl rfl (by decide) ?_))|(apply z2d;(refine z0h z5o ?_))|refine z01 ?_|fail)
 all_goals try (exfalso;omega)
 refine z00 (tm':=[(2,.ptr (0,2) 0),(5,.fn (.func 149) [] [.ptr (0,901) 0])]) (hp':=[(2,.box [B false]),(901,.box [S s])]) ?_ rfl rfl
 have hsp:=zbr s hs (fun _ b=>b=true) (fun (_:Bool) u=>okU u) (fun _ u=>okU u) (vaW s H) (fun x=>by cases x <;> rfl) (fun x u _ h1 h2=>h2) (fun hp x u _ h1 h2=>by subst h1;exact zy9 s H hp u) true rfl
 refine z6h 999 5000 zpk rfl rfl rfl rfl rfl hsp (fun m h=>h) ?_
 rintro r H2 ⟨_,rfl⟩
 rw[zzk]
 cases (unF 0 (rst s 0)).all okU with
 | false =>
  refine⟨.done,some .ret,zpk,_,H,rfl,by simp,?_⟩
  exact z02 Tryz.func82 _ (zi9 rfl rfl rfl rfl rfl) ⟨rfl,rfl⟩
 | true =>
  refine⟨.ready,none,zpk,_,H,rfl,by simp,?_⟩
  refine z00 (tm':=[(2,.ptr (0,2) 0)]) (hp':=[(2,.box [B false])]) ?_ rfl rfl
  repeat' (first|refine z01 ?_|fail)
  all_goals try (exfalso;omega)
  all_goals exact z02 Tryz.func82 _ (zi9 rfl rfl rfl rfl rfl) ⟨rfl,rfl⟩
theorem y39 (r:Int) (h0:0≤r) (h1:r≤1114111):z09 Tryz.prog 179 [I .i32 r] (I .i32 (z5t r)):=by
 refine z0t fun H=>?_
 refine z06 Tryz.func179 (by kernel_rfl) rfl (by simp) ?_
 dsimp only[Tryz.f179]
 rw[z5t]
 by_cases hc:zua r
 · rw[zAz hc]
   rw[zua] at hc
   all_goals exact zD36
 · rw[zAy hc]
   rw[zua] at hc
   by_cases hd:1024≤r∧r≤1039
   · rw[zAz hd]
     all_goals exact zD36
   · rw[zAy hd]
     all_goals exact zD36
def inB (l:List Rg) (c:Int):Bool:=l.any fun r=>decide (r.1≤c)&&decide (c≤r.2)
theorem zp4 (l:List Rg) (hl:l.length≤9223372036854775807) (c:Int):z09 Tryz.prog 97 [.d (rgs l),I .i32 c] (B (inB l c)):=by
 refine z0t fun H=>?_
 refine z06 Tryz.func97 (by kernel_rfl) rfl (by simp) ?_
 dsimp only[Tryz.f97]
 repeat' (first|refine z01 ?_|fail)
 all_goals try (exfalso;omega)
 refine z0d ?_
 refine z00 (z0p (fun q:Nat=>⟨24,[(1,I .i32 c),(7,.d (rgs l)),(8,I .i64 l.length),(9,I .i64 (q:Nat))],[],H⟩) (fun q=>q≤l.length∧inB (l.drop q) c=inB l c) (fun q=>l.length-q) ?_ 0 ⟨zAf _,rfl⟩) rfl rfl
 intro q ⟨i1,i2⟩ ih
 by_cases hlt:q<l.length
 · obtain⟨r,hr⟩:∃ r,l[q]? =some r:=⟨_,zA0 hlt⟩
   rw[drop_cons hr,inB,List.any_cons,← inB] at i2
   by_cases hc:r.1≤c∧c≤r.2
   · rw[zAi hc.1,zAi hc.2,Bool.true_and,Bool.true_or] at i2
     rw[← i2]
     repeat' (first|(apply z04;(refine z08 (z1f (ys:=l.map rgc) rfl (idx hr)) rfl rfl ?_))|refine z01 ?_|refine fk (fun _=>?_) (fun _=>?_))
     all_goals try (exfalso;omega)
     all_goals exact z02 Tryz.func97 _ z1d ⟨rfl,rfl⟩
   · exact zD42
 · obtain rfl:q=l.length:=by omega
   rw[zAs,inB,List.any_nil] at i2
   rw[← i2]
   repeat' (first|refine z01 ?_|refine fk (fun _=>?_) (fun _=>?_))
   all_goals try (exfalso;omega)
   all_goals exact z02 Tryz.func97 _ z1d ⟨rfl,rfl⟩
attribute [local irreducible] z5p
noncomputable def y33:Code:=match Tryz.f142.body with|some (.seq _ (.seq _ (.seq (.seq _ (.block _ (.rangeFunc _ _ a _))) _)))=>a|_=>.skip
noncomputable def ztl:Code:=match Tryz.f142.body with|some (.seq _ (.seq _ (.seq (.seq _ (.block _ (.rangeFunc _ _ _ b))) _)))=>b|_=>.skip
def y4x:List (Nat × PV):=[(1,.ptr (0,1) 0),(3,.ptr (0,3) 0)]
noncomputable def y3g (state:LoopState):Blk:=.lp 36 142 #[11] y33 ztl y4x state none
abbrev b8r (q:List Int):Blk:=.row 5 1 (q.map by8)
abbrev pcU (s:ByteArray) (u:Un):List Int:=btI (pcS s u.1 u.2.1 u.2.2)
noncomputable def yb4 (s:ByteArray) (q:List Int):Hp:=[(999,y3g .ready),(3,.box [.ref (0,5000)]),(5000,b8r q),(1,.box [S s]),(901,.box [S s])]
noncomputable def foW (s:ByteArray) (H:Hf) (q:List Int):Hf:=push (yb4 s q) H
theorem z6g {m:Nm} (k:Nat):∀ {hp:Hp} {t:Nat} {b:Blk},z1y m (hp.filter fun q=>!(q.1 == k))=true→Ab.look hp t=some b→t≠k→b.says m=false
 | [],t,b,_,h,_=>by simp[Ab.look] at h
 | (x,q)::r,t,b,hq,h,hn=>by
  simp only[Ab.look] at h
  by_cases hx:x=k
  · subst hx
    simp only[List.filter,beq_self_eq_true,Bool.not_true] at hq
    rw[zAy (Ne.symm hn)] at h
    exact z6g x hq h hn
  · have:(!(x == k))=true:=by simpa using hx
    simp only[List.filter,this,z1y,zA7,zA6] at hq
    split at h
    · simp at h;subst h;exact hq.1
    · exact z6g k hq.2 h hn
theorem zw2 (s:ByteArray) (hs:s.size≤1000000) (H:Hf) (hp:Hp) (q:List Int) (u:Un) (hqt:z1y (1,5000) hp=true) (hok:(q.length:Int)≤4*u.2.1) (hu:y64 s u) :
 ze6 Tryz.prog (1,999) [.d (.agg (unc u))] (push hp (foW s H q)) (fun r H'=>r=.v (B true)∧H'=push hp (foW s H (q++pcU s u))) (fun y=>y=(1,5000)):=by
 have hlow:=y39 u.1 hu.r0 hu.r1
 obtain⟨z0,z1,z2,z3,z4⟩:=hu
 refine y5x (n':=36) (f':=142) (t0:=11) (asg:=y33) (body:=ztl) (st:=y4x) (pend:=none) (R2:=fun r H'=>r=.v (B true)∧H'=upd (upd (push hp (foW s H q)) (1,999) (y3g .busy)) (1,5000) (b8r (q++pcU s u))) rfl (by decide) (by simp) ?_ ?_ ?_ ?_
 · rw[show z1x (1+1) y4x=[(1,.ptr (2,1) 0),(3,.ptr (2,3) 0)] by simp[y4x,z1x,PV.lift]]
   dsimp only[y33,ztl,Tryz.f142]
   repeat' (first|refine z01 ?_|fail)
   refine zau rfl rfl ?_
   change Run _ _ _ _ ⟨_,_,_,upd (push hp (foW s H q)) (1,999) (y3g .busy)⟩
   have hb1:upd (push hp (foW s H q)) (1,999) (y3g .busy) 1 1=some (.box [S s]):=rfl
   have hb3:upd (push hp (foW s H q)) (1,999) (y3g .busy) 1 3=some (.box [.ref (0,5000)]):=rfl
   have hb5:upd (push hp (foW s H q)) (1,999) (y3g .busy) 1 5000=some (b8r q):=rfl
   obtain⟨U,hU⟩:∃ U,upd (push hp (foW s H q)) (1,999) (y3g .busy)=U:=⟨_,rfl⟩
   rw[hU] at hb1 hb3 hb5 ⊢
   refine z00 (tm':=[(4,.ptr (0,4) 0),(1,.ptr (2,1) 0),(3,.ptr (2,3) 0)]) (hp':=[(4,.box ((unc u).map .d))]) ?_ rfl rfl
   refine z47 700 1 3 hb3 rfl rfl ?_
   refine z1g 701 1 5000 (z07 hb5 (by simp)) rfl rfl ?_
   refine z3n 100701 rfl ?_
   refine z00 (tm':=[(4,.ptr (0,4) 0),(1,.ptr (2,1) 0),(3,.ptr (0,700) 0),(100700,.al (0,700) (2,3))]) (hp':=[(4,.box ((unc u).map .d)),(700,.box [.ref (0,701)]),(701,b8r q)]) ?_ rfl rfl
   obtain⟨V,hV⟩:∃ V,upd (upd U (1,3) .gone) (1,5000) .gone=V:=⟨_,rfl⟩
   have v1:V 1 1=some (.box [S s]):=by rw[← hV];exact z07 (z07 hb1 (by simp)) (by simp)
   have v3:V 1 3=some .gone:=by rw[← hV];exact z07 (z0y _ (1,3) _) (by simp)
   have v5:V 1 5000=some .gone:=by rw[← hV];exact z0y _ (1,5000) _
   rw[hV]
   have hqV:z6t V (1,5000):=by
    intro x y b hx hb
    rw[← hV,← hU] at hb
    simp only[upd] at hb
    split at hb
    · simp at hb;subst hb;rfl
    rename_i n1
    split at hb
    · simp at hb;subst hb;rfl
    rename_i n2
    split at hb
    · simp at hb;subst hb;rename_i n3;obtain⟨rfl,rfl⟩:=n3;rfl
    · match x,hx with
      | 0,_=>exact z2r hqt hb
      | 1,_ =>
       have hb':Ab.look (yb4 s q) y=some b:=hb
       refine z6g 3 (m:=(0,5000)) ?_ hb' (by omega)
       rfl
   have hps:=zni s u.1 u.2.1 u.2.2 z2 z3 z4
   have hbl:=zd5 (pcS s u.1 u.2.1 u.2.2)
   by_cases hl:z5t u.1=u.1
   · have hpc:pcS s u.1 u.2.1 u.2.2=s.extract u.2.1.toNat (u.2.1+u.2.2).toNat:=by rw[pcS,zAz hl]
     rw[pcU,hpc]
     rw[hpc] at hps hbl
     repeat' (first | (apply z0c; (refine z0f (z42 (b := .box [S s]) rfl rfl rfl rfl) rfl (bkN v1) ?_)) | (apply z4o; (refine z0f (zmv rfl (by omega) (by omega) (by omega)) rfl rfl ?_)) | (apply z1k; ((refine zh5 rfl rfl rfl rfl rfl rfl (by kernel_rfl) rfl (by decide) (by omega) ?_) /- z7d -/)) | (apply z97; ((refine z5k mix (by kernel_rfl) ?_) /- z9o -/)) | (apply z03; (refine z1n hlow ?_)) | refine z01 ?_ | refine fk (fun _ => ?_) (fun _ => ?_))
     all_goals try (exfalso;omega)
     refine z00 (tm':=[(100700,.al (0,700) (2,3))]) (hp':=[(700,.box [.ref (0,33)]),(33,b8r (q++btI _))]) ?_ rfl rfl
     refine zkc 33 1 5000 rfl v5 rfl rfl hqV ?_
     exact zD63
   · have hpc:pcS s u.1 u.2.1 u.2.2=Utf8.encode (z5t u.1):=by rw[pcS,zAy hl]
     rw[pcU,hpc]
     rw[hpc] at hps hbl
     repeat' (first | (apply z1k; ((refine zh5 rfl rfl rfl rfl rfl rfl (by kernel_rfl) rfl (by decide) (by omega) ?_) /- z7d -/)) | (apply z03; (refine z1n hlow ?_)) | (apply z3t; (refine z08 (z6d rfl rfl) rfl rfl ?_)) | refine z01 ?_ | refine fk (fun _ => ?_) (fun _ => ?_))
     all_goals try (exfalso;omega)
     refine z00 (tm':=[(100700,.al (0,700) (2,3))]) (hp':=[(700,.box [.ref (0,22)]),(22,b8r (q++btI _))]) ?_ rfl rfl
     refine zkc 22 1 5000 rfl v5 rfl rfl hqV ?_
     exact zD63
 · rintro H' ⟨_,rfl⟩
   refine⟨y4x,none,z07 (z0y _ _ _) (by simp),rfl,?_⟩
   rw[z7u (by simp),z1i]
   funext d t
   match d with
   | 0=>rfl
   | d+2=>rfl
   | 1 =>
    by_cases h1:t=5000
    · subst h1;rfl
    by_cases h2:t=999
    · subst h2;rfl
    by_cases h3:t=3
    · subst h3;rfl
    have k1:=Ne.symm h1
    have k2:=Ne.symm h2
    have k3:=Ne.symm h3
    simp[upd,push,foW,yb4,Ab.look,h1,h2,h3,k1,k2,k3]
 · rintro H' ⟨h,_⟩;cases h
 · rintro id H' ⟨h,_⟩;cases h
def zij (s:ByteArray):List Int→List Un→List Int
 | q,[]=>q
 | q,u::l=>zij s (q++pcU s u) l
theorem zzo (s:ByteArray):∀ (l:List Un) (q:List Int),zhf (fun (_:List Int) _=>true) (fun q u=>q++pcU s u) q l=zij s q l
 | [],q=>rfl
 | u::l,q=>by rw[zhf,zAz rfl,zzo s l];rfl
theorem y5r (s:ByteArray):btI s=(btN s).map fun x:Nat=>(x:Int):=by rw[btI,btN,List.map_map];rfl
theorem y6f (s:ByteArray):∀ (f i:Nat) (q:List Int),s.size-i≤f→zij s q (unF i (rst s i))=q++(fd ((btN s).drop i)).map fun x:Nat=>(x:Int)
 | 0,i,q,h=>by
  rw[z3g (by omega),List.drop_eq_nil_of_le (by rw[z3q];omega)]
  simp[unF,zij,fd,fdL]
 | f+1,i,q,h=>by
  by_cases hi:i<s.size
  · have hw:=z8a s i hi
    have hne:(btN s).drop i≠[]:=fun e=>by
     have:=congrArg List.length e
     rw[List.length_drop,z3q] at this;simp at this;omega
    rw[z5l hi,unF,zij,y6f s f _ _ (by simp only;omega),zjv hne,List.map_append,← y2j s i hi,← zfv s i hi,List.drop_drop,zAl]
    congr 1
    congr 1
    rw[pcU,y5r]
  · rw[z3g (s:=s) (i:=i) (by omega),List.drop_eq_nil_of_le (by rw[z3q];omega)]
    simp[unF,zij,fd,fdL]
theorem y9d (s:ByteArray):strOfNums (zij s [] (unF 0 (rst s 0)))=zb1 s:=by
 rw[y6f s s.size 0 [] (by omega),List.nil_append,List.drop_zero,zb1,y4l,strOfNums,List.map_map]
 rfl
theorem y15 (s:ByteArray) (hs:s.size≤1000000):z09 Tryz.prog 142 [S s] (S (zb1 s)):=by
 refine z0t fun H=>?_
 refine z06 Tryz.func142 (by kernel_rfl) rfl (by simp) ?_
 dsimp only[Tryz.f142]
 refine zby 901 ?_
 have h37:∀ (hp:Hp),Ab.look hp 901=some Blk.gone→z1y (0,901) hp=true→z74 Tryz.prog 119 [S s] (push hp H) ⟨fun r H'=>r=.v (.fn (.func 149) [] [.ptr (0,901) 0])∧H'=push ((901,.box [S s])::hp) H,fun x=>x=(0,901)∨x=(0,902),none⟩:=by
  exact zD25
 repeat' (first|(apply z10;(refine zfq (h37 _ rfl rfl) rfl rfl rfl (by decide) ?_))|(apply z2d;(refine z0h z5o ?_))|(apply z2c;(refine z0h z4x ?_))|refine z01 ?_|(apply z10;(refine zqy rfl rfl (by omega) (by omega) (by omega) (by decide) rfl rfl (by decide) rfl ?_)))
 all_goals try (exfalso;omega)
 refine z2y 8 5000 ?_
 refine z00 (tm':=[(1,.ptr (0,1) 0),(3,.ptr (0,3) 0),(10,.fn (.func 149) [] [.ptr (0,901) 0])]) (hp':=[(3,.box [.ref (0,5000)]),(5000,b8r []),(1,.box [S s]),(901,.box [S s])]) ?_ rfl rfl
 have hsp:=zbr s hs (fun i q=>(q.length:Int)≤4*i) (fun _ _=>true) (fun q u=>q++pcU s u) (foW s H) (fun x=>rfl) (fun x u hu h1 _=>by
  have h2:=zni s u.1 u.2.1 u.2.2 hu.a0 hu.n1 hu.e
  have h3:=zd5 (pcS s u.1 u.2.1 u.2.2)
  rw[zAa,pcU];omega) (fun hp x u hq h1 h2=>zw2 s hs H hp x u hq h1 h2) [] (by simp)
 refine z6h 999 5000 y4x rfl rfl rfl rfl rfl hsp (fun m h=>h) ?_
 rintro r H2 ⟨_,rfl⟩
 rw[zzo]
 have hstr:=y9d s
 generalize zij s [] (unF 0 (rst s 0))=Q at *
 refine⟨.ready,none,y4x,_,H,rfl,by simp,?_⟩
 refine z00 (tm':=[(1,.ptr (0,1) 0),(3,.ptr (0,3) 0)]) (hp':=[(3,.box [.ref (0,5000)]),(5000,b8r Q)]) ?_ rfl rfl
 refine z0z 5000 rfl ?_
 repeat' (first|refine z01 ?_|(apply z10;(refine z08 (zu7 rfl rfl rfl) rfl rfl ?_)))
 all_goals try (exfalso;omega)
 all_goals exact z02 Tryz.func142 _ z1d ⟨congrArg (fun b=>RV.v (S b)) hstr,rfl⟩
end Go.Proofs.YtmcggompdmngmaaGreatDoor
