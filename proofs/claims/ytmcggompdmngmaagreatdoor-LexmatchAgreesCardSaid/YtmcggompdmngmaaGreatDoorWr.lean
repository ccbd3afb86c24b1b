/- A part of the proof: G16 to G30. -/
import Derived.Test.YtmcggompdmngmaaGreatDoorWc
import Derived.Test.YtmcggompdmngmaaGreatDoorWt
import Derived.Test.YtmcggompdmngmaaGreatDoorWx
set_option linter.all false
namespace Go.Proofs.YtmcggompdmngmaaGreatDoor
open Go.Ab Go.Rx
set_option maxHeartbeats 20000000
set_option maxRecDepth 100000
attribute [local irreducible] Run Ops Op1 z14 Val Tr z0d z0w NF Rel z1z z27
abbrev Un:=Int × Int × Int
abbrev unc (u:Un):List D:=[z1j u.1,z4n u.2.1,z4n u.2.2]
def unF:Nat→List U→List Un
 | _,[]=>[]
 | i,u::l=>(u.r,(i:Int),(u.n:Int))::unF (i+u.n) l
def zhq {σ:Type} (go:σ→Un→Bool) (stp:σ→Un→σ):σ→List Un→σ
 | x,[]=>x
 | x,u::l=>if go x u=true then zhq go stp (stp x u) l else stp x u
theorem zhf (s:ByteArray) (H:Hf) (h1:H 0 901=some .gone) (q1:z74 H (0,901)) :
 z8o Tryz.prog 119 [S s] H ⟨fun r H'=>r=.v (.fn (.func 149) [] [.ptr (0,901) 0])∧H'=upd H (0,901) (.box [S s]),fun x=>x=(0,901)∨x=(0,902),none⟩:=by
 refine z4j Tryz.func119 (by kernel_rfl) rfl (by simp) ?_
 dsimp only[Tryz.f119]
 repeat' (first|(apply z2n;(refine z0j z5k ?_))|refine z05 ?_|(apply z1b;(refine z9k rfl rfl (by decide) ?_)))
 refine y3k 1 0 901 (q:=.box [S s]) rfl rfl h1 (.inl rfl) (by simp[z2o,Blk.says,PV.says,PV.saysL,PV.lift]) q1 ?_
 exact z00 Tryz.func119 _ (y88 (.fn (.func 149) [] [.ptr (0,901) 0]) rfl rfl) ⟨rfl,rfl⟩
structure y4s (s:ByteArray) (u:Un):Prop where
 r0:0≤u.1
 r1:u.1≤1114111
 a0:0≤u.2.1
 n1:1≤u.2.2
 e:u.2.1+u.2.2≤s.size
theorem zc1 {σ:Type} (s:ByteArray) (hs:s.size≤1000000) (ok:Int→σ→Prop) (go:σ→Un→Bool) (stp:σ→Un→σ) (W:σ→Hf) (hW:∀ x,W x 0 901=some (.box [S s]))
 (hok:∀ x u,y4s s u→ok u.2.1 x→go x u=true→ok (u.2.1+u.2.2) (stp x u))
 (hY:∀ (hp:Hp) (x:σ) (u:Un),z2o (1,5000) hp=true→ok u.2.1 x→y4s s u→zeg Tryz.prog (1,999) [.d (.agg (unc u))] (push hp (W x)) (fun r H'=>r=.v (B (go x u))∧H'=push hp (W (stp x u))) (fun y=>y=(1,5000)))
 (x0:σ) (h0:ok 0 x0):z8o Tryz.prog 149 [.yl (0,999),.ptr (0,901) 0] (W x0) ⟨fun r H'=>r=.v (.tup [])∧H'=W (zhq go stp x0 (unF 0 (rst s 0))),fun x=>x=(0,5000),none⟩:=by
 refine z4j Tryz.func149 (by kernel_rfl) rfl (by simp) ?_
 dsimp only[Tryz.f149]
 have hw0:=hW x0
 obtain⟨T,hT⟩:∃ T,zhq go stp x0 (unF 0 (rst s 0))=T:=⟨_,rfl⟩
 rw[hT]
 repeat' (first|(apply z0i;(refine z0c (z3z (b:=.box [S s]) rfl rfl rfl rfl) rfl (bkN hw0) ?_))|refine z05 ?_|(apply z1b;(refine z8t rfl rfl rfl (by decide) ?_)))
 all_goals try (exfalso;omega)
 refine z0l ?_
 refine z01 (z0x (fun q:Nat × Int × Int × σ=>⟨42,[(0,.yl (1,999)),(1,.ptr (1,901) 0),(3,.ptr (0,3) 0),(8,.ptr (0,8) 0)],[(3,.box [I .i32 q.2.1,I .i64 q.2.2.1,I .i64 0]),(8,.siter s q.1)],W q.2.2.2⟩)
  (fun q=>q.1≤s.size∧(0≤q.2.2.1→ok q.2.2.1 q.2.2.2)∧((q.1=0∧q.2.2.1=-1∧q.2.2.2=x0)∨(0≤q.2.2.1∧q.2.2.1<q.1∧0≤q.2.1∧q.2.1≤1114111∧zhq go stp q.2.2.2 ((q.2.1,q.2.2.1,(q.1:Int)-q.2.2.1)::unF q.1 (rst s q.1))=T))) (fun q=>s.size-q.1) ?_ (0,0,-1,x0) ⟨zAf _,fun h=>by simp at h,.inl ⟨rfl,rfl,rfl⟩⟩) rfl rfl
 rintro⟨q,r,a,x⟩ ⟨i1,i2,i3⟩ ih
 simp only at i1 i2 i3 ih ⊢
 have hwx:=hW x
 by_cases hlt:q<s.size
 · have hd:=z3c hlt
   have hw:=z6i s q hlt
   have hdh:=zbn s q
   rcases i3 with ⟨rfl,rfl,rfl⟩|⟨a0,a1,r0,r1,hrun⟩
   · have ih':=ih (0+(Utf8.decode s 0).2,((Utf8.decode s 0).1:Nat),0,x) ⟨by simp only;omega,fun _=>h0,.inr ⟨by simp,by simp only;omega,by simp only;omega,by simp only;omega,by
      rw[hd] at hT
      simp only[unF] at hT
      simp only[Int.sub_zero]
      rw[← hT];simp⟩⟩ (by simp only;omega)
     repeat' (first|refine z05 ?_|(apply z1b;(refine z1s hlt rfl rfl (by decide) ?_)))
     all_goals exact zD12
   · have hu:y4s s (r,a,(q:Int)-a):=⟨r0,r1,a0,by simp only;omega,by simp only;omega⟩
     rw[zhq] at hrun
     cases hg:go x (r,a,(q:Int)-a) with
     | true =>
      rw[zAz hg] at hrun
      have hy:∀ hp:Hp,z2o (1,5000) hp=true→zeg Tryz.prog (1,999) [.d (.agg (unc (r,a,(q:Int)-a)))] (push hp (W x)) (fun r' H'=>r'=.v (B true)∧H'=push hp (W (stp x (r,a,(q:Int)-a)))) (fun y=>y=(1,5000)):=fun hp hqq=>by
       have:=hY hp x _ hqq (i2 a0) hu
       rwa [hg] at this
      have ih':=ih (q+(Utf8.decode s q).2,((Utf8.decode s q).1:Nat),(q:Nat),stp x (r,a,(q:Int)-a)) ⟨by simp only;omega,fun _=>by have:=hok _ _ hu (i2 a0) hg;simp only at this;rwa [show a+((q:Int)-a)=(q:Nat) by omega] at this,.inr ⟨by simp only;omega,by simp only;omega,by simp only;omega,by simp only;omega,by
       rw[hd] at hrun
       simp only[unF] at hrun
       rw[show ((q+(Utf8.decode s q).2:Nat):Int)-(q:Nat)=((Utf8.decode s q).2:Nat) by omega]
       exact hrun⟩⟩ (by simp only;omega)
      repeat' (first|(apply z1b;(refine zhd (mv:=(0,5000)) (hy _ (by rfl)) rfl rfl rfl rfl (by decide) ?_))|refine z05 ?_|refine fk (fun _=>?_) (fun _=>?_)|(apply z1b;(refine z1s hlt rfl rfl (by decide) ?_)))
      all_goals exact zD12
     | false =>
      rw[zAy (by rw[hg];decide)] at hrun
      have hy:∀ hp:Hp,z2o (1,5000) hp=true→zeg Tryz.prog (1,999) [.d (.agg (unc (r,a,(q:Int)-a)))] (push hp (W x)) (fun r' H'=>r'=.v (B false)∧H'=push hp (W (stp x (r,a,(q:Int)-a)))) (fun y=>y=(1,5000)):=fun hp hqq=>by
       have:=hY hp x _ hqq (i2 a0) hu
       rwa [hg] at this
      repeat' (first|(apply z1b;(refine zhd (mv:=(0,5000)) (hy _ (by rfl)) rfl rfl rfl rfl (by decide) ?_))|refine z05 ?_|refine fk (fun _=>?_) (fun _=>?_)|(apply z1b;(refine z1s hlt rfl rfl (by decide) ?_)))
      all_goals try (exfalso;omega)
      all_goals exact z00 Tryz.func149 _ (z2q rfl) ⟨rfl,congrArg W hrun⟩
 · obtain rfl:q=s.size:=by omega
   have hd:=z29 (s:=s) (i:=s.size) (zAj _)
   rcases i3 with ⟨h1,rfl,rfl⟩|⟨a0,a1,r0,r1,hrun⟩
   · rw[← h1,hd] at hT
     simp only[unF,zhq] at hT
     repeat' (first|(apply z0i;(refine z0c (z3z (b:=.box [S s]) rfl rfl rfl rfl) rfl (bkN hwx) ?_))|refine z05 ?_|(apply z1b;(refine z2p hlt rfl rfl (by decide) ?_)))
     all_goals try (exfalso;omega)
     all_goals exact zdp Tryz.func149 _ (z2q rfl) ⟨rfl,congrArg W hT⟩
   · have hu:y4s s (r,a,(s.size:Int)-a):=⟨r0,r1,a0,by simp only;omega,by simp only;omega⟩
     rw[hd] at hrun
     simp only[unF,zhq,ite_self] at hrun
     repeat' (first|(apply z1b;(refine zhd (mv:=(0,5000)) (hY _ x (r,a,(s.size:Int)-a) (by rfl) (i2 a0) hu) rfl rfl rfl rfl (by decide) ?_))|(apply z0i;(refine z0c (z3z (b:=.box [S s]) rfl rfl rfl rfl) rfl (bkN hwx) ?_))|refine z05 ?_|refine fk (fun _=>?_) (fun _=>?_)|(apply z1b;(refine z2p hlt rfl rfl (by decide) ?_)))
     all_goals try (exfalso;omega)
     all_goals exact zdp Tryz.func149 _ (z2q rfl) ⟨rfl,congrArg W hrun⟩
theorem z9t {hp:Hp} {up:Hf} (c:Nat) {q:Blk}:upd (push hp up) (0,c) q=push ((c,q)::hp) up:=by
 funext d s
 cases d with
 | zero =>
  simp only[upd,push,Ab.look,true_and]
  by_cases h1:s=c
  · rw[zAz h1,zAz h1.symm]
  · rw[zAy h1,zAy (Ne.symm h1)]
 | succ d=>simp[upd,push]
def atR (s:ByteArray) (i:Nat):PV:=match (unF 0 (rst s 0))[i]? with
 | some u=>.tup [I .i32 u.1,I .i64 u.2.1,I .i64 u.2.2,B true]
 | none=>.tup [I .i32 0,I .i64 0,I .i64 0,B false]
noncomputable def zqm:Code:=match Tryz.f86.body with|some (.seq _ (.seq (.seq _ (.block _ (.rangeFunc _ _ a _))) _))=>a|_=>.skip
noncomputable def zi4:Code:=match Tryz.f86.body with|some (.seq _ (.seq (.seq _ (.block _ (.rangeFunc _ _ _ b))) _))=>b|_=>.skip
def zpf:List (Nat × PV):=[(3,.ptr (0,3) 0),(4,.ptr (0,4) 0),(5,.ptr (0,5) 0),(6,.ptr (0,6) 0),(7,.ptr (0,7) 0)]
noncomputable def znc (state:LoopState) (j:Option Code):Blk:=.lp 22 86 #[11] zqm zi4 zpf state j
inductive AtS where
 | run (i:Nat)
 | fin (u:Un)
noncomputable def atW (s:ByteArray) (H:Hf):AtS→Hf
 | .run i=>push [(999,znc .ready none),(7,.box [B false]),(6,.box [I .i64 0]),(5,.box [I .i64 0]),(4,.box [I .i32 0]),(3,.box [I .i64 (i:Nat)]),(901,.box [S s])] H
 | .fin u=>push [(999,znc .done (some .ret)),(7,.box [B true]),(6,.box [I .i64 u.2.2]),(5,.box [I .i64 u.2.1]),(4,.box [I .i32 u.1]),(3,.box [I .i64 0]),(901,.box [S s])] H
def y8s:AtS→Un→Bool
 | .run 0,_=>false
 | .run (_+1),_=>true
 | .fin _,_=>false
def zor:AtS→Un→AtS
 | .run 0,u=>.fin u
 | .run (i+1),_=>.run i
 | .fin v,_=>.fin v
def ybe:AtS→Prop
 | .run i=>i≤1000000
 | .fin _=>False
theorem zzg:∀ (l:List Un) (i:Nat),zhq y8s zor (.run i) l=match l[i]? with|some u=>.fin u|none=>.run (i-l.length)
 | [],i=>by simp[zhq]
 | u::l,0=>by rw[zhq,zAy (by simp[y8s])];rfl
 | u::l,i+1=>by
  rw[zhq,zAz (by rfl),show zor (.run (i+1)) u=.run i from rfl,zzg l i,List.getElem?_cons_succ,zAk,show i+1-(l.length+1)=i-l.length by omega]
theorem zy1 (s:ByteArray) (H:Hf) (hp:Hp) (x:AtS) (u:Un) (hx:ybe x):zeg Tryz.prog (1,999) [.d (.agg (unc u))] (push hp (atW s H x)) (fun r H'=>r=.v (B (y8s x u))∧H'=push hp (atW s H (zor x u))) (fun y=>y=(1,5000)):=by
 match x,hx with
 | .run 0,_ =>
  refine y4v (n':=22) (f':=86) (t0:=11) (asg:=zqm) (body:=zi4) (st:=zpf) (pend:=none) (R2:=fun r H'=>r=.v (B false)∧H'=upd (upd (upd (upd (upd (push hp (atW s H (.run 0))) (1,999) (znc .busy none)) (1,4) (.box [I .i32 u.1])) (1,5) (.box [I .i64 u.2.1])) (1,6) (.box [I .i64 u.2.2])) (1,7) (.box [B true])) rfl (by decide) (by simp) ?_ ?_ ?_ ?_
  · rw[show z2c (1+1) zpf=[(3,.ptr (2,3) 0),(4,.ptr (2,4) 0),(5,.ptr (2,5) 0),(6,.ptr (2,6) 0),(7,.ptr (2,7) 0)] by simp[zpf,z2c,PV.lift]]
    dsimp only[zqm,zi4,Tryz.f86]
    have hb3:upd (push hp (atW s H (.run 0))) (1,999) (znc .busy none) 1 3=some (.box [I .i64 0]):=rfl
    repeat' (first|refine z05 ?_|fail)
    refine zag rfl rfl ?_
    change Run _ _ _ _ ⟨_,_,_,upd (push hp (atW s H (.run 0))) (1,999) (znc .busy none)⟩
    have hb4:upd (push hp (atW s H (.run 0))) (1,999) (znc .busy none) 1 4=some (.box [I .i32 0]):=rfl
    have hb5:upd (push hp (atW s H (.run 0))) (1,999) (znc .busy none) 1 5=some (.box [I .i64 0]):=rfl
    have hb6:upd (push hp (atW s H (.run 0))) (1,999) (znc .busy none) 1 6=some (.box [I .i64 0]):=rfl
    have hb7:upd (push hp (atW s H (.run 0))) (1,999) (znc .busy none) 1 7=some (.box [B false]):=rfl
    generalize upd (push hp (atW s H (.run 0))) (1,999) (znc .busy none)=V at *
    repeat' (first|(apply z0i;(refine z0c (z3z (b:=.box [I .i64 0]) rfl rfl rfl rfl) rfl (bkN hb3) ?_))|(apply z15;(first|refine zc2 (raw':=.box [B true]) (by first|exact rfl|exact⟨_,rfl,rfl,rfl⟩) rfl (z0b (z0b (z0b hb7 (by simp)) (by simp)) (by simp)) rfl rfl rfl rfl rfl rfl ?_|refine zc2 (raw':=.box [I .i64 u.2.2]) (by first|exact rfl|exact⟨_,rfl,rfl,rfl⟩) rfl (z0b (z0b hb6 (by simp)) (by simp)) rfl rfl rfl rfl rfl rfl ?_|refine zc2 (raw':=.box [I .i64 u.2.1]) (by first|exact rfl|exact⟨_,rfl,rfl,rfl⟩) rfl (z0b hb5 (by simp)) rfl rfl rfl rfl rfl rfl ?_|refine zc2 (raw':=.box [I .i32 u.1]) (by first|exact rfl|exact⟨_,rfl,rfl,rfl⟩) rfl hb4 rfl rfl rfl rfl rfl rfl ?_))|refine z05 ?_|fail)
    all_goals try (exfalso;omega)
    all_goals exact ze4 rfl ⟨rfl,rfl⟩
  · rintro H' ⟨h,_⟩;cases h
  · rintro H' ⟨_,rfl⟩
    refine⟨zpf,none,z0b (z0b (z0b (z0b (z1a _ _ _) (by simp)) (by simp)) (by simp)) (by simp),rfl,?_⟩
    funext d t
    match d with
    | 0=>rfl
    | d+2=>rfl
    | 1 =>
     by_cases h1:t=999
     · subst h1;rfl
     by_cases h2:t=7
     · subst h2;rfl
     by_cases h3:t=6
     · subst h3;rfl
     by_cases h4:t=5
     · subst h4;rfl
     by_cases h5:t=4
     · subst h5;rfl
     have k1:=Ne.symm h1
     have k2:=Ne.symm h2
     have k3:=Ne.symm h3
     have k4:=Ne.symm h4
     have k5:=Ne.symm h5
     simp[upd,push,atW,zor,Ab.look,h1,h2,h3,h4,h5,k1,k2,k3,k4,k5]
  · rintro id H' ⟨h,_⟩;cases h
 | .run (i+1),h =>
  have hi:i+1≤1000000:=h
  refine y4v (n':=22) (f':=86) (t0:=11) (asg:=zqm) (body:=zi4) (st:=zpf) (pend:=none) (R2:=fun r H'=>r=.v (B true)∧H'=upd (upd (push hp (atW s H (.run (i+1)))) (1,999) (znc .busy none)) (1,3) (.box [I .i64 (i:Nat)])) rfl (by decide) (by simp) ?_ ?_ ?_ ?_
  · rw[show z2c (1+1) zpf=[(3,.ptr (2,3) 0),(4,.ptr (2,4) 0),(5,.ptr (2,5) 0),(6,.ptr (2,6) 0),(7,.ptr (2,7) 0)] by simp[zpf,z2c,PV.lift]]
    dsimp only[zqm,zi4,Tryz.f86]
    repeat' (first|refine z05 ?_|fail)
    refine zag rfl rfl ?_
    change Run _ _ _ _ ⟨_,_,_,upd (push hp (atW s H (.run (i+1)))) (1,999) (znc .busy none)⟩
    have hb3:upd (push hp (atW s H (.run (i+1)))) (1,999) (znc .busy none) 1 3=some (.box [I .i64 ((i+1:Nat):Int)]):=rfl
    generalize upd (push hp (atW s H (.run (i+1)))) (1,999) (znc .busy none)=V at *
    repeat' (first|(apply z0i;(refine z0c (z3z (b:=.box [I .i64 ((i+1:Nat):Int)]) rfl rfl rfl rfl) rfl (bkN hb3) ?_))|(apply z0o;(refine z1r (raw':=.box [I .i64 (((i+1:Nat):Int)-1)]) hb3 ?_))|refine z05 ?_|fail)
    all_goals try (exfalso;omega)
    all_goals (rw[show ((i+1:Nat):Int)-1=(i:Nat) by omega];exact zcz rfl ⟨rfl,rfl⟩)
  · rintro H' ⟨_,rfl⟩
    refine⟨zpf,none,z0b (z1a _ _ _) (by simp),rfl,?_⟩
    funext d t
    match d with
    | 0=>rfl
    | d+2=>rfl
    | 1 =>
     by_cases h1:t=999
     · subst h1;rfl
     by_cases h2:t=7
     · subst h2;rfl
     by_cases h3:t=6
     · subst h3;rfl
     by_cases h4:t=5
     · subst h4;rfl
     by_cases h5:t=4
     · subst h5;rfl
     by_cases h6:t=3
     · subst h6;rfl
     have k1:=Ne.symm h1
     have k2:=Ne.symm h2
     have k3:=Ne.symm h3
     have k4:=Ne.symm h4
     have k5:=Ne.symm h5
     have k6:=Ne.symm h6
     simp[upd,push,atW,zor,Ab.look,h1,h2,h3,h4,h5,h6,k1,k2,k3,k4,k5,k6]
  · rintro H' ⟨h,_⟩;cases h
  · rintro id H' ⟨h,_⟩;cases h
theorem ybp (s:ByteArray) (hs:s.size≤1000000) (i:Nat) (hi:i≤1000000):z0d Tryz.prog 86 [S s,I .i64 (i:Nat)] (atR s i):=by
 refine z0y fun H=>?_
 refine z08 Tryz.func86 (by kernel_rfl) rfl (by simp) ?_
 dsimp only[Tryz.f86]
 refine zc9 901 ?_
 have h37:∀ (hp:Hp),Ab.look hp 901=some Blk.gone→z2o (0,901) hp=true→z8o Tryz.prog 119 [S s] (push hp H) ⟨fun r H'=>r=.v (.fn (.func 149) [] [.ptr (0,901) 0])∧H'=push ((901,.box [S s])::hp) H,fun x=>x=(0,901)∨x=(0,902),none⟩:=by
  exact zD35
 repeat' (first|(apply z1b;(refine zhj (h37 _ rfl rfl) rfl rfl rfl (by decide) ?_))|(apply z1w;(refine z0j z4e ?_))|(apply z2n;(refine z0j z5k ?_))|refine z05 ?_|fail)
 all_goals try (exfalso;omega)
 refine z01 (tm':=[(3,.ptr (0,3) 0),(4,.ptr (0,4) 0),(5,.ptr (0,5) 0),(6,.ptr (0,6) 0),(7,.ptr (0,7) 0),(10,.fn (.func 149) [] [.ptr (0,901) 0])]) (hp':=[(7,.box [B false]),(6,.box [I .i64 0]),(5,.box [I .i64 0]),(4,.box [I .i32 0]),(3,.box [I .i64 (i:Nat)]),(901,.box [S s])]) ?_ rfl rfl
 have hsp:=zc1 s hs (fun _=>ybe) y8s zor (atW s H) (fun x=>by cases x <;> rfl) (fun x u _ h1 h2=>by
  match x,h1,h2 with
  | .run (i+1),h1,_=>have h1:i+1≤1000000:=h1;show i≤1000000;omega) (fun hp x u _ h1 h2=>zy1 s H hp x u h1) (.run i) hi
 refine z6n 999 5000 zpf rfl rfl rfl rfl rfl hsp (fun m h=>h) ?_
 rintro r H2 ⟨_,rfl⟩
 rw[zzg,atR]
 cases (unF 0 (rst s 0))[i]? with
 | some u =>
  refine⟨.done,some .ret,zpf,_,H,rfl,by simp,?_⟩
  exact z00 Tryz.func86 _ (zj5 rfl rfl rfl rfl rfl rfl rfl rfl rfl rfl rfl rfl rfl rfl rfl rfl rfl) ⟨rfl,rfl⟩
 | none =>
  refine⟨.ready,none,zpf,_,H,rfl,by simp,?_⟩
  refine z01 (tm':=[(3,.ptr (0,3) 0),(4,.ptr (0,4) 0),(5,.ptr (0,5) 0),(6,.ptr (0,6) 0),(7,.ptr (0,7) 0)]) (hp':=[(7,.box [B false]),(6,.box [I .i64 0]),(5,.box [I .i64 0]),(4,.box [I .i32 0])]) ?_ rfl rfl
  repeat' (first|refine z05 ?_|fail)
  all_goals try (exfalso;omega)
  all_goals exact z00 Tryz.func86 _ (zj5 rfl rfl rfl rfl rfl rfl rfl rfl rfl rfl rfl rfl rfl rfl rfl rfl rfl) ⟨rfl,rfl⟩
def okU (u:Un):Bool:=!decide (u.1=65533)||decide (u.2.2=3)
theorem zv2 (u:Un):z0d Tryz.prog 120 [.d (.agg (unc u))] (B (okU u)):=by
 refine z0y fun H=>?_
 refine z08 Tryz.func120 (by kernel_rfl) rfl (by simp) ?_
 dsimp only[Tryz.f120]
 rw[okU]
 by_cases h:u.1=65533
 · rw[zAi h,Bool.not_true,Bool.false_or]
   all_goals exact zD129
 · rw[zAo h,Bool.not_false,Bool.true_or]
   all_goals exact zD129
noncomputable def zub:Code:=match Tryz.f82.body with|some (.seq _ (.seq (.seq _ (.block _ (.rangeFunc _ _ a _))) _))=>a|_=>.skip
noncomputable def zin:Code:=match Tryz.f82.body with|some (.seq _ (.seq (.seq _ (.block _ (.rangeFunc _ _ _ b))) _))=>b|_=>.skip
def zpd:List (Nat × PV):=[(2,.ptr (0,2) 0)]
noncomputable def zvo (state:LoopState) (j:Option Code):Blk:=.lp 10 82 #[6] zub zin zpd state j
noncomputable def vaW (s:ByteArray) (H:Hf):Bool→Hf
 | true=>push [(999,zvo .ready none),(2,.box [B false]),(901,.box [S s])] H
 | false=>push [(999,zvo .done (some .ret)),(2,.box [B false]),(901,.box [S s])] H
theorem y0g:∀ l:List Un,zhq (fun (_:Bool) u=>okU u) (fun _ u=>okU u) true l=l.all okU
 | []=>rfl
 | u::l=>by
  rw[zhq,List.all_cons]
  cases h:okU u with
  | true=>rw[zAz rfl,y0g l];rfl
  | false=>rw[zAy (by decide)];rfl
theorem zuw (s:ByteArray) (H:Hf) (hp:Hp) (u:Un):zeg Tryz.prog (1,999) [.d (.agg (unc u))] (push hp (vaW s H true)) (fun r H'=>r=.v (B (okU u))∧H'=push hp (vaW s H (okU u))) (fun y=>y=(1,5000)):=by
 have huv:=zv2 u
 cases ho:okU u with
 | false =>
  rw[ho] at huv
  refine y4v (n':=10) (f':=82) (t0:=6) (asg:=zub) (body:=zin) (st:=zpd) (pend:=none) (R2:=fun r H'=>r=.v (B false)∧H'=upd (upd (push hp (vaW s H true)) (1,999) (zvo .busy none)) (1,2) (.box [B false])) rfl (by decide) (by simp) ?_ ?_ ?_ ?_
  · rw[show z2c (1+1) zpd=[(2,.ptr (2,2) 0)] by simp[zpd,z2c,PV.lift]]
    dsimp only[zub,zin,Tryz.f82]
    repeat' (first|refine z05 ?_|fail)
    refine zag rfl rfl ?_
    change Run _ _ _ _ ⟨_,_,_,upd (push hp (vaW s H true)) (1,999) (zvo .busy none)⟩
    have hb2:upd (push hp (vaW s H true)) (1,999) (zvo .busy none) 1 2=some (.box [B false]):=rfl
    generalize upd (push hp (vaW s H true)) (1,999) (zvo .busy none)=V at *
    repeat' (first|(apply z03;(refine z1i huv ?_))|(apply z0o;(refine z1r (raw':=.box [B false]) hb2 ?_))|refine z05 ?_|fail)
    all_goals try (exfalso;omega)
    all_goals exact ze4 rfl ⟨rfl,rfl⟩
  · rintro H' ⟨h,_⟩;cases h
  · rintro H' ⟨_,rfl⟩
    refine⟨zpd,none,z0b (z1a _ _ _) (by simp),rfl,?_⟩
    funext d t
    match d with
    | 0=>rfl
    | d+2=>rfl
    | 1 =>
     by_cases h1:t=999
     · subst h1;rfl
     by_cases h2:t=2
     · subst h2;rfl
     have k1:=Ne.symm h1
     have k2:=Ne.symm h2
     simp[upd,push,vaW,Ab.look,h1,h2,k1,k2]
  · rintro id H' ⟨h,_⟩;cases h
 | true =>
  rw[ho] at huv
  refine y4v (n':=10) (f':=82) (t0:=6) (asg:=zub) (body:=zin) (st:=zpd) (pend:=none) (R2:=fun r H'=>r=.v (B true)∧H'=upd (push hp (vaW s H true)) (1,999) (zvo .busy none)) rfl (by decide) (by simp) ?_ ?_ ?_ ?_
  · rw[show z2c (1+1) zpd=[(2,.ptr (2,2) 0)] by simp[zpd,z2c,PV.lift]]
    dsimp only[zub,zin,Tryz.f82]
    repeat' (first|refine z05 ?_|fail)
    refine zag rfl rfl ?_
    change Run _ _ _ _ ⟨_,_,_,upd (push hp (vaW s H true)) (1,999) (zvo .busy none)⟩
    generalize upd (push hp (vaW s H true)) (1,999) (zvo .busy none)=V at *
    repeat' (first|(apply z03;(refine z1i huv ?_))|refine z05 ?_|fail)
    all_goals try (exfalso;omega)
    all_goals exact zcz rfl ⟨rfl,rfl⟩
  · rintro H' ⟨_,rfl⟩
    refine⟨zpd,none,z1a _ _ _,rfl,?_⟩
    funext d t
    match d with
    | 0=>rfl
    | d+2=>rfl
    | 1 =>
     by_cases h1:t=999
     · subst h1;rfl
     have k1:=Ne.symm h1
     simp[upd,push,vaW,Ab.look,h1,k1]
  · rintro H' ⟨h,_⟩;cases h
  · rintro id H' ⟨h,_⟩;cases h
theorem zsd (s:ByteArray) (hs:s.size≤1000000):z0d Tryz.prog 82 [S s] (B ((unF 0 (rst s 0)).all okU)):=by
 refine z0y fun H=>?_
 refine z08 Tryz.func82 (by kernel_rfl) rfl (by simp) ?_
 dsimp only[Tryz.f82]
 refine zc9 901 ?_
 have h37:∀ (hp:Hp),Ab.look hp 901=some Blk.gone→z2o (0,901) hp=true→z8o Tryz.prog 119 [S s] (push hp H) ⟨fun r H'=>r=.v (.fn (.func 149) [] [.ptr (0,901) 0])∧H'=push ((901,.box [S s])::hp) H,fun x=>x=(0,901)∨x=(0,902),none⟩:=by
  exact zD35
 repeat' (first|(apply z1b;(refine zhj (h37 _ rfl rfl) rfl rfl rfl (by decide) ?_))|(apply z1w;(refine z0j z4e ?_))|refine z05 ?_|fail)
 all_goals try (exfalso;omega)
 refine z01 (tm':=[(2,.ptr (0,2) 0),(5,.fn (.func 149) [] [.ptr (0,901) 0])]) (hp':=[(2,.box [B false]),(901,.box [S s])]) ?_ rfl rfl
 have hsp:=zc1 s hs (fun _ b=>b=true) (fun (_:Bool) u=>okU u) (fun _ u=>okU u) (vaW s H) (fun x=>by cases x <;> rfl) (fun x u _ h1 h2=>h2) (fun hp x u _ h1 h2=>by subst h1;exact zuw s H hp u) true rfl
 refine z6n 999 5000 zpd rfl rfl rfl rfl rfl hsp (fun m h=>h) ?_
 rintro r H2 ⟨_,rfl⟩
 rw[y0g]
 cases (unF 0 (rst s 0)).all okU with
 | false =>
  refine⟨.done,some .ret,zpd,_,H,rfl,by simp,?_⟩
  exact z00 Tryz.func82 _ (zjc rfl rfl rfl rfl rfl) ⟨rfl,rfl⟩
 | true =>
  refine⟨.ready,none,zpd,_,H,rfl,by simp,?_⟩
  refine z01 (tm':=[(2,.ptr (0,2) 0)]) (hp':=[(2,.box [B false])]) ?_ rfl rfl
  repeat' (first|refine z05 ?_|fail)
  all_goals try (exfalso;omega)
  all_goals exact z00 Tryz.func82 _ (zjc rfl rfl rfl rfl rfl) ⟨rfl,rfl⟩
theorem y4j (r:Int) (h0:0≤r) (h1:r≤1114111):z0d Tryz.prog 179 [I .i32 r] (I .i32 (z8p r)):=by
 refine z0y fun H=>?_
 refine z08 Tryz.func179 (by kernel_rfl) rfl (by simp) ?_
 dsimp only[Tryz.f179]
 rw[z8p]
 by_cases hc:y15 r
 · rw[zAz hc]
   rw[y15] at hc
   all_goals exact zD50
 · rw[zAy hc]
   rw[y15] at hc
   by_cases hd:1024≤r∧r≤1039
   · rw[zAz hd]
     all_goals exact zD50
   · rw[zAy hd]
     all_goals exact zD50
def inB (l:List Rg) (c:Int):Bool:=l.any fun r=>decide (r.1≤c)&&decide (c≤r.2)
theorem zog (l:List Rg) (hl:l.length≤9223372036854775807) (c:Int):z0d Tryz.prog 97 [.d (rgs l),I .i32 c] (B (inB l c)):=by
 refine z0y fun H=>?_
 refine z08 Tryz.func97 (by kernel_rfl) rfl (by simp) ?_
 dsimp only[Tryz.f97]
 repeat' (first|refine z05 ?_|fail)
 all_goals try (exfalso;omega)
 refine z0l ?_
 refine z01 (z0x (fun q:Nat=>⟨24,[(1,I .i32 c),(7,.d (rgs l)),(8,I .i64 l.length),(9,I .i64 (q:Nat))],[],H⟩) (fun q=>q≤l.length∧inB (l.drop q) c=inB l c) (fun q=>l.length-q) ?_ 0 ⟨zAf _,rfl⟩) rfl rfl
 intro q ⟨i1,i2⟩ ih
 by_cases hlt:q<l.length
 · obtain⟨r,hr⟩:∃ r,l[q]? =some r:=⟨_,zA0 hlt⟩
   rw[drop_cons hr,inB,List.any_cons,← inB] at i2
   by_cases hc:r.1≤c∧c≤r.2
   · rw[zAi hc.1,zAi hc.2,Bool.true_and,Bool.true_or] at i2
     rw[← i2]
     repeat' (first|(apply z09;(refine z0c (z1n (ys:=l.map rgc) rfl (idx hr)) rfl rfl ?_))|refine z05 ?_|refine fk (fun _=>?_) (fun _=>?_))
     all_goals try (exfalso;omega)
     all_goals exact z00 Tryz.func97 _ z11 ⟨rfl,rfl⟩
   · exact zD55
 · obtain rfl:q=l.length:=by omega
   rw[zAs,inB,List.any_nil] at i2
   rw[← i2]
   repeat' (first|refine z05 ?_|refine fk (fun _=>?_) (fun _=>?_))
   all_goals try (exfalso;omega)
   all_goals exact z00 Tryz.func97 _ z11 ⟨rfl,rfl⟩
attribute [local irreducible] z5x
noncomputable def y34:Code:=match Tryz.f142.body with|some (.seq _ (.seq _ (.seq (.seq _ (.block _ (.rangeFunc _ _ a _))) _)))=>a|_=>.skip
noncomputable def ztr:Code:=match Tryz.f142.body with|some (.seq _ (.seq _ (.seq (.seq _ (.block _ (.rangeFunc _ _ _ b))) _)))=>b|_=>.skip
def y35:List (Nat × PV):=[(1,.ptr (0,1) 0),(3,.ptr (0,3) 0)]
noncomputable def y2k (state:LoopState):Blk:=.lp 36 142 #[11] y34 ztr y35 state none
abbrev b8r (q:List Int):Blk:=.row 5 1 (q.map by8)
abbrev pcU (s:ByteArray) (u:Un):List Int:=btI (pcS s u.1 u.2.1 u.2.2)
noncomputable def y9l (s:ByteArray) (q:List Int):Hp:=[(999,y2k .ready),(3,.box [.ref (0,5000)]),(5000,b8r q),(1,.box [S s]),(901,.box [S s])]
noncomputable def foW (s:ByteArray) (H:Hf) (q:List Int):Hf:=push (y9l s q) H
theorem z6x {m:Nm} (k:Nat):∀ {hp:Hp} {t:Nat} {b:Blk},z2o m (hp.filter fun q=>!(q.1 == k))=true→Ab.look hp t=some b→t≠k→b.says m=false
 | [],t,b,_,h,_=>by simp[Ab.look] at h
 | (x,q)::r,t,b,hq,h,hn=>by
  simp only[Ab.look] at h
  by_cases hx:x=k
  · subst hx
    simp only[List.filter,beq_self_eq_true,Bool.not_true] at hq
    rw[zAy (Ne.symm hn)] at h
    exact z6x x hq h hn
  · have:(!(x == k))=true:=by simpa using hx
    simp only[List.filter,this,z2o,zA7,zA6] at hq
    split at h
    · simp at h;subst h;exact hq.1
    · exact z6x k hq.2 h hn
theorem zvm (s:ByteArray) (hs:s.size≤1000000) (H:Hf) (hp:Hp) (q:List Int) (u:Un) (hqt:z2o (1,5000) hp=true) (hok:(q.length:Int)≤4*u.2.1) (hu:y4s s u) :
 zeg Tryz.prog (1,999) [.d (.agg (unc u))] (push hp (foW s H q)) (fun r H'=>r=.v (B true)∧H'=push hp (foW s H (q++pcU s u))) (fun y=>y=(1,5000)):=by
 have hlow:=y4j u.1 hu.r0 hu.r1
 obtain⟨z0,z1,z2,z3,z4⟩:=hu
 refine y4v (n':=36) (f':=142) (t0:=11) (asg:=y34) (body:=ztr) (st:=y35) (pend:=none) (R2:=fun r H'=>r=.v (B true)∧H'=upd (upd (push hp (foW s H q)) (1,999) (y2k .busy)) (1,5000) (b8r (q++pcU s u))) rfl (by decide) (by simp) ?_ ?_ ?_ ?_
 · rw[show z2c (1+1) y35=[(1,.ptr (2,1) 0),(3,.ptr (2,3) 0)] by simp[y35,z2c,PV.lift]]
   dsimp only[y34,ztr,Tryz.f142]
   repeat' (first|refine z05 ?_|fail)
   refine zag rfl rfl ?_
   change Run _ _ _ _ ⟨_,_,_,upd (push hp (foW s H q)) (1,999) (y2k .busy)⟩
   have hb1:upd (push hp (foW s H q)) (1,999) (y2k .busy) 1 1=some (.box [S s]):=rfl
   have hb3:upd (push hp (foW s H q)) (1,999) (y2k .busy) 1 3=some (.box [.ref (0,5000)]):=rfl
   have hb5:upd (push hp (foW s H q)) (1,999) (y2k .busy) 1 5000=some (b8r q):=rfl
   obtain⟨U,hU⟩:∃ U,upd (push hp (foW s H q)) (1,999) (y2k .busy)=U:=⟨_,rfl⟩
   rw[hU] at hb1 hb3 hb5 ⊢
   refine z01 (tm':=[(4,.ptr (0,4) 0),(1,.ptr (2,1) 0),(3,.ptr (2,3) 0)]) (hp':=[(4,.box ((unc u).map .d))]) ?_ rfl rfl
   refine z4b 700 1 3 hb3 rfl rfl ?_
   refine z1k 701 1 5000 (z0b hb5 (by simp)) rfl rfl ?_
   refine z3p 100701 rfl ?_
   refine z01 (tm':=[(4,.ptr (0,4) 0),(1,.ptr (2,1) 0),(3,.ptr (0,700) 0),(100700,.al (0,700) (2,3))]) (hp':=[(4,.box ((unc u).map .d)),(700,.box [.ref (0,701)]),(701,b8r q)]) ?_ rfl rfl
   obtain⟨V,hV⟩:∃ V,upd (upd U (1,3) .gone) (1,5000) .gone=V:=⟨_,rfl⟩
   have v1:V 1 1=some (.box [S s]):=by rw[← hV];exact z0b (z0b hb1 (by simp)) (by simp)
   have v3:V 1 3=some .gone:=by rw[← hV];exact z0b (z1a _ (1,3) _) (by simp)
   have v5:V 1 5000=some .gone:=by rw[← hV];exact z1a _ (1,5000) _
   rw[hV]
   have hqV:z74 V (1,5000):=by
    intro x y b hx hb
    rw[← hV,← hU] at hb
    simp only[upd] at hb
    split at hb
    · simp at hb;subst hb;rfl
    rename_i n1
    split at hb
    · simp at hb;subst hb;rfl
    rename_i n2
    split at hb
    · simp at hb;subst hb;rename_i n3;obtain⟨rfl,rfl⟩:=n3;rfl
    · match x,hx with
      | 0,_=>exact z3d hqt hb
      | 1,_ =>
       have hb':Ab.look (y9l s q) y=some b:=hb
       refine z6x 3 (m:=(0,5000)) ?_ hb' (by omega)
       rfl
   have hps:=zo0 s u.1 u.2.1 u.2.2 z2 z3 z4
   have hbl:=zdc (pcS s u.1 u.2.1 u.2.2)
   by_cases hl:z8p u.1=u.1
   · have hpc:pcS s u.1 u.2.1 u.2.2=s.extract u.2.1.toNat (u.2.1+u.2.2).toNat:=by rw[pcS,zAz hl]
     rw[pcU,hpc]
     rw[hpc] at hps hbl
     repeat' (first | (apply z0e; (refine z0k (z3z (b := .box [S s]) rfl rfl rfl rfl) rfl (bkN v1) ?_)) | (apply z4v; (refine z0k (zlo rfl (by omega) (by omega) (by omega)) rfl rfl ?_)) | (apply z1q; ((refine zgy rfl rfl rfl rfl rfl rfl (by kernel_rfl) rfl (by decide) (by omega) ?_) /- z6h -/)) | (apply z9a; ((refine zcx mix (by kernel_rfl) ?_) /- za6 -/)) | (apply z03; (refine z1i hlow ?_)) | refine z05 ?_ | refine fk (fun _ => ?_) (fun _ => ?_))
     all_goals try (exfalso;omega)
     refine z01 (tm':=[(100700,.al (0,700) (2,3))]) (hp':=[(700,.box [.ref (0,33)]),(33,b8r (q++btI _))]) ?_ rfl rfl
     refine zka 33 1 5000 rfl v5 rfl rfl hqV ?_
     exact zD74
   · have hpc:pcS s u.1 u.2.1 u.2.2=Utf8.encode (z8p u.1):=by rw[pcS,zAy hl]
     rw[pcU,hpc]
     rw[hpc] at hps hbl
     repeat' (first | (apply z1q; ((refine zgy rfl rfl rfl rfl rfl rfl (by kernel_rfl) rfl (by decide) (by omega) ?_) /- z6h -/)) | (apply z03; (refine z1i hlow ?_)) | (apply z4q; (refine z0c (z6q rfl rfl) rfl rfl ?_)) | refine z05 ?_ | refine fk (fun _ => ?_) (fun _ => ?_))
     all_goals try (exfalso;omega)
     refine z01 (tm':=[(100700,.al (0,700) (2,3))]) (hp':=[(700,.box [.ref (0,22)]),(22,b8r (q++btI _))]) ?_ rfl rfl
     refine zka 22 1 5000 rfl v5 rfl rfl hqV ?_
     exact zD74
 · rintro H' ⟨_,rfl⟩
   refine⟨y35,none,z0b (z1a _ _ _) (by simp),rfl,?_⟩
   rw[z89 (by simp),z1p]
   funext d t
   match d with
   | 0=>rfl
   | d+2=>rfl
   | 1 =>
    by_cases h1:t=5000
    · subst h1;rfl
    by_cases h2:t=999
    · subst h2;rfl
    by_cases h3:t=3
    · subst h3;rfl
    have k1:=Ne.symm h1
    have k2:=Ne.symm h2
    have k3:=Ne.symm h3
    simp[upd,push,foW,y9l,Ab.look,h1,h2,h3,k1,k2,k3]
 · rintro H' ⟨h,_⟩;cases h
 · rintro id H' ⟨h,_⟩;cases h
def ziz (s:ByteArray):List Int→List Un→List Int
 | q,[]=>q
 | q,u::l=>ziz s (q++pcU s u) l
theorem zyz (s:ByteArray):∀ (l:List Un) (q:List Int),zhq (fun (_:List Int) _=>true) (fun q u=>q++pcU s u) q l=ziz s q l
 | [],q=>rfl
 | u::l,q=>by rw[zhq,zAz rfl,zyz s l];rfl
theorem y2g (s:ByteArray):btI s=(btN s).map fun x:Nat=>(x:Int):=by rw[btI,btN,List.map_map];rfl
theorem y79 (s:ByteArray):∀ (f i:Nat) (q:List Int),s.size-i≤f→ziz s q (unF i (rst s i))=q++(fd ((btN s).drop i)).map fun x:Nat=>(x:Int)
 | 0,i,q,h=>by
  rw[z29 (by omega),List.drop_eq_nil_of_le (by rw[z3t];omega)]
  simp[unF,ziz,fd,fdL]
 | f+1,i,q,h=>by
  by_cases hi:i<s.size
  · have hw:=z6i s i hi
    have hne:(btN s).drop i≠[]:=fun e=>by
     have:=congrArg List.length e
     rw[List.length_drop,z3t] at this;simp at this;omega
    rw[z3c hi,unF,ziz,y79 s f _ _ (by simp only;omega),zky hne,List.map_append,← y2p s i hi,← zg6 s i hi,List.drop_drop,zAl]
    congr 1
    congr 1
    rw[pcU,y2g]
  · rw[z29 (s:=s) (i:=i) (by omega),List.drop_eq_nil_of_le (by rw[z3t];omega)]
    simp[unF,ziz,fd,fdL]
theorem y85 (s:ByteArray):strOfNums (ziz s [] (unF 0 (rst s 0)))=zb6 s:=by
 rw[y79 s s.size 0 [] (by omega),List.nil_append,List.drop_zero,zb6,y3s,strOfNums,List.map_map]
 rfl
theorem zzo (s:ByteArray) (hs:s.size≤1000000):z0d Tryz.prog 142 [S s] (S (zb6 s)):=by
 refine z0y fun H=>?_
 refine z08 Tryz.func142 (by kernel_rfl) rfl (by simp) ?_
 dsimp only[Tryz.f142]
 refine zc9 901 ?_
 have h37:∀ (hp:Hp),Ab.look hp 901=some Blk.gone→z2o (0,901) hp=true→z8o Tryz.prog 119 [S s] (push hp H) ⟨fun r H'=>r=.v (.fn (.func 149) [] [.ptr (0,901) 0])∧H'=push ((901,.box [S s])::hp) H,fun x=>x=(0,901)∨x=(0,902),none⟩:=by
  exact zD35
 repeat' (first|(apply z1b;(refine zhj (h37 _ rfl rfl) rfl rfl rfl (by decide) ?_))|(apply z1w;(refine z0j z4e ?_))|(apply z2n;(refine z0j z5k ?_))|refine z05 ?_|(apply z1b;(refine zua rfl rfl (by omega) (by omega) (by omega) (by decide) rfl rfl (by decide) rfl ?_)))
 all_goals try (exfalso;omega)
 refine z2i 8 5000 ?_
 refine z01 (tm':=[(1,.ptr (0,1) 0),(3,.ptr (0,3) 0),(10,.fn (.func 149) [] [.ptr (0,901) 0])]) (hp':=[(3,.box [.ref (0,5000)]),(5000,b8r []),(1,.box [S s]),(901,.box [S s])]) ?_ rfl rfl
 have hsp:=zc1 s hs (fun i q=>(q.length:Int)≤4*i) (fun _ _=>true) (fun q u=>q++pcU s u) (foW s H) (fun x=>rfl) (fun x u hu h1 _=>by
  have h2:=zo0 s u.1 u.2.1 u.2.2 hu.a0 hu.n1 hu.e
  have h3:=zdc (pcS s u.1 u.2.1 u.2.2)
  rw[zAa,pcU];omega) (fun hp x u hq h1 h2=>zvm s hs H hp x u hq h1 h2) [] (by simp)
 refine z6n 999 5000 y35 rfl rfl rfl rfl rfl hsp (fun m h=>h) ?_
 rintro r H2 ⟨_,rfl⟩
 rw[zyz]
 have hstr:=y85 s
 generalize ziz s [] (unF 0 (rst s 0))=Q at *
 refine⟨.ready,none,y35,_,H,rfl,by simp,?_⟩
 refine z01 (tm':=[(1,.ptr (0,1) 0),(3,.ptr (0,3) 0)]) (hp':=[(3,.box [.ref (0,5000)]),(5000,b8r Q)]) ?_ rfl rfl
 refine z13 5000 rfl ?_
 repeat' (first|refine z05 ?_|(apply z1b;(refine z0c (zpx rfl rfl rfl) rfl rfl ?_)))
 all_goals try (exfalso;omega)
 all_goals exact z00 Tryz.func142 _ z11 ⟨congrArg (fun b=>RV.v (S b)) hstr,rfl⟩
end Go.Proofs.YtmcggompdmngmaaGreatDoor
