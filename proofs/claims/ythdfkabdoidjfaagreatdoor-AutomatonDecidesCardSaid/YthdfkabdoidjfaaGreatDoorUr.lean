/- A part of the proof: G16 to G21. -/
import Derived.Test.YthdfkabdoidjfaaGreatDoorUc
import Derived.Test.YthdfkabdoidjfaaGreatDoorUt
import Derived.Test.YthdfkabdoidjfaaGreatDoorUx
set_option linter.all false
namespace Go.Proofs.YthdfkabdoidjfaaGreatDoor
open Go.Ab Go.Rx
set_option maxHeartbeats 20000000
set_option maxRecDepth 100000
attribute [local irreducible] Run Ops Op1 z1d Val Tr z08 z13 NF Rel z2h z2g
abbrev Un:=Int × Int × Int
abbrev unc (u:Un):List D:=[z0v u.1,z0u u.2.1,z0u u.2.2]
def unF:Nat→List U→List Un
 | _,[]=>[]
 | i,u::l=>(u.r,(i:Int),(u.n:Int))::unF (i+u.n) l
def znu {σ:Type} (go:σ→Un→Bool) (stp:σ→Un→σ):σ→List Un→σ
 | x,[]=>x
 | x,u::l=>if go x u=true then znu go stp (stp x u) l else stp x u
theorem zrh (s:ByteArray) (H:Hf) (h1:H 0 901=some .gone) (q1:zd2 H (0,901)) :
 zac Tryz.prog 72 [S s] H ⟨fun r H'=>r=.v (.fn (.func 111) [] [.ptr (0,901) 0])∧H'=upd H (0,901) (.box [S s]),fun x=>x=(0,901)∨x=(0,902),none⟩:=by
 refine z6a Tryz.func72 (by kernel_rfl) rfl (by simp) ?_
 dsimp only[Tryz.f72]
 repeat' (first|(apply z0w;(refine z07 z2b ?_))|refine stq ?_|(apply z0y;(refine z8v rfl rfl (by decide) ?_)))
 refine y0p 1 0 901 (q:=.box [S s]) rfl rfl h1 (.inl rfl) (by simp[z3t,Blk.says,PV.says,PV.saysL,PV.lift]) q1 ?_
 exact z05 Tryz.func72 _ (zy0 (.fn (.func 111) [] [.ptr (0,901) 0]) rfl rfl) ⟨rfl,rfl⟩
structure y6j (s:ByteArray) (u:Un):Prop where
 r0:0≤u.1
 r1:u.1≤1114111
 a0:0≤u.2.1
 n1:1≤u.2.2
 e:u.2.1+u.2.2≤s.size
theorem zm3 {σ:Type} (s:ByteArray) (hs:s.size≤1000000) (ok:Int→σ→Prop) (go:σ→Un→Bool) (stp:σ→Un→σ) (W:σ→Hf) (hW:∀ x,W x 0 901=some (.box [S s]))
 (hok:∀ x u,y6j s u→ok u.2.1 x→go x u=true→ok (u.2.1+u.2.2) (stp x u))
 (hY:∀ (hp:Hp) (x:σ) (u:Un),z3t (1,5000) hp=true→ok u.2.1 x→y6j s u→zhf Tryz.prog (1,999) [.d (.agg (unc u))] (push hp (W x)) (fun r H'=>r=.v (B (go x u))∧H'=push hp (W (stp x u))) (fun y=>y=(1,5000)))
 (x0:σ) (h0:ok 0 x0):zac Tryz.prog 111 [.yl (0,999),.ptr (0,901) 0] (W x0) ⟨fun r H'=>r=.v (.tup [])∧H'=W (znu go stp x0 (unF 0 (rst s 0))),fun x=>x=(0,5000),none⟩:=by
 refine z6a Tryz.func111 (by kernel_rfl) rfl (by simp) ?_
 dsimp only[Tryz.f111]
 have hw0:=hW x0
 obtain⟨T,hT⟩:∃ T,znu go stp x0 (unF 0 (rst s 0))=T:=⟨_,rfl⟩
 rw[hT]
 repeat' (first|(apply z1c;(refine z04 (z3v (b:=.box [S s]) rfl rfl rfl rfl) rfl (bkN hw0) ?_))|refine stq ?_|(apply z0y;(refine zjn rfl rfl rfl (by decide) ?_)))
 all_goals try (exfalso;omega)
 refine z0a ?_
 refine z00 (z0p (fun q:Nat × Int × Int × σ=>⟨42,[(0,.yl (1,999)),(1,.ptr (1,901) 0),(3,.ptr (0,3) 0),(8,.ptr (0,8) 0)],[(3,.box [I .i32 q.2.1,I .i64 q.2.2.1,I .i64 0]),(8,.siter s q.1)],W q.2.2.2⟩)
  (fun q=>q.1≤s.size∧(0≤q.2.2.1→ok q.2.2.1 q.2.2.2)∧((q.1=0∧q.2.2.1=-1∧q.2.2.2=x0)∨(0≤q.2.2.1∧q.2.2.1<q.1∧0≤q.2.1∧q.2.1≤1114111∧znu go stp q.2.2.2 ((q.2.1,q.2.2.1,(q.1:Int)-q.2.2.1)::unF q.1 (rst s q.1))=T))) (fun q=>s.size-q.1) ?_ (0,0,-1,x0) ⟨zAf _,fun h=>by simp at h,.inl ⟨rfl,rfl,rfl⟩⟩) rfl rfl
 rintro⟨q,r,a,x⟩ ⟨i1,i2,i3⟩ ih
 simp only at i1 i2 i3 ih ⊢
 have hwx:=hW x
 by_cases hlt:q<s.size
 · have hd:=zl6 hlt
   have hw:=zo5 s q hlt
   have hdh:=zx7 s q
   rcases i3 with ⟨rfl,rfl,rfl⟩|⟨a0,a1,r0,r1,hrun⟩
   · have ih':=ih (0+(Utf8.decode s 0).2,((Utf8.decode s 0).1:Nat),0,x) ⟨by simp only;omega,fun _=>h0,.inr ⟨by simp,by simp only;omega,by simp only;omega,by simp only;omega,by
      rw[hd] at hT
      simp only[unF] at hT
      simp only[Int.sub_zero]
      rw[← hT];simp⟩⟩ (by simp only;omega)
     repeat' (first|refine stq ?_|(apply z0y;(refine z3y hlt rfl rfl (by decide) ?_)))
     all_goals exact zD8
   · have hu:y6j s (r,a,(q:Int)-a):=⟨r0,r1,a0,by simp only;omega,by simp only;omega⟩
     rw[znu] at hrun
     cases hg:go x (r,a,(q:Int)-a) with
     | true =>
      rw[zAz hg] at hrun
      have hy:∀ hp:Hp,z3t (1,5000) hp=true→zhf Tryz.prog (1,999) [.d (.agg (unc (r,a,(q:Int)-a)))] (push hp (W x)) (fun r' H'=>r'=.v (B true)∧H'=push hp (W (stp x (r,a,(q:Int)-a)))) (fun y=>y=(1,5000)):=fun hp hqq=>by
       have:=hY hp x _ hqq (i2 a0) hu
       rwa [hg] at this
      have ih':=ih (q+(Utf8.decode s q).2,((Utf8.decode s q).1:Nat),(q:Nat),stp x (r,a,(q:Int)-a)) ⟨by simp only;omega,fun _=>by have:=hok _ _ hu (i2 a0) hg;simp only at this;rwa [show a+((q:Int)-a)=(q:Nat) by omega] at this,.inr ⟨by simp only;omega,by simp only;omega,by simp only;omega,by simp only;omega,by
       rw[hd] at hrun
       simp only[unF] at hrun
       rw[show ((q+(Utf8.decode s q).2:Nat):Int)-(q:Nat)=((Utf8.decode s q).2:Nat) by omega]
       exact hrun⟩⟩ (by simp only;omega)
      repeat' (first|(apply z0y;(refine zei (mv:=(0,5000)) (hy _ (by rfl)) rfl rfl rfl rfl (by decide) ?_))|refine stq ?_|refine fk (fun _=>?_) (fun _=>?_)|(apply z0y;(refine z3y hlt rfl rfl (by decide) ?_)))
      all_goals exact zD8
     | false =>
      rw[zAy (by rw[hg];decide)] at hrun
      have hy:∀ hp:Hp,z3t (1,5000) hp=true→zhf Tryz.prog (1,999) [.d (.agg (unc (r,a,(q:Int)-a)))] (push hp (W x)) (fun r' H'=>r'=.v (B false)∧H'=push hp (W (stp x (r,a,(q:Int)-a)))) (fun y=>y=(1,5000)):=fun hp hqq=>by
       have:=hY hp x _ hqq (i2 a0) hu
       rwa [hg] at this
      repeat' (first|(apply z0y;(refine zei (mv:=(0,5000)) (hy _ (by rfl)) rfl rfl rfl rfl (by decide) ?_))|refine stq ?_|refine fk (fun _=>?_) (fun _=>?_)|(apply z0y;(refine z3y hlt rfl rfl (by decide) ?_)))
      all_goals try (exfalso;omega)
      all_goals exact z05 Tryz.func111 _ (z27 rfl) ⟨rfl,congrArg W hrun⟩
 · obtain rfl:q=s.size:=by omega
   have hd:=zhz (s:=s) (i:=s.size) (zAj _)
   rcases i3 with ⟨h1,rfl,rfl⟩|⟨a0,a1,r0,r1,hrun⟩
   · rw[← h1,hd] at hT
     simp only[unF,znu] at hT
     repeat' (first|(apply z1c;(refine z04 (z3v (b:=.box [S s]) rfl rfl rfl rfl) rfl (bkN hwx) ?_))|refine stq ?_|(apply z0y;(refine z5w hlt rfl rfl (by decide) ?_)))
     all_goals try (exfalso;omega)
     all_goals exact zc4 Tryz.func111 _ (z27 rfl) ⟨rfl,congrArg W hT⟩
   · have hu:y6j s (r,a,(s.size:Int)-a):=⟨r0,r1,a0,by simp only;omega,by simp only;omega⟩
     rw[hd] at hrun
     simp only[unF,znu,ite_self] at hrun
     repeat' (first|(apply z0y;(refine zei (mv:=(0,5000)) (hY _ x (r,a,(s.size:Int)-a) (by rfl) (i2 a0) hu) rfl rfl rfl rfl (by decide) ?_))|(apply z1c;(refine z04 (z3v (b:=.box [S s]) rfl rfl rfl rfl) rfl (bkN hwx) ?_))|refine stq ?_|refine fk (fun _=>?_) (fun _=>?_)|(apply z0y;(refine z5w hlt rfl rfl (by decide) ?_)))
     all_goals try (exfalso;omega)
     all_goals exact zc4 Tryz.func111 _ (z27 rfl) ⟨rfl,congrArg W hrun⟩
theorem zh6 {hp:Hp} {up:Hf} (c:Nat) {q:Blk}:upd (push hp up) (0,c) q=push ((c,q)::hp) up:=by
 funext d s
 cases d with
 | zero =>
  simp only[upd,push,Ab.look,true_and]
  by_cases h1:s=c
  · rw[zAz h1,zAz h1.symm]
  · rw[zAy h1,zAy (Ne.symm h1)]
 | succ d=>simp[upd,push]
def atR (s:ByteArray) (i:Nat):PV:=match (unF 0 (rst s 0))[i]? with
 | some u=>.tup [I .i32 u.1,I .i64 u.2.1,I .i64 u.2.2,B true]
 | none=>.tup [I .i32 0,I .i64 0,I .i64 0,B false]
noncomputable def zt2:Code:=match Tryz.f69.body with|some (.seq _ (.seq (.seq _ (.block _ (.rangeFunc _ _ a _))) _))=>a|_=>.skip
noncomputable def zgc:Code:=match Tryz.f69.body with|some (.seq _ (.seq (.seq _ (.block _ (.rangeFunc _ _ _ b))) _))=>b|_=>.skip
def zoe:List (Nat × PV):=[(3,.ptr (0,3) 0),(4,.ptr (0,4) 0),(5,.ptr (0,5) 0),(6,.ptr (0,6) 0),(7,.ptr (0,7) 0)]
noncomputable def zmg (state:LoopState) (j:Option Code):Blk:=.lp 22 69 #[11] zt2 zgc zoe state j
inductive AtS where
 | run (i:Nat)
 | fin (u:Un)
noncomputable def atW (s:ByteArray) (H:Hf):AtS→Hf
 | .run i=>push [(999,zmg .ready none),(7,.box [B false]),(6,.box [I .i64 0]),(5,.box [I .i64 0]),(4,.box [I .i32 0]),(3,.box [I .i64 (i:Nat)]),(901,.box [S s])] H
 | .fin u=>push [(999,zmg .done (some .ret)),(7,.box [B true]),(6,.box [I .i64 u.2.2]),(5,.box [I .i64 u.2.1]),(4,.box [I .i32 u.1]),(3,.box [I .i64 0]),(901,.box [S s])] H
def y6l:AtS→Un→Bool
 | .run 0,_=>false
 | .run (_+1),_=>true
 | .fin _,_=>false
def zn8:AtS→Un→AtS
 | .run 0,u=>.fin u
 | .run (i+1),_=>.run i
 | .fin v,_=>.fin v
def y8y:AtS→Prop
 | .run i=>i≤1000000
 | .fin _=>False
theorem zxs:∀ (l:List Un) (i:Nat),znu y6l zn8 (.run i) l=match l[i]? with|some u=>.fin u|none=>.run (i-l.length)
 | [],i=>by simp[znu]
 | u::l,0=>by rw[znu,zAy (by simp[y6l])];rfl
 | u::l,i+1=>by
  rw[znu,zAz (by rfl),show zn8 (.run (i+1)) u=.run i from rfl,zxs l i,List.getElem?_cons_succ,zAk,show i+1-(l.length+1)=i-l.length by omega]
theorem zvx (s:ByteArray) (H:Hf) (hp:Hp) (x:AtS) (u:Un) (hx:y8y x):zhf Tryz.prog (1,999) [.d (.agg (unc u))] (push hp (atW s H x)) (fun r H'=>r=.v (B (y6l x u))∧H'=push hp (atW s H (zn8 x u))) (fun y=>y=(1,5000)):=by
 match x,hx with
 | .run 0,_ =>
  refine y6h (n':=22) (f':=69) (t0:=11) (asg:=zt2) (body:=zgc) (st:=zoe) (pend:=none) (R2:=fun r H'=>r=.v (B false)∧H'=upd (upd (upd (upd (upd (push hp (atW s H (.run 0))) (1,999) (zmg .busy none)) (1,4) (.box [I .i32 u.1])) (1,5) (.box [I .i64 u.2.1])) (1,6) (.box [I .i64 u.2.2])) (1,7) (.box [B true])) rfl (by decide) (by simp) ?_ ?_ ?_ ?_
  · rw[show z2e (1+1) zoe=[(3,.ptr (2,3) 0),(4,.ptr (2,4) 0),(5,.ptr (2,5) 0),(6,.ptr (2,6) 0),(7,.ptr (2,7) 0)] by simp[zoe,z2e,PV.lift]]
    dsimp only[zt2,zgc,Tryz.f69]
    have hb3:upd (push hp (atW s H (.run 0))) (1,999) (zmg .busy none) 1 3=some (.box [I .i64 0]):=rfl
    repeat' (first|refine stq ?_|fail)
    refine zff rfl rfl ?_
    change Run _ _ _ _ ⟨_,_,_,upd (push hp (atW s H (.run 0))) (1,999) (zmg .busy none)⟩
    have hb4:upd (push hp (atW s H (.run 0))) (1,999) (zmg .busy none) 1 4=some (.box [I .i32 0]):=rfl
    have hb5:upd (push hp (atW s H (.run 0))) (1,999) (zmg .busy none) 1 5=some (.box [I .i64 0]):=rfl
    have hb6:upd (push hp (atW s H (.run 0))) (1,999) (zmg .busy none) 1 6=some (.box [I .i64 0]):=rfl
    have hb7:upd (push hp (atW s H (.run 0))) (1,999) (zmg .busy none) 1 7=some (.box [B false]):=rfl
    generalize upd (push hp (atW s H (.run 0))) (1,999) (zmg .busy none)=V at *
    repeat' (first|(apply z1c;(refine z04 (z3v (b:=.box [I .i64 0]) rfl rfl rfl rfl) rfl (bkN hb3) ?_))|(apply z14;(first|refine zbo (raw':=.box [B true]) (by first|exact rfl|exact⟨_,rfl,rfl,rfl⟩) rfl (z0q (z0q (z0q hb7 (by simp)) (by simp)) (by simp)) rfl rfl rfl rfl rfl rfl ?_|refine zbo (raw':=.box [I .i64 u.2.2]) (by first|exact rfl|exact⟨_,rfl,rfl,rfl⟩) rfl (z0q (z0q hb6 (by simp)) (by simp)) rfl rfl rfl rfl rfl rfl ?_|refine zbo (raw':=.box [I .i64 u.2.1]) (by first|exact rfl|exact⟨_,rfl,rfl,rfl⟩) rfl (z0q hb5 (by simp)) rfl rfl rfl rfl rfl rfl ?_|refine zbo (raw':=.box [I .i32 u.1]) (by first|exact rfl|exact⟨_,rfl,rfl,rfl⟩) rfl hb4 rfl rfl rfl rfl rfl rfl ?_))|refine stq ?_|fail)
    all_goals try (exfalso;omega)
    all_goals exact zbz rfl ⟨rfl,rfl⟩
  · rintro H' ⟨h,_⟩;cases h
  · rintro H' ⟨_,rfl⟩
    refine⟨zoe,none,z0q (z0q (z0q (z0q (z1s _ _ _) (by simp)) (by simp)) (by simp)) (by simp),rfl,?_⟩
    funext d t
    match d with
    | 0=>rfl
    | d+2=>rfl
    | 1 =>
     by_cases h1:t=999
     · subst h1;rfl
     by_cases h2:t=7
     · subst h2;rfl
     by_cases h3:t=6
     · subst h3;rfl
     by_cases h4:t=5
     · subst h4;rfl
     by_cases h5:t=4
     · subst h5;rfl
     have k1:=Ne.symm h1
     have k2:=Ne.symm h2
     have k3:=Ne.symm h3
     have k4:=Ne.symm h4
     have k5:=Ne.symm h5
     simp[upd,push,atW,zn8,Ab.look,h1,h2,h3,h4,h5,k1,k2,k3,k4,k5]
  · rintro id H' ⟨h,_⟩;cases h
 | .run (i+1),h =>
  have hi:i+1≤1000000:=h
  refine y6h (n':=22) (f':=69) (t0:=11) (asg:=zt2) (body:=zgc) (st:=zoe) (pend:=none) (R2:=fun r H'=>r=.v (B true)∧H'=upd (upd (push hp (atW s H (.run (i+1)))) (1,999) (zmg .busy none)) (1,3) (.box [I .i64 (i:Nat)])) rfl (by decide) (by simp) ?_ ?_ ?_ ?_
  · rw[show z2e (1+1) zoe=[(3,.ptr (2,3) 0),(4,.ptr (2,4) 0),(5,.ptr (2,5) 0),(6,.ptr (2,6) 0),(7,.ptr (2,7) 0)] by simp[zoe,z2e,PV.lift]]
    dsimp only[zt2,zgc,Tryz.f69]
    repeat' (first|refine stq ?_|fail)
    refine zff rfl rfl ?_
    change Run _ _ _ _ ⟨_,_,_,upd (push hp (atW s H (.run (i+1)))) (1,999) (zmg .busy none)⟩
    have hb3:upd (push hp (atW s H (.run (i+1)))) (1,999) (zmg .busy none) 1 3=some (.box [I .i64 ((i+1:Nat):Int)]):=rfl
    generalize upd (push hp (atW s H (.run (i+1)))) (1,999) (zmg .busy none)=V at *
    repeat' (first|(apply z1c;(refine z04 (z3v (b:=.box [I .i64 ((i+1:Nat):Int)]) rfl rfl rfl rfl) rfl (bkN hb3) ?_))|(apply z0n;(refine z3q (raw':=.box [I .i64 (((i+1:Nat):Int)-1)]) rfl hb3 rfl rfl rfl rfl rfl rfl ?_))|refine stq ?_|fail)
    all_goals try (exfalso;omega)
    all_goals (rw[show ((i+1:Nat):Int)-1=(i:Nat) by omega];exact zpi rfl ⟨rfl,rfl⟩)
  · rintro H' ⟨_,rfl⟩
    refine⟨zoe,none,z0q (z1s _ _ _) (by simp),rfl,?_⟩
    funext d t
    match d with
    | 0=>rfl
    | d+2=>rfl
    | 1 =>
     by_cases h1:t=999
     · subst h1;rfl
     by_cases h2:t=7
     · subst h2;rfl
     by_cases h3:t=6
     · subst h3;rfl
     by_cases h4:t=5
     · subst h4;rfl
     by_cases h5:t=4
     · subst h5;rfl
     by_cases h6:t=3
     · subst h6;rfl
     have k1:=Ne.symm h1
     have k2:=Ne.symm h2
     have k3:=Ne.symm h3
     have k4:=Ne.symm h4
     have k5:=Ne.symm h5
     have k6:=Ne.symm h6
     simp[upd,push,atW,zn8,Ab.look,h1,h2,h3,h4,h5,h6,k1,k2,k3,k4,k5,k6]
  · rintro H' ⟨h,_⟩;cases h
  · rintro id H' ⟨h,_⟩;cases h
theorem y9k (s:ByteArray) (hs:s.size≤1000000) (i:Nat) (hi:i≤1000000):z08 Tryz.prog 69 [S s,I .i64 (i:Nat)] (atR s i):=by
 refine z0g fun H=>?_
 refine z03 Tryz.func69 (by kernel_rfl) rfl (by simp) ?_
 dsimp only[Tryz.f69]
 refine zmw 901 ?_
 have h37:∀ (hp:Hp),Ab.look hp 901=some Blk.gone→z3t (0,901) hp=true→zac Tryz.prog 72 [S s] (push hp H) ⟨fun r H'=>r=.v (.fn (.func 111) [] [.ptr (0,901) 0])∧H'=push ((901,.box [S s])::hp) H,fun x=>x=(0,901)∨x=(0,902),none⟩:=by
  exact zD80
 repeat' (first|(apply z0y;(refine zqf (h37 _ rfl rfl) rfl rfl rfl (by decide) ?_))|(apply z4t;(refine z07 (z4a rfl rfl (by decide)) ?_))|(apply z0w;(refine z07 z2b ?_))|refine stq ?_|fail)
 all_goals try (exfalso;omega)
 refine z00 (tm':=[(3,.ptr (0,3) 0),(4,.ptr (0,4) 0),(5,.ptr (0,5) 0),(6,.ptr (0,6) 0),(7,.ptr (0,7) 0),(10,.fn (.func 111) [] [.ptr (0,901) 0])]) (hp':=[(7,.box [B false]),(6,.box [I .i64 0]),(5,.box [I .i64 0]),(4,.box [I .i32 0]),(3,.box [I .i64 (i:Nat)]),(901,.box [S s])]) ?_ rfl rfl
 have hsp:=zm3 s hs (fun _=>y8y) y6l zn8 (atW s H) (fun x=>by cases x <;> rfl) (fun x u _ h1 h2=>by
  match x,h1,h2 with
  | .run (i+1),h1,_=>have h1:i+1≤1000000:=h1;show i≤1000000;omega) (fun hp x u _ h1 h2=>zvx s H hp x u h1) (.run i) hi
 refine zcx 999 5000 zoe rfl rfl rfl rfl rfl hsp (fun m h=>h) ?_
 rintro r H2 ⟨_,rfl⟩
 rw[zxs,atR]
 cases (unF 0 (rst s 0))[i]? with
 | some u =>
  refine⟨.done,some .ret,zoe,_,H,rfl,by simp,?_⟩
  exact z05 Tryz.func69 _ (zh7 rfl rfl rfl rfl rfl rfl rfl rfl rfl rfl rfl rfl rfl rfl rfl rfl rfl) ⟨rfl,rfl⟩
 | none =>
  refine⟨.ready,none,zoe,_,H,rfl,by simp,?_⟩
  refine z00 (tm':=[(3,.ptr (0,3) 0),(4,.ptr (0,4) 0),(5,.ptr (0,5) 0),(6,.ptr (0,6) 0),(7,.ptr (0,7) 0)]) (hp':=[(7,.box [B false]),(6,.box [I .i64 0]),(5,.box [I .i64 0]),(4,.box [I .i32 0])]) ?_ rfl rfl
  repeat' (first|refine stq ?_|fail)
  all_goals try (exfalso;omega)
  all_goals exact z05 Tryz.func69 _ (zh7 rfl rfl rfl rfl rfl rfl rfl rfl rfl rfl rfl rfl rfl rfl rfl rfl rfl) ⟨rfl,rfl⟩
def okU (u:Un):Bool:=!decide (u.1=65533)||decide (u.2.2=3)
theorem zw0 (u:Un):z08 Tryz.prog 73 [.d (.agg (unc u))] (B (okU u)):=by
 refine z0g fun H=>?_
 refine z03 Tryz.func73 (by kernel_rfl) rfl (by simp) ?_
 dsimp only[Tryz.f73]
 rw[okU]
 by_cases h:u.1=65533
 · rw[zAi h,Bool.not_true,Bool.false_or]
   all_goals exact zD111
 · rw[zAo h,Bool.not_false,Bool.true_or]
   all_goals exact zD111
noncomputable def zss:Code:=match Tryz.f40.body with|some (.seq _ (.seq (.seq _ (.block _ (.rangeFunc _ _ a _))) _))=>a|_=>.skip
noncomputable def zgq:Code:=match Tryz.f40.body with|some (.seq _ (.seq (.seq _ (.block _ (.rangeFunc _ _ _ b))) _))=>b|_=>.skip
def zod:List (Nat × PV):=[(2,.ptr (0,2) 0)]
noncomputable def zwe (state:LoopState) (j:Option Code):Blk:=.lp 10 40 #[6] zss zgq zod state j
noncomputable def vaW (s:ByteArray) (H:Hf):Bool→Hf
 | true=>push [(999,zwe .ready none),(2,.box [B false]),(901,.box [S s])] H
 | false=>push [(999,zwe .done (some .ret)),(2,.box [B false]),(901,.box [S s])] H
theorem zxz:∀ l:List Un,znu (fun (_:Bool) u=>okU u) (fun _ u=>okU u) true l=l.all okU
 | []=>rfl
 | u::l=>by
  rw[znu,List.all_cons]
  cases h:okU u with
  | true=>rw[zAz rfl,zxz l];rfl
  | false=>rw[zAy (by decide)];rfl
theorem zuu (s:ByteArray) (H:Hf) (hp:Hp) (u:Un):zhf Tryz.prog (1,999) [.d (.agg (unc u))] (push hp (vaW s H true)) (fun r H'=>r=.v (B (okU u))∧H'=push hp (vaW s H (okU u))) (fun y=>y=(1,5000)):=by
 have huv:=zw0 u
 cases ho:okU u with
 | false =>
  rw[ho] at huv
  refine y6h (n':=10) (f':=40) (t0:=6) (asg:=zss) (body:=zgq) (st:=zod) (pend:=none) (R2:=fun r H'=>r=.v (B false)∧H'=upd (upd (push hp (vaW s H true)) (1,999) (zwe .busy none)) (1,2) (.box [B false])) rfl (by decide) (by simp) ?_ ?_ ?_ ?_
  · rw[show z2e (1+1) zod=[(2,.ptr (2,2) 0)] by simp[zod,z2e,PV.lift]]
    dsimp only[zss,zgq,Tryz.f40]
    repeat' (first|refine stq ?_|fail)
    refine zff rfl rfl ?_
    change Run _ _ _ _ ⟨_,_,_,upd (push hp (vaW s H true)) (1,999) (zwe .busy none)⟩
    have hb2:upd (push hp (vaW s H true)) (1,999) (zwe .busy none) 1 2=some (.box [B false]):=rfl
    generalize upd (push hp (vaW s H true)) (1,999) (zwe .busy none)=V at *
    repeat' (first|(apply z06;(refine z1i huv ?_))|(apply z0n;(refine z3q (raw':=.box [B false]) rfl hb2 rfl rfl rfl rfl rfl rfl ?_))|refine stq ?_|fail)
    all_goals try (exfalso;omega)
    all_goals exact zbz rfl ⟨rfl,rfl⟩
  · rintro H' ⟨h,_⟩;cases h
  · rintro H' ⟨_,rfl⟩
    refine⟨zod,none,z0q (z1s _ _ _) (by simp),rfl,?_⟩
    funext d t
    match d with
    | 0=>rfl
    | d+2=>rfl
    | 1 =>
     by_cases h1:t=999
     · subst h1;rfl
     by_cases h2:t=2
     · subst h2;rfl
     have k1:=Ne.symm h1
     have k2:=Ne.symm h2
     simp[upd,push,vaW,Ab.look,h1,h2,k1,k2]
  · rintro id H' ⟨h,_⟩;cases h
 | true =>
  rw[ho] at huv
  refine y6h (n':=10) (f':=40) (t0:=6) (asg:=zss) (body:=zgq) (st:=zod) (pend:=none) (R2:=fun r H'=>r=.v (B true)∧H'=upd (push hp (vaW s H true)) (1,999) (zwe .busy none)) rfl (by decide) (by simp) ?_ ?_ ?_ ?_
  · rw[show z2e (1+1) zod=[(2,.ptr (2,2) 0)] by simp[zod,z2e,PV.lift]]
    dsimp only[zss,zgq,Tryz.f40]
    repeat' (first|refine stq ?_|fail)
    refine zff rfl rfl ?_
    change Run _ _ _ _ ⟨_,_,_,upd (push hp (vaW s H true)) (1,999) (zwe .busy none)⟩
    generalize upd (push hp (vaW s H true)) (1,999) (zwe .busy none)=V at *
    repeat' (first|(apply z06;(refine z1i huv ?_))|refine stq ?_|fail)
    all_goals try (exfalso;omega)
    all_goals exact zpi rfl ⟨rfl,rfl⟩
  · rintro H' ⟨_,rfl⟩
    refine⟨zod,none,z1s _ _ _,rfl,?_⟩
    funext d t
    match d with
    | 0=>rfl
    | d+2=>rfl
    | 1 =>
     by_cases h1:t=999
     · subst h1;rfl
     have k1:=Ne.symm h1
     simp[upd,push,vaW,Ab.look,h1,k1]
  · rintro H' ⟨h,_⟩;cases h
  · rintro id H' ⟨h,_⟩;cases h
theorem y22 (s:ByteArray) (hs:s.size≤1000000):z08 Tryz.prog 40 [S s] (B ((unF 0 (rst s 0)).all okU)):=by
 refine z0g fun H=>?_
 refine z03 Tryz.func40 (by kernel_rfl) rfl (by simp) ?_
 dsimp only[Tryz.f40]
 refine zmw 901 ?_
 have h37:∀ (hp:Hp),Ab.look hp 901=some Blk.gone→z3t (0,901) hp=true→zac Tryz.prog 72 [S s] (push hp H) ⟨fun r H'=>r=.v (.fn (.func 111) [] [.ptr (0,901) 0])∧H'=push ((901,.box [S s])::hp) H,fun x=>x=(0,901)∨x=(0,902),none⟩:=by
  exact zD80
 repeat' (first|(apply z0y;(refine zqf (h37 _ rfl rfl) rfl rfl rfl (by decide) ?_))|(apply z4t;(refine z07 (z4a rfl rfl (by decide)) ?_))|refine stq ?_|fail)
 all_goals try (exfalso;omega)
 refine z00 (tm':=[(2,.ptr (0,2) 0),(5,.fn (.func 111) [] [.ptr (0,901) 0])]) (hp':=[(2,.box [B false]),(901,.box [S s])]) ?_ rfl rfl
 have hsp:=zm3 s hs (fun _ b=>b=true) (fun (_:Bool) u=>okU u) (fun _ u=>okU u) (vaW s H) (fun x=>by cases x <;> rfl) (fun x u _ h1 h2=>h2) (fun hp x u _ h1 h2=>by subst h1;exact zuu s H hp u) true rfl
 refine zcx 999 5000 zod rfl rfl rfl rfl rfl hsp (fun m h=>h) ?_
 rintro r H2 ⟨_,rfl⟩
 rw[zxz]
 cases (unF 0 (rst s 0)).all okU with
 | false =>
  refine⟨.done,some .ret,zod,_,H,rfl,by simp,?_⟩
  exact z05 Tryz.func40 _ (zhl rfl rfl rfl rfl rfl) ⟨rfl,rfl⟩
 | true =>
  refine⟨.ready,none,zod,_,H,rfl,by simp,?_⟩
  refine z00 (tm':=[(2,.ptr (0,2) 0)]) (hp':=[(2,.box [B false])]) ?_ rfl rfl
  repeat' (first|refine stq ?_|fail)
  all_goals try (exfalso;omega)
  all_goals exact z05 Tryz.func40 _ (zhl rfl rfl rfl rfl rfl) ⟨rfl,rfl⟩
def inB (l:List Rg) (c:Int):Bool:=l.any fun r=>decide (r.1≤c)&&decide (c≤r.2)
end Go.Proofs.YthdfkabdoidjfaaGreatDoor
