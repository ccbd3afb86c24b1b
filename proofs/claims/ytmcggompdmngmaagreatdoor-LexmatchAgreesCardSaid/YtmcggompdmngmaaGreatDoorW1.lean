/- A part of the proof: A1 to A9. -/
import Derived.Test.YtmcggompdmngmaaGreatDoorWc
import Derived.Test.YtmcggompdmngmaaGreatDoorWt
import Derived.Test.YtmcggompdmngmaaGreatDoorWy
import Derived.Test.YtmcggompdmngmaaGreatDoorWr
import Derived.Test.YtmcggompdmngmaaGreatDoorWv
set_option linter.all false
namespace Go.Proofs.YtmcggompdmngmaaGreatDoor
open Go.Ab Go.Ax
set_option maxHeartbeats 20000000
set_option maxRecDepth 100000
attribute [local irreducible] Run Ops Op1 z14 Val Tr z0d z0w NF Rel z1z z27
abbrev zfk (x:Arc):List D:=[z1j x.1,z1j x.2.1,z4n x.2.2]
abbrev y5k (l:List Arc):D:=.slice (l.map zfk)
abbrev zeh (l:List Arc):List D:=[y5k l]
abbrev zp9 (F:List Bool):D:=.slice (F.map fun b=>[zkk b])
abbrev auc (a:Au):List D:=[zp9 a.F,.slice (a.A.map zeh)]
abbrev auD (a:Au):D:=.agg (auc a)
def y8f (a:Au):Prop:=a.F.length≤9223372036854775807∧a.A.length≤9223372036854775807∧∀ l∈a.A,l.length≤9223372036854775807
def y3a (l:List Arc) (i:Nat):Option Arc:=if i=0 then none else l[i-1]?
theorem ztt (a:Au) (hf:y8f a):z0d Tryz.prog 37 [.d (auD a)] (I .i64 (vAu a)):=by
 obtain⟨F,A⟩:=a
 obtain⟨f1,f2,f3⟩:=hf
 simp only at f1 f2 f3
 refine z0y fun H=>?_
 refine z08 Tryz.func37 (by kernel_rfl) rfl (by simp) ?_
 dsimp only[Tryz.f37]
 rw[vAu]
 simp only
 by_cases h1:256<F.length
 · rw[zAz h1]
   all_goals exact zD100
 rw[zAy h1]
 by_cases h2:F.length=0∨A.length≠F.length
 · rw[zAz h2]
   all_goals exact zD100
 rw[zAy h2]
 have e1:A.length=F.length:=by omega
 have e2:0<F.length:=by omega
 repeat' (first|(apply z2n;(refine z0j z5k ?_))|refine z05 ?_|refine fk (fun _=>?_) (fun _=>?_))
 all_goals try (exfalso;simp only[zA4] at *;omega)
 refine z0l ?_
 refine z01 (z0x (fun q:Nat=>⟨99,[(1,.ptr (0,1) 0),(3,I .i64 F.length),(25,.d (.slice (A.map zeh))),(26,I .i64 A.length),(27,I .i64 (q:Nat))],[(1,.box [.d (zp9 F),.d (.slice (A.map zeh))])],H⟩) (fun q=>q≤A.length∧zee F.length (A.drop q)=zee F.length A) (fun q=>A.length-q) ?_ 0 ⟨zAf _,rfl⟩) rfl rfl
 rintro i ⟨i1,i2⟩ ih
 by_cases hlt:i<A.length
 · obtain⟨l,hl⟩:∃ l,A[i]? =some l:=⟨_,zA0 hlt⟩
   have hlm:=f3 l (zA2 hl)
   rw[drop_cons hl,zee] at i2
   repeat' (first|(apply z09;(refine z0c (z1n (ys:=A.map zeh) rfl (idx hl)) rfl rfl ?_))|refine z05 ?_|refine fk (fun _=>?_) (fun _=>?_))
   all_goals try (exfalso;omega)
   refine z0l ?_
   refine z01 (z0x (fun q:Nat=>⟨99,[(1,.ptr (0,1) 0),(3,I .i64 F.length),(25,.d (.slice (A.map zeh))),(26,I .i64 A.length),(27,I .i64 (i:Nat)),(5,.d (y5k l)),(31,.d (y5k l)),(32,I .i64 l.length),(33,I .i64 (q:Nat))],[(1,.box [.d (zp9 F),.d (.slice (A.map zeh))])],H⟩) (fun q=>q≤l.length∧zk2 F.length (y3a l q) (l.drop q)=zk2 F.length none l∧∀ y,y3a l q=some y→0≤y.1∧y.1≤y.2.1∧y.2.1≤1114111) (fun q=>l.length-q) ?_ 0 ⟨zAf _,rfl,by intro y hy;cases hy⟩) rfl rfl
   rintro k ⟨k1,k2,k3⟩ ihk
   by_cases hk:k<l.length
   · obtain⟨x,hx⟩:∃ x,l[k]? =some x:=⟨_,zA0 hk⟩
     have hpk:y3a l (k+1)=some x:=by rw[y3a,zAy (by omega)];exact hx
     rw[drop_cons hx,zdk] at k2
     by_cases hb:zzm F.length x=true
     · rw[zAz hb] at k2
       rw[← k2,zAz (by decide)] at i2
       rw[← i2]
       simp only[zzm,zAu,zA3] at hb
       repeat' (first|(apply z09;(refine z0c (z1n (ys:=l.map zfk) rfl (idx hx)) rfl rfl ?_))|refine z05 ?_|refine fk (fun _=>?_) (fun _=>?_)|(refine z16 (fun hg=>?_) (fun hg=>?_)<;> simp only[hg] <;> (try simp only[zA3,zA5,zA6,zA8] at hg)))
       all_goals exact zD123
     · rw[zAy hb] at k2
       simp only[zzm,zAu,zA3,not_or] at hb
       cases k with
       | zero =>
        rw[show y3a l 0=none from rfl] at k2
        simp only at k2
        have ihk':=ihk 1 ⟨by omega,by rw[hpk];exact k2,fun y hy=>by rw[hpk] at hy;cases hy;omega⟩ (by omega)
        repeat' (first|(apply z09;(refine z0c (z1n (ys:=l.map zfk) rfl (idx hx)) rfl rfl ?_))|refine z05 ?_|refine fk (fun _=>?_) (fun _=>?_))
        all_goals try (exfalso;omega)
        all_goals exact z01 ihk' rfl rfl
       | succ k =>
        obtain⟨y,hy⟩:∃ y,l[k]? =some y:=⟨_,zA0 (by omega)⟩
        have hpy:y3a l (k+1)=some y:=by rw[y3a,zAy (by omega)];exact hy
        have hyi:l[(((k+1:Nat):Int)-1).toNat]? =some y:=by rw[show (((k+1:Nat):Int)-1).toNat=k by omega];exact hy
        have hyr:=k3 y hpy
        rw[hpy] at k2
        simp only at k2
        by_cases ho:zxc y x=true
        · rw[zAz ho] at k2
          rw[← k2,zAz (by decide)] at i2
          rw[← i2]
          simp only[zxc,zAu,zA7,zA3] at ho
          repeat' (first|(apply z09;(refine z0c (z1n (ys:=l.map zfk) rfl (idx hx)) rfl rfl ?_))|(apply z06;(refine z0k (z1n (ys:=l.map zfk) rfl (zhv hyi)) rfl rfl ?_))|(apply z1l;(refine z0k (z1f (zab (by omega) (by omega))) rfl rfl ?_))|refine z05 ?_|refine fk (fun _=>?_) (fun _=>?_)|(refine z16 (fun hg=>?_) (fun hg=>?_)<;> simp only[hg] <;> (try simp only[zA3,zA5,zA6,zA8] at hg)))
          all_goals exact zD123
        · rw[zAy ho] at k2
          simp only[zxc,zAu,zA7,zA3,not_or,not_and] at ho
          have ihk':=ihk (k+2) ⟨by omega,by rw[hpk];exact k2,fun y hy=>by rw[hpk] at hy;cases hy;omega⟩ (by omega)
          repeat' (first|(apply z09;(refine z0c (z1n (ys:=l.map zfk) rfl (idx hx)) rfl rfl ?_))|(apply z06;(refine z0k (z1n (ys:=l.map zfk) rfl (zhv hyi)) rfl rfl ?_))|(apply z1l;(refine z0k (z1f (zab (by omega) (by omega))) rfl rfl ?_))|refine z05 ?_|refine fk (fun _=>?_) (fun _=>?_)|(refine z16 (fun hg=>?_) (fun hg=>?_)<;> simp only[hg] <;> (try simp only[zA3,zA5,zA6,zA8] at hg)))
          all_goals try (exfalso;omega)
          all_goals exact z01 ihk' rfl rfl
   · obtain rfl:k=l.length:=by omega
     rw[zAs,zk2] at k2
     rw[← k2,zAy (by decide)] at i2
     repeat' (first|refine z05 ?_|refine fk (fun _=>?_) (fun _=>?_))
     all_goals try (exfalso;omega)
     all_goals exact z01 (ih (i+1) ⟨by omega,i2⟩ (by omega)) rfl rfl
 · obtain rfl:i=A.length:=by omega
   rw[zAs,zee] at i2
   rw[← i2]
   repeat' (first|refine z05 ?_|refine fk (fun _=>?_) (fun _=>?_))
   all_goals exact zD123
theorem ztc (a:Int):z0d Tryz.prog 180 [I .i32 a] (B false):=by
 refine z0y fun H=>?_
 refine z08 Tryz.func180 (by kernel_rfl) rfl (by simp) ?_
 dsimp only[Tryz.f180]
 repeat' (first|refine z05 ?_|fail)
 all_goals try (exfalso;omega)
 all_goals exact z00 Tryz.func180 _ (zuf rfl (by simp only[ne_eq,not_true_eq_false,decide_false];rfl)) ⟨rfl,rfl⟩
open Go.Ab Go.Ax Go.Rx
theorem zl6 (l:List Rg) (hl:l.length≤9223372036854775807) (c:Int):z0d Tryz.prog 57 [.d (rgs l),I .i32 c] (B (inB l c)):=by
 refine z0y fun H=>?_
 refine z08 Tryz.func57 (by kernel_rfl) rfl (by simp) ?_
 dsimp only[Tryz.f57]
 repeat' (first|refine z05 ?_|fail)
 all_goals try (exfalso;omega)
 refine z0l ?_
 refine z01 (z0x (fun q:Nat=>⟨24,[(1,I .i32 c),(7,.d (rgs l)),(8,I .i64 l.length),(9,I .i64 (q:Nat))],[],H⟩) (fun q=>q≤l.length∧inB (l.drop q) c=inB l c) (fun q=>l.length-q) ?_ 0 ⟨zAf _,rfl⟩) rfl rfl
 intro q ⟨i1,i2⟩ ih
 by_cases hlt:q<l.length
 · obtain⟨r,hr⟩:∃ r,l[q]? =some r:=⟨_,zA0 hlt⟩
   rw[drop_cons hr,inB,List.any_cons,← inB] at i2
   by_cases hc:r.1≤c∧c≤r.2
   · rw[zAi hc.1,zAi hc.2,Bool.true_and,Bool.true_or] at i2
     rw[← i2]
     repeat' (first|(apply z09;(refine z0c (z1n (ys:=l.map rgc) rfl (idx hr)) rfl rfl ?_))|refine z05 ?_|refine fk (fun _=>?_) (fun _=>?_))
     all_goals try (exfalso;omega)
     all_goals exact z00 Tryz.func57 _ z11 ⟨rfl,rfl⟩
   · exact zD55
 · obtain rfl:q=l.length:=by omega
   rw[zAs,inB,List.any_nil] at i2
   rw[← i2]
   repeat' (first|refine z05 ?_|refine fk (fun _=>?_) (fun _=>?_))
   all_goals try (exfalso;omega)
   all_goals exact z00 Tryz.func57 _ z11 ⟨rfl,rfl⟩
end Go.Proofs.YtmcggompdmngmaaGreatDoor
