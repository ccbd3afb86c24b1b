/- A part of the proof: A1 to A9. -/
import Derived.Test.YtmcggompdmngmaaGreatDoorYc
import Derived.Test.YtmcggompdmngmaaGreatDoorYt
import Derived.Test.YtmcggompdmngmaaGreatDoorYy
import Derived.Test.YtmcggompdmngmaaGreatDoorYr
import Derived.Test.YtmcggompdmngmaaGreatDoorYv
set_option linter.all false
namespace Go.Proofs.YtmcggompdmngmaaGreatDoor
open Go.Ab Go.Ax
set_option maxHeartbeats 20000000
set_option maxRecDepth 100000
attribute [local irreducible] Run Ops Op1 z0u Val Tr z09 z0q NF Rel z1v z1u
abbrev zf4 (x:Arc):List D:=[z11 x.1,z11 x.2.1,z2g x.2.2]
abbrev y6w (l:List Arc):D:=.slice (l.map zf4)
abbrev ze4 (l:List Arc):List D:=[y6w l]
abbrev zpi (F:List Bool):D:=.slice (F.map fun b=>[zl3 b])
abbrev auc (a:Au):List D:=[zpi a.F,.slice (a.A.map ze4)]
abbrev auD (a:Au):D:=.agg (auc a)
def ya5 (a:Au):Prop:=a.F.length≤9223372036854775807∧a.A.length≤9223372036854775807∧∀ l∈a.A,l.length≤9223372036854775807
def y4j (l:List Arc) (i:Nat):Option Arc:=if i=0 then none else l[i-1]?
theorem zsk (a:Au) (hf:ya5 a):z09 Tryz.prog 37 [.d (auD a)] (I .i64 (vAu a)):=by
 obtain⟨F,A⟩:=a
 obtain⟨f1,f2,f3⟩:=hf
 simp only at f1 f2 f3
 refine z0t fun H=>?_
 refine z06 Tryz.func37 (by kernel_rfl) rfl (by simp) ?_
 dsimp only[Tryz.f37]
 rw[vAu]
 simp only
 by_cases h1:256<F.length
 · rw[zAz h1]
   all_goals exact zD84
 rw[zAy h1]
 by_cases h2:F.length=0∨A.length≠F.length
 · rw[zAz h2]
   all_goals exact zD84
 rw[zAy h2]
 have e1:A.length=F.length:=by omega
 have e2:0<F.length:=by omega
 repeat' (first|(apply z2c;(refine z0h z4x ?_))|refine z01 ?_|refine fk (fun _=>?_) (fun _=>?_))
 all_goals try (exfalso;simp only[zA4] at *;omega)
 refine z0d ?_
 refine z00 (z0p (fun q:Nat=>⟨99,[(1,.ptr (0,1) 0),(3,I .i64 F.length),(25,.d (.slice (A.map ze4))),(26,I .i64 A.length),(27,I .i64 (q:Nat))],[(1,.box [.d (zpi F),.d (.slice (A.map ze4))])],H⟩) (fun q=>q≤A.length∧zhw F.length (A.drop q)=zhw F.length A) (fun q=>A.length-q) ?_ 0 ⟨zAf _,rfl⟩) rfl rfl
 rintro i ⟨i1,i2⟩ ih
 by_cases hlt:i<A.length
 · obtain⟨l,hl⟩:∃ l,A[i]? =some l:=⟨_,zA0 hlt⟩
   have hlm:=f3 l (zA2 hl)
   rw[drop_cons hl,zhw] at i2
   repeat' (first|(apply z04;(refine z08 (z1f (ys:=A.map ze4) rfl (idx hl)) rfl rfl ?_))|refine z01 ?_|refine fk (fun _=>?_) (fun _=>?_))
   all_goals try (exfalso;omega)
   refine z0d ?_
   refine z00 (z0p (fun q:Nat=>⟨99,[(1,.ptr (0,1) 0),(3,I .i64 F.length),(25,.d (.slice (A.map ze4))),(26,I .i64 A.length),(27,I .i64 (i:Nat)),(5,.d (y6w l)),(31,.d (y6w l)),(32,I .i64 l.length),(33,I .i64 (q:Nat))],[(1,.box [.d (zpi F),.d (.slice (A.map ze4))])],H⟩) (fun q=>q≤l.length∧zpe F.length (y4j l q) (l.drop q)=zpe F.length none l∧∀ y,y4j l q=some y→0≤y.1∧y.1≤y.2.1∧y.2.1≤1114111) (fun q=>l.length-q) ?_ 0 ⟨zAf _,rfl,by intro y hy;cases hy⟩) rfl rfl
   rintro k ⟨k1,k2,k3⟩ ihk
   by_cases hk:k<l.length
   · obtain⟨x,hx⟩:∃ x,l[k]? =some x:=⟨_,zA0 hk⟩
     have hpk:y4j l (k+1)=some x:=by rw[y4j,zAy (by omega)];exact hx
     rw[drop_cons hx,zia] at k2
     by_cases hb:y65 F.length x=true
     · rw[zAz hb] at k2
       rw[← k2,zAz (by decide)] at i2
       rw[← i2]
       simp only[y65,zAu,zA3] at hb
       repeat' (first|(apply z04;(refine z08 (z1f (ys:=l.map zf4) rfl (idx hx)) rfl rfl ?_))|refine z01 ?_|refine fk (fun _=>?_) (fun _=>?_)|(refine z19 (fun hg=>?_) (fun hg=>?_)<;> simp only[hg] <;> (try simp only[zA3,zA5,zA6,zA8] at hg)))
       all_goals exact zD105
     · rw[zAy hb] at k2
       simp only[y65,zAu,zA3,not_or] at hb
       cases k with
       | zero =>
        rw[show y4j l 0=none from rfl] at k2
        simp only at k2
        have ihk':=ihk 1 ⟨by omega,by rw[hpk];exact k2,fun y hy=>by rw[hpk] at hy;cases hy;omega⟩ (by omega)
        repeat' (first|(apply z04;(refine z08 (z1f (ys:=l.map zf4) rfl (idx hx)) rfl rfl ?_))|refine z01 ?_|refine fk (fun _=>?_) (fun _=>?_))
        all_goals try (exfalso;omega)
        all_goals exact z00 ihk' rfl rfl
       | succ k =>
        obtain⟨y,hy⟩:∃ y,l[k]? =some y:=⟨_,zA0 (by omega)⟩
        have hpy:y4j l (k+1)=some y:=by rw[y4j,zAy (by omega)];exact hy
        have hyi:l[(((k+1:Nat):Int)-1).toNat]? =some y:=by rw[show (((k+1:Nat):Int)-1).toNat=k by omega];exact hy
        have hyr:=k3 y hpy
        rw[hpy] at k2
        simp only at k2
        by_cases ho:y5p y x=true
        · rw[zAz ho] at k2
          rw[← k2,zAz (by decide)] at i2
          rw[← i2]
          simp only[y5p,zAu,zA7,zA3] at ho
          repeat' (first|(apply z04;(refine z08 (z1f (ys:=l.map zf4) rfl (idx hx)) rfl rfl ?_))|(apply z05;(refine z0f (z1f (ys:=l.map zf4) rfl (ztb hyi)) rfl rfl ?_))|(apply z1e;(refine z0f (z18 (ze7 (by omega) (by omega))) rfl rfl ?_))|refine z01 ?_|refine fk (fun _=>?_) (fun _=>?_)|(refine z19 (fun hg=>?_) (fun hg=>?_)<;> simp only[hg] <;> (try simp only[zA3,zA5,zA6,zA8] at hg)))
          all_goals exact zD105
        · rw[zAy ho] at k2
          simp only[y5p,zAu,zA7,zA3,not_or,not_and] at ho
          have ihk':=ihk (k+2) ⟨by omega,by rw[hpk];exact k2,fun y hy=>by rw[hpk] at hy;cases hy;omega⟩ (by omega)
          repeat' (first|(apply z04;(refine z08 (z1f (ys:=l.map zf4) rfl (idx hx)) rfl rfl ?_))|(apply z05;(refine z0f (z1f (ys:=l.map zf4) rfl (ztb hyi)) rfl rfl ?_))|(apply z1e;(refine z0f (z18 (ze7 (by omega) (by omega))) rfl rfl ?_))|refine z01 ?_|refine fk (fun _=>?_) (fun _=>?_)|(refine z19 (fun hg=>?_) (fun hg=>?_)<;> simp only[hg] <;> (try simp only[zA3,zA5,zA6,zA8] at hg)))
          all_goals try (exfalso;omega)
          all_goals exact z00 ihk' rfl rfl
   · obtain rfl:k=l.length:=by omega
     rw[zAs,zpe] at k2
     rw[← k2,zAy (by decide)] at i2
     repeat' (first|refine z01 ?_|refine fk (fun _=>?_) (fun _=>?_))
     all_goals try (exfalso;omega)
     all_goals exact z00 (ih (i+1) ⟨by omega,i2⟩ (by omega)) rfl rfl
 · obtain rfl:i=A.length:=by omega
   rw[zAs,zhw] at i2
   rw[← i2]
   repeat' (first|refine z01 ?_|refine fk (fun _=>?_) (fun _=>?_))
   all_goals exact zD105
theorem zun (a:Int):z09 Tryz.prog 180 [I .i32 a] (B false):=by
 refine z0t fun H=>?_
 refine z06 Tryz.func180 (by kernel_rfl) rfl (by simp) ?_
 dsimp only[Tryz.f180]
 repeat' (first|refine z01 ?_|fail)
 all_goals try (exfalso;omega)
 all_goals exact z02 Tryz.func180 _ (zqv rfl (by simp only[ne_eq,not_true_eq_false,decide_false];rfl)) ⟨rfl,rfl⟩
open Go.Ab Go.Ax Go.Rx
theorem zkq (l:List Rg) (hl:l.length≤9223372036854775807) (c:Int):z09 Tryz.prog 57 [.d (rgs l),I .i32 c] (B (inB l c)):=by
 refine z0t fun H=>?_
 refine z06 Tryz.func57 (by kernel_rfl) rfl (by simp) ?_
 dsimp only[Tryz.f57]
 repeat' (first|refine z01 ?_|fail)
 all_goals try (exfalso;omega)
 refine z0d ?_
 refine z00 (z0p (fun q:Nat=>⟨24,[(1,I .i32 c),(7,.d (rgs l)),(8,I .i64 l.length),(9,I .i64 (q:Nat))],[],H⟩) (fun q=>q≤l.length∧inB (l.drop q) c=inB l c) (fun q=>l.length-q) ?_ 0 ⟨zAf _,rfl⟩) rfl rfl
 intro q ⟨i1,i2⟩ ih
 by_cases hlt:q<l.length
 · obtain⟨r,hr⟩:∃ r,l[q]? =some r:=⟨_,zA0 hlt⟩
   rw[drop_cons hr,inB,List.any_cons,← inB] at i2
   by_cases hc:r.1≤c∧c≤r.2
   · rw[zAi hc.1,zAi hc.2,Bool.true_and,Bool.true_or] at i2
     rw[← i2]
     repeat' (first|(apply z04;(refine z08 (z1f (ys:=l.map rgc) rfl (idx hr)) rfl rfl ?_))|refine z01 ?_|refine fk (fun _=>?_) (fun _=>?_))
     all_goals try (exfalso;omega)
     all_goals exact z02 Tryz.func57 _ z1d ⟨rfl,rfl⟩
   · exact zD42
 · obtain rfl:q=l.length:=by omega
   rw[zAs,inB,List.any_nil] at i2
   rw[← i2]
   repeat' (first|refine z01 ?_|refine fk (fun _=>?_) (fun _=>?_))
   all_goals try (exfalso;omega)
   all_goals exact z02 Tryz.func57 _ z1d ⟨rfl,rfl⟩
end Go.Proofs.YtmcggompdmngmaaGreatDoor
