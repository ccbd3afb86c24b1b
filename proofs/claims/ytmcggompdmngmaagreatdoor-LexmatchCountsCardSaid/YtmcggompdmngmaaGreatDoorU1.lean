/- A part of the proof: A1 to A5. -/
import Derived.Test.YtmcggompdmngmaaGreatDoorUc
import Derived.Test.YtmcggompdmngmaaGreatDoorUt
import Derived.Test.YtmcggompdmngmaaGreatDoorUy
import Derived.Test.YtmcggompdmngmaaGreatDoorUr
import Derived.Test.YtmcggompdmngmaaGreatDoorUv
set_option linter.all false
namespace Go.Proofs.YtmcggompdmngmaaGreatDoor
open Go.Ab Go.Ax
set_option maxHeartbeats 20000000
set_option maxRecDepth 100000
attribute [local irreducible] Run Ops Op1 z15 Val Tr z0d z0y NF Rel z2a z29
abbrev z8m (x:Arc):List D:=[z1k x.1,z1k x.2.1,z4g x.2.2]
abbrev zvh (l:List Arc):D:=.slice (l.map z8m)
abbrev z6w (l:List Arc):List D:=[zvh l]
abbrev zeb (F:List Bool):D:=.slice (F.map fun b=>[zdh b])
abbrev auc (a:Au):List D:=[zeb a.F,.slice (a.A.map z6w)]
abbrev auD (a:Au):D:=.agg (auc a)
def zp7 (a:Au):Prop:=a.F.length≤9223372036854775807∧a.A.length≤9223372036854775807∧∀ l∈a.A,l.length≤9223372036854775807
def zln (l:List Arc) (i:Nat):Option Arc:=if i=0 then none else l[i-1]?
theorem zqg (a:Au) (hf:zp7 a):z0d Tryz.prog 37 [.d (auD a)] (I .i64 (vAu a)):=by
 obtain⟨F,A⟩:=a
 obtain⟨f1,f2,f3⟩:=hf
 simp only at f1 f2 f3
 refine z14 fun H=>?_
 refine z0a Tryz.func37 (by kernel_rfl) rfl (by simp) ?_
 dsimp only[Tryz.f37]
 rw[vAu]
 simp only
 by_cases h1:256<F.length
 · rw[zAz h1]
   all_goals exact zD112
 rw[zAy h1]
 by_cases h2:F.length=0∨A.length≠F.length
 · rw[zAz h2]
   all_goals exact zD112
 rw[zAy h2]
 have e1:A.length=F.length:=by omega
 have e2:0<F.length:=by omega
 repeat' (first|(apply z1v;(refine z0e z4a ?_))|refine z05 ?_|refine fk (fun _=>?_) (fun _=>?_))
 all_goals try (exfalso;simp only[zA4] at *;omega)
 refine z0j ?_
 refine z01 (z0z (fun q:Nat=>⟨99,[(1,.ptr (0,1) 0),(3,I .i64 F.length),(25,.d (.slice (A.map z6w))),(26,I .i64 A.length),(27,I .i64 (q:Nat))],[(1,.box [.d (zeb F),.d (.slice (A.map z6w))])],H⟩) (fun q=>q≤A.length∧zbw F.length (A.drop q)=zbw F.length A) (fun q=>A.length-q) ?_ 0 ⟨zAf _,rfl⟩) rfl rfl
 rintro i ⟨i1,i2⟩ ih
 by_cases hlt:i<A.length
 · obtain⟨l,hl⟩:∃ l,A[i]? =some l:=⟨_,zA0 hlt⟩
   have hlm:=f3 l (zA2 hl)
   rw[drop_cons hl,zbw] at i2
   repeat' (first|(apply z06;(refine z0b (z1a (ys:=A.map z6w) rfl (idx hl)) rfl rfl ?_))|refine z05 ?_|refine fk (fun _=>?_) (fun _=>?_))
   all_goals try (exfalso;omega)
   refine z0j ?_
   refine z01 (z0z (fun q:Nat=>⟨99,[(1,.ptr (0,1) 0),(3,I .i64 F.length),(25,.d (.slice (A.map z6w))),(26,I .i64 A.length),(27,I .i64 (i:Nat)),(5,.d (zvh l)),(31,.d (zvh l)),(32,I .i64 l.length),(33,I .i64 (q:Nat))],[(1,.box [.d (zeb F),.d (.slice (A.map z6w))])],H⟩) (fun q=>q≤l.length∧zjo F.length (zln l q) (l.drop q)=zjo F.length none l∧∀ y,zln l q=some y→0≤y.1∧y.1≤y.2.1∧y.2.1≤1114111) (fun q=>l.length-q) ?_ 0 ⟨zAf _,rfl,by intro y hy;cases hy⟩) rfl rfl
   rintro k ⟨k1,k2,k3⟩ ihk
   by_cases hk:k<l.length
   · obtain⟨x,hx⟩:∃ x,l[k]? =some x:=⟨_,zA0 hk⟩
     have hpk:zln l (k+1)=some x:=by rw[zln,zAy (by omega)];exact hx
     rw[drop_cons hx,zdb] at k2
     by_cases hb:zwu F.length x=true
     · rw[zAz hb] at k2
       rw[← k2,zAz (by decide)] at i2
       rw[← i2]
       simp only[zwu,zAu,zA3] at hb
       repeat' (first|(apply z06;(refine z0b (z1a (ys:=l.map z8m) rfl (idx hx)) rfl rfl ?_))|refine z05 ?_|refine fk (fun _=>?_) (fun _=>?_)|(refine z1d (fun hg=>?_) (fun hg=>?_)<;> simp only[hg] <;> (try simp only[zA3,zA5,zA6,zA8] at hg)))
       all_goals exact zD137
     · rw[zAy hb] at k2
       simp only[zwu,zAu,zA3,not_or] at hb
       cases k with
       | zero =>
        exact zD56
       | succ k =>
        obtain⟨y,hy⟩:∃ y,l[k]? =some y:=⟨_,zA0 (by omega)⟩
        have hpy:zln l (k+1)=some y:=by rw[zln,zAy (by omega)];exact hy
        have hyi:l[(((k+1:Nat):Int)-1).toNat]? =some y:=by rw[show (((k+1:Nat):Int)-1).toNat=k by omega];exact hy
        have hyr:=k3 y hpy
        rw[hpy] at k2
        simp only at k2
        by_cases ho:zc1 y x=true
        · rw[zAz ho] at k2
          rw[← k2,zAz (by decide)] at i2
          rw[← i2]
          simp only[zc1,zAu,zA7,zA3] at ho
          repeat' (first|(apply z06;(refine z0b (z1a (ys:=l.map z8m) rfl (idx hx)) rfl rfl ?_))|(apply z08;(refine z0m (z1a (ys:=l.map z8m) rfl (zel hyi)) rfl rfl ?_))|(apply z1l;(refine z0m (z1g (zak (by omega) (by omega))) rfl rfl ?_))|refine z05 ?_|refine fk (fun _=>?_) (fun _=>?_)|(refine z1d (fun hg=>?_) (fun hg=>?_)<;> simp only[hg] <;> (try simp only[zA3,zA5,zA6,zA8] at hg)))
          all_goals exact zD137
        · exact zD29
   · exact zD83
 · obtain rfl:i=A.length:=by omega
   rw[zAs,zbw] at i2
   rw[← i2]
   repeat' (first|refine z05 ?_|refine fk (fun _=>?_) (fun _=>?_))
   all_goals exact zD137
theorem zc4 (a:Au) (hf:zp7 a):z0d Tryz.prog 20 [.d (auD a)] (I .i64 (vAu a)):=by
 obtain⟨F,A⟩:=a
 obtain⟨f1,f2,f3⟩:=hf
 simp only at f1 f2 f3
 refine z14 fun H=>?_
 refine z0a Tryz.func20 (by kernel_rfl) rfl (by simp) ?_
 dsimp only[Tryz.f20]
 rw[vAu]
 simp only
 by_cases h1:256<F.length
 · rw[zAz h1]
   all_goals exact zD113
 rw[zAy h1]
 by_cases h2:F.length=0∨A.length≠F.length
 · rw[zAz h2]
   all_goals exact zD113
 rw[zAy h2]
 have e1:A.length=F.length:=by omega
 have e2:0<F.length:=by omega
 repeat' (first|(apply z1v;(refine z0e z4a ?_))|refine z05 ?_|refine fk (fun _=>?_) (fun _=>?_))
 all_goals try (exfalso;simp only[zA4] at *;omega)
 refine z0j ?_
 refine z01 (z0z (fun q:Nat=>⟨105,[(1,.ptr (0,1) 0),(3,I .i64 F.length),(23,.d (.slice (A.map z6w))),(24,I .i64 A.length),(25,I .i64 (q:Nat))],[(1,.box [.d (zeb F),.d (.slice (A.map z6w))])],H⟩) (fun q=>q≤A.length∧zbw F.length (A.drop q)=zbw F.length A) (fun q=>A.length-q) ?_ 0 ⟨zAf _,rfl⟩) rfl rfl
 rintro i ⟨i1,i2⟩ ih
 by_cases hlt:i<A.length
 · obtain⟨l,hl⟩:∃ l,A[i]? =some l:=⟨_,zA0 hlt⟩
   have hlm:=f3 l (zA2 hl)
   rw[drop_cons hl,zbw] at i2
   repeat' (first|(apply z06;(refine z0b (z1a (ys:=A.map z6w) rfl (idx hl)) rfl rfl ?_))|refine z05 ?_|refine fk (fun _=>?_) (fun _=>?_))
   all_goals try (exfalso;omega)
   refine z0j ?_
   refine z01 (z0z (fun q:Nat=>⟨105,[(1,.ptr (0,1) 0),(3,I .i64 F.length),(23,.d (.slice (A.map z6w))),(24,I .i64 A.length),(25,I .i64 (i:Nat)),(5,.d (zvh l)),(29,.d (zvh l)),(30,I .i64 l.length),(31,I .i64 (q:Nat))],[(1,.box [.d (zeb F),.d (.slice (A.map z6w))])],H⟩) (fun q=>q≤l.length∧zjo F.length (zln l q) (l.drop q)=zjo F.length none l∧∀ y,zln l q=some y→0≤y.1∧y.1≤y.2.1∧y.2.1≤1114111) (fun q=>l.length-q) ?_ 0 ⟨zAf _,rfl,by intro y hy;cases hy⟩) rfl rfl
   rintro k ⟨k1,k2,k3⟩ ihk
   by_cases hk:k<l.length
   · obtain⟨x,hx⟩:∃ x,l[k]? =some x:=⟨_,zA0 hk⟩
     have hpk:zln l (k+1)=some x:=by rw[zln,zAy (by omega)];exact hx
     rw[drop_cons hx,zdb] at k2
     by_cases hb:zwu F.length x=true
     · rw[zAz hb] at k2
       rw[← k2,zAz (by decide)] at i2
       rw[← i2]
       simp only[zwu,zAu,zA3] at hb
       repeat' (first|(apply z06;(refine z0b (z1a (ys:=l.map z8m) rfl (idx hx)) rfl rfl ?_))|refine z05 ?_|refine fk (fun _=>?_) (fun _=>?_)|(refine z1d (fun hg=>?_) (fun hg=>?_)<;> simp only[hg] <;> (try simp only[zA3,zA5,zA6,zA8] at hg)))
       all_goals exact zD138
     · rw[zAy hb] at k2
       simp only[zwu,zAu,zA3,not_or] at hb
       cases k with
       | zero =>
        exact zD56
       | succ k =>
        obtain⟨y,hy⟩:∃ y,l[k]? =some y:=⟨_,zA0 (by omega)⟩
        have hpy:zln l (k+1)=some y:=by rw[zln,zAy (by omega)];exact hy
        have hyi:l[(((k+1:Nat):Int)-1).toNat]? =some y:=by rw[show (((k+1:Nat):Int)-1).toNat=k by omega];exact hy
        have hyr:=k3 y hpy
        rw[hpy] at k2
        simp only at k2
        by_cases ho:zc1 y x=true
        · rw[zAz ho] at k2
          rw[← k2,zAz (by decide)] at i2
          rw[← i2]
          simp only[zc1,zAu,zA7,zA3] at ho
          repeat' (first|(apply z06;(refine z0b (z1a (ys:=l.map z8m) rfl (idx hx)) rfl rfl ?_))|(apply z08;(refine z0m (z1a (ys:=l.map z8m) rfl (zel hyi)) rfl rfl ?_))|(apply z1l;(refine z0m (z1g (zak (by omega) (by omega))) rfl rfl ?_))|refine z05 ?_|refine fk (fun _=>?_) (fun _=>?_)|(refine z1d (fun hg=>?_) (fun hg=>?_)<;> simp only[hg] <;> (try simp only[zA3,zA5,zA6,zA8] at hg)))
          all_goals exact zD138
        · exact zD29
   · exact zD83
 · obtain rfl:i=A.length:=by omega
   rw[zAs,zbw] at i2
   rw[← i2]
   repeat' (first|refine z05 ?_|refine fk (fun _=>?_) (fun _=>?_))
   all_goals exact zD138
theorem zr0 (a:Int):z0d Tryz.prog 180 [I .i32 a] (B false):=by
 refine z14 fun H=>?_
 refine z0a Tryz.func180 (by kernel_rfl) rfl (by simp) ?_
 dsimp only[Tryz.f180]
 repeat' (first|refine z05 ?_|fail)
 all_goals try (exfalso;omega)
 all_goals exact z00 Tryz.func180 _ (zs0 rfl (by simp only[ne_eq,not_true_eq_false,decide_false];rfl)) ⟨rfl,rfl⟩
theorem zsv (a:Au) (q:Nat) (hq:q<a.A.length) (hl:∀ l∈a.A,l.length≤4611686018427387904) (c:Int):z0d Tryz.prog 50 [.d (auD a),I .i64 (q:Nat),I .i32 c] (I .i64 (a.nx q c)):=by
 obtain⟨F,A⟩:=a
 simp only at hq hl
 obtain⟨l,hA⟩:∃ l,A[q]? =some l:=⟨_,zA0 hq⟩
 have hll:=hl l (zA2 hA)
 have hnx:(⟨F,A⟩:Au).nx (q:Nat) c=nxt l c:=by rw[Au.nx,Au.arcs,zAy (by omega),zA9,List.getD,hA];rfl
 rw[hnx]
 refine z14 fun H=>?_
 refine z0a Tryz.func50 (by kernel_rfl) rfl (by simp) ?_
 dsimp only[Tryz.f50]
 repeat' (first|(apply z06;(refine z0b (z1a (ys:=A.map z6w) rfl (idx hA)) rfl rfl ?_))|(apply z1v;(refine z0e z4a ?_))|refine z05 ?_|fail)
 all_goals try (exfalso;omega)
 refine z0j ?_
 refine z01 (z0z (fun k:Nat=>⟨34,[(2,I .i32 c),(15,.d (zvh l)),(16,I .i64 l.length),(17,I .i64 (k:Nat))],[],H⟩) (fun k=>k≤l.length∧nxt (l.drop k) c=nxt l c) (fun k=>l.length-k) ?_ 0 ⟨zAf _,rfl⟩) rfl rfl
 rintro k ⟨k1,k2⟩ ih
 by_cases hlt:k<l.length
 · obtain⟨x,hx⟩:∃ x,l[k]? =some x:=⟨_,zA0 hlt⟩
   rw[drop_cons hx,nxt] at k2
   by_cases hc:x.1≤c∧c≤x.2.1
   · rw[zAz hc] at k2
     rw[← k2]
     repeat' (first|(apply z06;(refine z0b (z1a (ys:=l.map z8m) rfl (idx hx)) rfl rfl ?_))|refine z05 ?_|refine fk (fun _=>?_) (fun _=>?_))
     all_goals exact zD149
   · rw[zAy hc] at k2
     have ih':=ih (k+1) ⟨by omega,k2⟩ (by omega)
     repeat' (first|(apply z06;(refine z0b (z1a (ys:=l.map z8m) rfl (idx hx)) rfl rfl ?_))|refine z05 ?_|refine fk (fun _=>?_) (fun _=>?_))
     all_goals exact zD10
 · obtain rfl:k=l.length:=by omega
   rw[zAs,nxt] at k2
   rw[← k2]
   repeat' (first|refine z05 ?_|refine fk (fun _=>?_) (fun _=>?_))
   all_goals exact zD149
theorem zii (a:Au) (q:Int) (hq:q<0) (c:Int):z0d Tryz.prog 50 [.d (auD a),I .i64 q,I .i32 c] (I .i64 (-1)):=by
 obtain⟨F,A⟩:=a
 refine z14 fun H=>?_
 refine z0a Tryz.func50 (by kernel_rfl) rfl (by simp) ?_
 dsimp only[Tryz.f50]
 repeat' (first|(apply z1v;(refine z0e z4a ?_))|refine z05 ?_|refine fk (fun _=>?_) (fun _=>?_))
 all_goals exact zD149
open Go.Ab Go.Ax Go.Rx
theorem zl3 (l:List Rg) (hl:l.length≤9223372036854775807) (c:Int):z0d Tryz.prog 57 [.d (rgs l),I .i32 c] (B (inB l c)):=by
 refine z14 fun H=>?_
 refine z0a Tryz.func57 (by kernel_rfl) rfl (by simp) ?_
 dsimp only[Tryz.f57]
 repeat' (first|refine z05 ?_|fail)
 all_goals try (exfalso;omega)
 refine z0j ?_
 refine z01 (z0z (fun q:Nat=>⟨24,[(1,I .i32 c),(7,.d (rgs l)),(8,I .i64 l.length),(9,I .i64 (q:Nat))],[],H⟩) (fun q=>q≤l.length∧inB (l.drop q) c=inB l c) (fun q=>l.length-q) ?_ 0 ⟨zAf _,rfl⟩) rfl rfl
 intro q ⟨i1,i2⟩ ih
 by_cases hlt:q<l.length
 · obtain⟨r,hr⟩:∃ r,l[q]? =some r:=⟨_,zA0 hlt⟩
   rw[drop_cons hr,inB,List.any_cons,← inB] at i2
   by_cases hc:r.1≤c∧c≤r.2
   · rw[zAi hc.1,zAi hc.2,Bool.true_and,Bool.true_or] at i2
     rw[← i2]
     repeat' (first|(apply z06;(refine z0b (z1a (ys:=l.map rgc) rfl (idx hr)) rfl rfl ?_))|refine z05 ?_|refine fk (fun _=>?_) (fun _=>?_))
     all_goals try (exfalso;omega)
     all_goals exact z00 Tryz.func57 _ z13 ⟨rfl,rfl⟩
   · exact zD62
 · obtain rfl:q=l.length:=by omega
   rw[zAs,inB,List.any_nil] at i2
   rw[← i2]
   repeat' (first|refine z05 ?_|refine fk (fun _=>?_) (fun _=>?_))
   all_goals try (exfalso;omega)
   all_goals exact z00 Tryz.func57 _ z13 ⟨rfl,rfl⟩
abbrev cps (s:ByteArray) (i:Nat):List Int:=(rst s i).map (·.r)
def y8g (a:Au) (s:ByteArray):Bool:=if vAu a=0∧z8q s=true then a.acc 0 (cps s 0) else false
theorem zrg {a:Au} (hv:y8x a) (k:Nat) (hk:k<a.F.length) (c:Int):∃ l,a.A[k]? =some l∧okA none l∧a.nx (k:Nat) c=nxt l c∧-1≤nxt l c∧nxt l c<a.F.length:=by
 obtain⟨l,hl⟩:∃ l,a.A[k]? =some l:=⟨_,zA0 (by rw[hv.len];exact hk)⟩
 have hla:=hv.arc l (zA2 hl)
 refine⟨l,hl,hla.1,by rw[Au.nx,Au.arcs,zAy (by omega),zA9,List.getD,hl];rfl,y0i (p:=none) hla.1 c,?_⟩
 have key:∀ m:List Arc,(∀ x∈m,x.2.2<a.F.length)→nxt m c<a.F.length:=fun m=>by
  induction m with
  | nil=>intro _;simp only[nxt];have:=hv.pos;omega
  | cons x m ih =>
   intro h
   rw[nxt]
   split
   · exact h x (by simp)
   · exact ih fun y hy=>h y (by simp[hy])
 exact key l fun x hx=>(hla.2 x hx).2.2.2.2
theorem y6r (a:Au) (hf:zp7 a) (hl:∀ l∈a.A,l.length≤4611686018427387904) (s:ByteArray) (hs:s.size≤1000000):z0d Tryz.prog 46 [.d (auD a),S s] (B (y8g a s)):=by
 have hv:=zc4 a hf
 have hd:=zn5 s hs
 refine z14 fun H=>?_
 rw[y8g]
 by_cases h0:vAu a=0
 · rw[h0] at hv
   by_cases h1:z8q s=true
   · have hva:=zgb h0
     rw[zAz ⟨h0,h1⟩]
     rw[h1] at hd
     have hlen:=hva.len
     have hnb:∀ c:Int,∀ r:Int,r<0→z0d Tryz.prog 50 [.d (auD a),I .i64 r,I .i32 c] (I .i64 (-1)):=fun c r hr=>zii a r hr c
     have hnn:=fun (k:Nat) (hk:k<a.A.length) (c:Int)=>zsv a k hk hl c
     refine z0a Tryz.func46 (by kernel_rfl) rfl (by simp) ?_
     dsimp only[Tryz.f46]
     repeat' (first|(apply z03;(first|refine z1i hv ?_| refine z1i hd ?_))|(apply z1v;(refine z0e z4a ?_))|refine z05 ?_|(apply z16;(refine z7s rfl rfl rfl (by decide) ?_)))
     all_goals try (exfalso;omega)
     refine z0j ?_
     refine z01 (z0z (fun q:Nat × Int=>⟨34,[(2,.ptr (0,2) 0),(5,I .i64 q.2),(17,.ptr (0,17) 0)],[(17,.siter s q.1),(2,.box ((auc a).map .d))],H⟩) (fun q=>q.1≤s.size∧q.2<a.F.length∧a.acc q.2 (cps s q.1)=a.acc 0 (cps s 0)) (fun q=>s.size-q.1) ?_ (0,0) ⟨zAf _,by have:=hva.pos;simp only;omega,rfl⟩) rfl rfl
     rintro⟨q,k⟩ ⟨i1,i2,i3⟩ ih
     simp only at i1 i2 i3 ih ⊢
     by_cases hlt:q<s.size
     · have hd2:=z2z hlt
       have hw:=z5m s q hlt
       rw[cps,hd2,List.map_cons,Au.acc_cons] at i3
       simp only at i3
       by_cases hk:k<0
       · have hst:=hnb ((Utf8.decode s q).1:Nat) k hk
         rw[a.nx_neg hk] at i3
         have ih':=ih (q+(Utf8.decode s q).2,-1) ⟨by simp only;omega,by simp only;have:=hva.pos;omega,i3⟩ (by simp only;omega)
         all_goals exact zD150
       · obtain⟨k,rfl⟩:∃ k':Nat,k=k':=⟨k.toNat,by omega⟩
         obtain⟨l,hA,hlo,hnx,n0,n1⟩:=zrg hva k (by omega) ((Utf8.decode s q).1:Nat)
         have hst:=hnn k (by omega) ((Utf8.decode s q).1:Nat)
         have ih':=ih (q+(Utf8.decode s q).2,a.nx (k:Nat) ((Utf8.decode s q).1:Nat)) ⟨by simp only;omega,by simp only;omega,i3⟩ (by simp only;omega)
         simp only at ih'
         generalize a.nx (k:Nat) ((Utf8.decode s q).1:Nat)=r at *
         all_goals exact zD150
     · rw[cps,z1w (by omega),List.map_nil,Au.acc_nil] at i3
       rw[← i3]
       by_cases hk:k<0
       · rw[Au.fin,zAz hk]
         repeat' (first|refine z05 ?_|refine fk (fun _=>?_) (fun _=>?_)|(apply z16;(refine z2b hlt rfl rfl (by decide) ?_)))
         all_goals exact zD109
       · obtain⟨k,rfl⟩:∃ k':Nat,k=k':=⟨k.toNat,by omega⟩
         obtain⟨b,hb⟩:∃ b,a.F[k]? =some b:=⟨_,zA0 (by omega)⟩
         rw[Au.fin,zAy hk,zA9]
         simp only[List.getD,hb,Option.getD_some]
         repeat' (first|(apply z06;(refine z0b (z1a (ys:=a.F.map fun b=>[zdh b]) rfl (idx (g:=fun b=>[zdh b]) hb)) rfl rfl ?_))|refine z05 ?_|(apply z16;(refine z2b hlt rfl rfl (by decide) ?_)))
         all_goals exact zD109
   · rw[zAy (fun h=>h1 h.2)]
     rw[Bool.not_eq_true] at h1
     rw[h1] at hd
     refine z0a Tryz.func46 (by kernel_rfl) rfl (by simp) ?_
     dsimp only[Tryz.f46]
     repeat' (first|(apply z03;(first|refine z1i hv ?_| refine z1i hd ?_))|(apply z1v;(refine z0e z4a ?_))|refine z05 ?_|fail)
     all_goals exact zD109
 · rw[zAy (fun h=>h0 h.1)]
   generalize vAu a=v at *
   refine z0a Tryz.func46 (by kernel_rfl) rfl (by simp) ?_
   dsimp only[Tryz.f46]
   repeat' (first|(apply z03;(first|refine z1i hv ?_| refine z1i hd ?_))|(apply z1v;(refine z0e z4a ?_))|refine z05 ?_|refine fk (fun _=>?_) (fun _=>?_))
   all_goals exact zD109
end Go.Proofs.YtmcggompdmngmaaGreatDoor
