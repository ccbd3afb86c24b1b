/- A part. -/
import Derived.Test.YtmcggompdmngmaaGreatDoorX6
import Derived.Test.YtmcggompdmngmaaGreatDoorXm
import Derived.Test.YtmcggompdmngmaaGreatDoorXi
set_option linter.all false
open Go.Proofs.Tryz
namespace Go.Proofs.YtmcggompdmngmaaGreatDoor
open Go.Ab Go.Ax Go.Rx
set_option maxHeartbeats 20000000
set_option maxRecDepth 100000
attribute [local irreducible] Run Ops Op1 z0y Val Tr z0a z0u NF Rel z27 z29
def y2s(l:List Rg):Prop:=l.length≤557056∧∀x∈l,0≤x.1∧x.1≤x.2∧x.2≤1114111
theorem ziq:∀(l:List Rg) (a:Int),0≤a→z9z a l=true→∀x∈l,0≤x.1∧x.1≤x.2∧x.2≤1114111
 | [],_,_,_,x,hx=>by cases hx
 | r::l,a,ha,h,x,hx=>by
  rw[z9z,zA7,zA7,zA7,zA3,zA3,zA3]at h
  obtain⟨⟨⟨h1,h2⟩,h3⟩,h4⟩:=h
  rcases zAc.1 hx with rfl|hx
  ·omega
  ·exact ziq l (r.2+2) (by omega) h4 x hx
theorem zvr{l:List Rg}(h:zly l=true):y2s l:=by
 refine⟨zya h,?_⟩
 rw[zly,zA7]at h
 exact ziq l 0 (Int.le_refl _) h.1
theorem y04{l:List Rg}(h:l.length=0):y2s l:=by
 rw[List.length_eq_zero_iff]at h;subst h;exact⟨by simp,by simp⟩
theorem y4t{op mn mx:Int}{rs:List Rg}{ks:List Rx}(h:vn (.mk op mn mx rs ks)=true):y2s rs:=by
 unfold vn at h
 simp only at h
 by_cases h1:op=1
 ·rw[zAz h1]at h
  simp only[zA7,zA3]at h
  exact zvr h.2
 ·rw[zAy h1]at h
  refine y04 ?_
  by_cases h2:op=2
  ·rw[zAz h2]at h
   simp only[zA7,zA3]at h
   exact h.1.1.2
  ·rw[zAy h2]at h
   by_cases h3:op=3
   ·rw[zAz h3]at h
    simp only[zA7,zA3]at h
    exact h.1.1.2
   ·rw[zAy h3]at h
    by_cases h4:op=4
    ·rw[zAz h4]at h
     simp only[zA7,zA3]at h
     exact h.1.1.1.1
    ·rw[zAy h4]at h;cases h
theorem zyn:(∀e:Rx,vns e=true→y70 y2s e)∧∀l:List Rx,zev l=true→zkg y2s l:=by
 refine Rx.ind (fun op mn mx rs ks ih hv=>?_) (fun _=>trivial) fun k ks hk ih hv=>?_
 ·rw[vns,zA7]at hv
  exact⟨y4t hv.1,ih hv.2⟩
 ·rw[zev,zA7]at hv
  exact⟨hk hv.1,ih hv.2⟩
structure ye1(t:Tb)(p:Pt):Prop where
 len:t.fo.length=t.lv.length
 few:t.lv.length≤64
 fo:∀x∈t.fo,x<2 ^ 64
 f:p.f<2 ^ 64
 l:p.l<2 ^ 64
 rg:∀r∈t.lv,y2s r
theorem ycc{e:Rx}(h0:val e=0):ye1 (bd e tb0).1 (bd e tb0).2:=by
 have hvn:=zmt h0
 have hpn:=zs1 h0
 have hbl:=(y11 hvn).bl tb0 rfl
 have hfw:=(y11 hvn).few tb0 rfl
 have hlv:=y7v.1 e (zyn.1 e hvn) tb0 (by simp)
 generalize bd e tb0=r1 at *
 obtain⟨t1,p⟩:=r1
 have hfw2:(t1.lv.length:Int)≤Rx.pn e:=by simpa using hfw
 obtain⟨s2,pf,pl⟩:=hbl.sm ⟨rfl,by simp⟩ (by show t1.lv.length≤64;omega)
 exact⟨s2.len,by show t1.lv.length≤64;omega,s2.sm,pf,pl,hlv⟩
theorem zxj(N:Nat){lv:List (List Rg)}(h:lv.length≤64)(hr:∀r∈lv,y2s r):(z4j (z9g N 0 lv)).length≤100000000:=by
 have hl:=zgw N lv 0
 have hm:∀r∈z9g N 0 lv,r.length≤557056:=fun r hrr=>(hr r (z8m N lv 0 r hrr)).1
 generalize z9g N 0 lv=L at *
 have key:∀M:List (List Rg),(∀r∈M,r.length≤557056)→(M.flatMap fun r=>ends r).length≤M.length*1114112:=fun M=>by
  induction M with
  | nil=>intro _;simp
  | cons r M ih =>
   intro h
   have h1:=h r (by simp)
   have h2:=ih fun x hx=>h x (by simp[hx])
   have h3:(ends r).length=2*r.length:=by
    clear h1 h2
    induction r with
    | nil=>rfl
    | cons x r ih2 =>
     have:=ih2 (fun y hy=>by
      rcases zAc.1 hy with rfl|hy
      ·have:=h (x::y) (by simp);rw[zAk]at this;omega
      ·exact h y (by simp[hy]))
     rw[ends,List.flatMap_cons,zAa]
     rw[ends]at this
     rw[this,zAk]
     simp;omega
   rw[List.flatMap_cons,zAa,zAk,h3]
   rw[Nat.add_mul,Nat.one_mul];omega
 have:=key L hm
 have h4:L.length*1114112≤64*1114112:=Nat.mul_le_mul_right _ (by omega)
 rw[z4j,zAa]
 have e:(List.flatMap ends L)=L.flatMap fun r=>ends r:=rfl
 rw[e]
 simp only[zAk,List.length_nil]
 omega
theorem zvm(e:Rx)(hf:fit e)(h0:val e=0):z0a prog 21 [.d (Drx e)] (zzc (zrn e)):=by
 have hvn:=zmt h0
 have hpn:=zs1 h0
 have hb:=zt0 e hvn hf tb0 ⟨rfl,by simp⟩ (by simpa using hpn)
 have ht:=ycc h0
 exact zu5 (M:=100000000) (zff 100000000 (by omega)) (by omega) e hf h0 hb ⟨ht.len,ht.few,ht.fo,ht.f,ht.l⟩ (fun r hr x hx=>by have:=(ht.rg r hr).2 x hx;omega) (fun r hr=>by have:=(ht.rg r hr).1;omega) fun N=>zxj N ht.few ht.rg
section
variable{lv:List (List Rg)}(hr:∀r∈lv,y2s r)(fo:List Nat)(f l:Nat)(nu:Bool)
include hr
end
end Go.Proofs.YtmcggompdmngmaaGreatDoor
