/- A part of the proof: C1 to C1. -/
import Derived.Test.YtmcggompdmngmaaGreatDoorVc
import Derived.Test.YtmcggompdmngmaaGreatDoorV5
import Derived.Test.YtmcggompdmngmaaGreatDoorV6
import Derived.Test.YtmcggompdmngmaaGreatDoorVq
import Derived.Test.YtmcggompdmngmaaGreatDoorVv
import Derived.Test.YtmcggompdmngmaaGreatDoorVm
import Derived.Test.YtmcggompdmngmaaGreatDoorVy
import Derived.Test.YtmcggompdmngmaaGreatDoorVi
set_option linter.all false
namespace Go.Proofs.YtmcggompdmngmaaGreatDoor
open Go.Ab Go.Ax Go.Rx
set_option maxHeartbeats 20000000
set_option maxRecDepth 100000
attribute [local irreducible] Run Ops Op1 z13 Val Tr z0d z0w NF Rel z2a z2b
def zxz (l:List Rg):Prop:=l.length≤557056∧∀ x∈l,0≤x.1∧x.1≤x.2∧x.2≤1114111
theorem zie:∀ (l:List Rg) (a:Int),0≤a→z8j a l=true→∀ x∈l,0≤x.1∧x.1≤x.2∧x.2≤1114111
 | [],_,_,_,x,hx=>by cases hx
 | r::l,a,ha,h,x,hx=>by
  rw[z8j,zA7,zA7,zA7,zA3,zA3,zA3] at h
  obtain⟨⟨⟨h1,h2⟩,h3⟩,h4⟩:=h
  rcases zAc.1 hx with rfl|hx
  · omega
  · exact zie l (r.2+2) (by omega) h4 x hx
theorem zoy {l:List Rg} (h:zit l=true):zxz l:=by
 refine⟨zvb h,?_⟩
 rw[zit,zA7] at h
 exact zie l 0 (Int.le_refl _) h.1
theorem zu1 {l:List Rg} (h:l.length=0):zxz l:=by
 rw[List.length_eq_zero_iff] at h;subst h;exact⟨by simp,by simp⟩
theorem y0k {op mn mx:Int} {rs:List Rg} {ks:List Rx} (h:vn (.mk op mn mx rs ks)=true):zxz rs:=by
 unfold vn at h
 simp only at h
 by_cases h1:op=1
 · rw[zAz h1] at h
   simp only[zA7,zA3] at h
   exact zoy h.2
 · rw[zAy h1] at h
   refine zu1 ?_
   by_cases h2:op=2
   · rw[zAz h2] at h
     simp only[zA7,zA3] at h
     exact h.1.1.2
   · rw[zAy h2] at h
     by_cases h3:op=3
     · rw[zAz h3] at h
       simp only[zA7,zA3] at h
       exact h.1.1.2
     · rw[zAy h3] at h
       by_cases h4:op=4
       · rw[zAz h4] at h
         simp only[zA7,zA3] at h
         exact h.1.1.1.1
       · rw[zAy h4] at h;cases h
theorem zue:(∀ e:Rx,vns e=true→y3i zxz e)∧∀ l:List Rx,z8d l=true→zhh zxz l:=by
 refine Rx.ind (fun op mn mx rs ks ih hv=>?_) (fun _=>trivial) (fun k ks hk ih hv=>?_)
 · rw[vns,zA7] at hv
   exact⟨y0k hv.1,ih hv.2⟩
 · rw[z8d,zA7] at hv
   exact⟨hk hv.1,ih hv.2⟩
structure yab (t:Tb) (p:Pt):Prop where
 len:t.fo.length=t.lv.length
 few:t.lv.length≤64
 fo:∀ x∈t.fo,x<2 ^ 64
 f:p.f<2 ^ 64
 l:p.l<2 ^ 64
 rg:∀ r∈t.lv,zxz r
theorem y7z {e:Rx} (h0:val e=0):yab (bd e tb0).1 (bd e tb0).2:=by
 have hvn:=zg7 h0
 have hpn:=zp4 h0
 have hbl:=(zxx hvn).bl tb0 rfl
 have hfw:=(zxx hvn).few tb0 rfl
 have hlv:=y60.1 e (zue.1 e hvn) tb0 (by simp)
 generalize bd e tb0=r1 at *
 obtain⟨t1,p⟩:=r1
 have hfw2:(t1.lv.length:Int)≤Rx.pn e:=by simpa using hfw
 obtain⟨s2,pf,pl⟩:=hbl.sm ⟨rfl,by simp⟩ (by show t1.lv.length≤64;omega)
 exact⟨s2.len,by show t1.lv.length≤64;omega,s2.sm,pf,pl,hlv⟩
theorem zvl (N:Nat) {lv:List (List Rg)} (h:lv.length≤64) (hr:∀ r∈lv,zxz r):(z74 (z8x N 0 lv)).length≤100000000:=by
 have hl:=zfi N lv 0
 have hm:∀ r∈z8x N 0 lv,r.length≤557056:=fun r hrr=>(hr r (z7u N lv 0 r hrr)).1
 generalize z8x N 0 lv=L at *
 have key:∀ M:List (List Rg),(∀ r∈M,r.length≤557056)→(M.flatMap fun r=>ends r).length≤M.length*1114112:=fun M=>by
  induction M with
  | nil=>intro _;simp
  | cons r M ih =>
   intro h
   have h1:=h r (by simp)
   have h2:=ih fun x hx=>h x (by simp[hx])
   have h3:(ends r).length=2*r.length:=by
    clear h1 h2
    induction r with
    | nil=>rfl
    | cons x r ih2 =>
     have:=ih2 (fun y hy=>by
      rcases zAc.1 hy with rfl|hy
      · have:=h (x::y) (by simp);rw[zAk] at this;omega
      · exact h y (by simp[hy]))
     rw[ends,List.flatMap_cons,zAa]
     rw[ends] at this
     rw[this,zAk]
     simp;omega
   rw[List.flatMap_cons,zAa,zAk,h3]
   rw[Nat.add_mul,Nat.one_mul];omega
 have:=key L hm
 have h4:L.length*1114112≤64*1114112:=Nat.mul_le_mul_right _ (by omega)
 rw[z74,zAa]
 have e:(List.flatMap ends L)=L.flatMap fun r=>ends r:=rfl
 rw[e]
 simp only[zAk,List.length_nil]
 omega
theorem zsr (e:Rx) (hf:fit e) (h0:val e=0):z0d Tryz.prog 21 [.d (Drx e)] (y7e (zry e)):=by
 have hvn:=zg7 h0
 have hpn:=zp4 h0
 have hb:=zs0 e hvn hf tb0 ⟨rfl,by simp⟩ (by simpa using hpn)
 have ht:=y7z h0
 exact zr4 (M:=100000000) (znw 100000000 (by omega)) (by omega) e hf h0 hb ⟨ht.len,ht.few,ht.fo,ht.f,ht.l⟩ (fun r hr x hx=>by have:=(ht.rg r hr).2 x hx;omega) (fun r hr=>by have:=(ht.rg r hr).1;omega) (fun N=>zvl N ht.few ht.rg)
section
variable {lv:List (List Rg)} (hr:∀ r∈lv,zxz r) (fo:List Nat) (f l:Nat) (nu:Bool)
include hr
end
end Go.Proofs.YtmcggompdmngmaaGreatDoor
