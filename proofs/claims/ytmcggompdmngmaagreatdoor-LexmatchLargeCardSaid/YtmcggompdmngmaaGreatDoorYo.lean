/- A part of the proof: C1 to C1. -/
import Derived.Test.YtmcggompdmngmaaGreatDoorYc
import Derived.Test.YtmcggompdmngmaaGreatDoorY5
import Derived.Test.YtmcggompdmngmaaGreatDoorY6
import Derived.Test.YtmcggompdmngmaaGreatDoorYq
import Derived.Test.YtmcggompdmngmaaGreatDoorYv
import Derived.Test.YtmcggompdmngmaaGreatDoorYm
import Derived.Test.YtmcggompdmngmaaGreatDoorYy
import Derived.Test.YtmcggompdmngmaaGreatDoorYi
set_option linter.all false
namespace Go.Proofs.YtmcggompdmngmaaGreatDoor
open Go.Ab Go.Ax Go.Rx
set_option maxHeartbeats 20000000
set_option maxRecDepth 100000
attribute [local irreducible] Run Ops Op1 z0u Val Tr z09 z0q NF Rel z1v z1u
theorem zui {K:Type} [DecidableEq K] {fin:K→Bool} {edg:K→List (Go.Ax.Edge K)} {lim:Nat}:∀ (n i:Nat) (ks:List K) (a b:Au),a.F.length=i→i≤lim→ks.length≤lim→exL fin edg lim n i ks a=some b→b.F.length≤lim
 | 0,_,_,_,_,_,_,_,h=>by simp[exL] at h
 | n+1,i,ks,a,b,ha,hi,hk,h=>by
  rw[exL] at h
  cases e:ks[i]? with
  | none=>rw[e] at h;simp only[zAh] at h;subst h;omega
  | some k =>
   rw[e] at h
   simp only at h
   have hik:=(zA1.1 e).1
   split at h
   · cases h
   · rename_i hl
     exact zui n (i+1) _ _ b (by simp[ha]) (by omega) (by omega) h
def ztv (l:List Rg):Prop:=l.length≤557056∧∀ x∈l,0≤x.1∧x.1≤x.2∧x.2≤1114111
theorem zir:∀ (l:List Rg) (a:Int),0≤a→z7l a l=true→∀ x∈l,0≤x.1∧x.1≤x.2∧x.2≤1114111
 | [],_,_,_,x,hx=>by cases hx
 | r::l,a,ha,h,x,hx=>by
  rw[z7l,zA7,zA7,zA7,zA3,zA3,zA3] at h
  obtain⟨⟨⟨h1,h2⟩,h3⟩,h4⟩:=h
  rcases zAc.1 hx with rfl|hx
  · omega
  · exact zir l (r.2+2) (by omega) h4 x hx
theorem zq2 {l:List Rg} (h:zgc l=true):ztv l:=by
 refine⟨zxq h,?_⟩
 rw[zgc,zA7] at h
 exact zir l 0 (Int.le_refl _) h.1
theorem zwt {l:List Rg} (h:l.length=0):ztv l:=by
 rw[List.length_eq_zero_iff] at h;subst h;exact⟨by simp,by simp⟩
theorem y32 {op mn mx:Int} {rs:List Rg} {ks:List Rx} (h:vn (.mk op mn mx rs ks)=true):ztv rs:=by
 unfold vn at h
 simp only at h
 by_cases h1:op=1
 · rw[zAz h1] at h
   simp only[zA7,zA3] at h
   exact zq2 h.2
 · rw[zAy h1] at h
   refine zwt ?_
   by_cases h2:op=2
   · rw[zAz h2] at h
     simp only[zA7,zA3] at h
     exact h.1.1.2
   · rw[zAy h2] at h
     by_cases h3:op=3
     · rw[zAz h3] at h
       simp only[zA7,zA3] at h
       exact h.1.1.2
     · rw[zAy h3] at h
       by_cases h4:op=4
       · rw[zAz h4] at h
         simp only[zA7,zA3] at h
         exact h.1.1.1.1
       · rw[zAy h4] at h;cases h
theorem zyx:(∀ e:Rx,vns e=true→y5w ztv e)∧∀ l:List Rx,zbp l=true→zi5 ztv l:=by
 refine Rx.ind (fun op mn mx rs ks ih hv=>?_) (fun _=>trivial) (fun k ks hk ih hv=>?_)
 · rw[vns,zA7] at hv
   exact⟨y32 hv.1,ih hv.2⟩
 · rw[zbp,zA7] at hv
   exact⟨hk hv.1,ih hv.2⟩
structure ydr (t:Tb) (p:Pt):Prop where
 len:t.fo.length=t.lv.length
 few:t.lv.length≤64
 fo:∀ x∈t.fo,x<2 ^ 64
 f:p.f<2 ^ 64
 l:p.l<2 ^ 64
 rg:∀ r∈t.lv,ztv r
theorem yb2 {e:Rx} (h0:val e=0):ydr (bd e tb0).1 (bd e tb0).2:=by
 have hvn:=zb2 h0
 have hpn:=zu2 h0
 have hbl:=(y0r hvn).bl tb0 rfl
 have hfw:=(y0r hvn).few tb0 rfl
 have hlv:=y9r.1 e (zyx.1 e hvn) tb0 (by simp)
 generalize bd e tb0=r1 at *
 obtain⟨t1,p⟩:=r1
 have hfw2:(t1.lv.length:Int)≤Rx.pn e:=by simpa using hfw
 obtain⟨s2,pf,pl⟩:=hbl.sm ⟨rfl,by simp⟩ (by show t1.lv.length≤64;omega)
 exact⟨s2.len,by show t1.lv.length≤64;omega,s2.sm,pf,pl,hlv⟩
theorem zyo (N:Nat) {lv:List (List Rg)} (h:lv.length≤64) (hr:∀ r∈lv,ztv r):(z4q (z6u N 0 lv)).length≤100000000:=by
 have hl:=zh4 N lv 0
 have hm:∀ r∈z6u N 0 lv,r.length≤557056:=fun r hrr=>(hr r (z6r N lv 0 r hrr)).1
 generalize z6u N 0 lv=L at *
 have key:∀ M:List (List Rg),(∀ r∈M,r.length≤557056)→(M.flatMap fun r=>ends r).length≤M.length*1114112:=fun M=>by
  induction M with
  | nil=>intro _;simp
  | cons r M ih =>
   intro h
   have h1:=h r (by simp)
   have h2:=ih fun x hx=>h x (by simp[hx])
   have h3:(ends r).length=2*r.length:=by
    clear h1 h2
    induction r with
    | nil=>rfl
    | cons x r ih2 =>
     have:=ih2 (fun y hy=>by
      rcases zAc.1 hy with rfl|hy
      · have:=h (x::y) (by simp);rw[zAk] at this;omega
      · exact h y (by simp[hy]))
     rw[ends,List.flatMap_cons,zAa]
     rw[ends] at this
     rw[this,zAk]
     simp;omega
   rw[List.flatMap_cons,zAa,zAk,h3]
   rw[Nat.add_mul,Nat.one_mul];omega
 have:=key L hm
 have h4:L.length*1114112≤64*1114112:=Nat.mul_le_mul_right _ (by omega)
 rw[z4q,zAa]
 have e:(List.flatMap ends L)=L.flatMap fun r=>ends r:=rfl
 rw[e]
 simp only[zAk,List.length_nil]
 omega
theorem zin (e:Rx) (hf:fit e) (h0:val e=0):z09 Tryz.prog 21 [.d (Drx e)] (y5u (zh1 e)):=by
 have hvn:=zb2 h0
 have hpn:=zu2 h0
 have hb:=zu5 e hvn hf tb0 ⟨rfl,by simp⟩ (by simpa using hpn)
 have ht:=yb2 h0
 exact zqx (M:=100000000) (zpa 100000000 (by omega)) (by omega) e hf h0 hb ⟨ht.len,ht.few,ht.fo,ht.f,ht.l⟩ (fun r hr x hx=>by have:=(ht.rg r hr).2 x hx;omega) (fun r hr=>by have:=(ht.rg r hr).1;omega) (fun N=>zyo N ht.few ht.rg)
def cF (N:Nat) (lv:List (List Rg)) (c:Int):Option (Bool × Nat):=if ze3 N lv c=0 then none else some (false,ze3 N lv c)
theorem zsp (N:Nat) (lv:List (List Rg)):z5y N lv=zoz (cF N lv) (zag N lv):=by
 rw[← zey,z5y]
 congr 1
 funext i
 rw[cE,zv3,cF]
 split <;> rfl
theorem zqn (N:Nat):∀ (lv:List (List Rg)) (k i:Nat),i<lv.length→N.testBit (k+i)=true→lv.getD i []∈z6u N k lv
 | [],_,_,h,_=>by simp at h
 | x::ls,k,0,_,hb=>by
  rw[z6u,zAz (by simpa using hb)]
  simp
 | x::ls,k,i+1,h,hb=>by
  have ih:=zqn N ls (k+1) i (by simpa using h) (by rw[show k+1+i=k+(i+1) by omega];exact hb)
  rw[List.getD_cons_succ,z6u]
  split
  · exact List.mem_cons_of_mem _ ih
  · exact ih
theorem zza (N:Nat) {lv:List (List Rg)} (hr:∀ r∈lv,ztv r) :
 (zag N lv).Pairwise (· <·)∧(∀ z∈zag N lv,0≤z∧z≤1114112)∧0∈zag N lv∧1114112∈zag N lv∧∀ i,i<lv.length→N.testBit i=true→∀ x∈lv.getD i [],x.1∈zag N lv∧x.2+1∈zag N lv:=by
 have h:=zfk (Go.Ax.zah (z4q (z6u N 0 lv)))
 have hm':∀ z,z∈zag N lv↔z∈z4q (z6u N 0 lv):=fun z=>by
  rw[zag,zal,h.2 z,(Go.Ax.z81 _).mem_iff]
 have hin:∀ r∈z6u N 0 lv,∀ x∈r,x.1∈z4q (z6u N 0 lv)∧x.2+1∈z4q (z6u N 0 lv):=fun r hr x hx=>by
  constructor
  all_goals rw[z4q,zAt,List.mem_flatMap]
  all_goals refine .inr ⟨r,hr,?_⟩
  all_goals rw[ends,List.mem_flatMap]
  all_goals refine⟨x,hx,?_⟩
  all_goals simp
 refine⟨h.1,zhb fun r hra x hx=>by have:=(hr r (z6r N lv 0 r hra)).2 x hx;omega,(hm' 0).2 (by simp[z4q]),(hm' 1114112).2 (by simp[z4q]),fun i hi hb x hx=>?_⟩
 have:=hin _ (zqn N lv 0 i hi (by rw[Nat.zero_add];exact hb)) x hx
 exact⟨(hm' _).2 this.1,(hm' _).2 this.2⟩
theorem zp9 {N:Nat} {lv:List (List Rg)} {p c:Int} (h:∀ i,i<lv.length→N.testBit i=true→inR (lv.getD i []) p=inR (lv.getD i []) c):ze3 N lv p=ze3 N lv c:=by
 have key:∀ j,bit (ze3 N lv p) j↔bit (ze3 N lv c) j:=fun j=>by
  rw[ze3,ze3,z7b,z7b]
  constructor
  all_goals rintro(g|⟨k,k1,k2,k3,k4⟩)
  all_goals first|exact .inl g|refine .inr ⟨k,k1,k2,k3,?_⟩
  all_goals subst k2;rw[Nat.zero_add] at k3
  · rw[← h k k1 k3];exact k4
  · rw[h k k1 k3];exact k4
 refine Nat.eq_of_testBit_eq fun j=>?_
 have:=key j
 rw[bit,bit] at this
 cases h1:(ze3 N lv p).testBit j <;> cases h2:(ze3 N lv c).testBit j <;> simp_all
theorem zq1 {l:List Rg} {P:List Int} {p c:Int} (hP:∀ x∈l,x.1∈P∧x.2+1∈P) (hpc:p≤c) (hy:∀ y∈P,y≤c→y≤p):inR l p=inR l c:=by
 rw[inR,inR,Bool.eq_iff_iff,List.any_eq_true,List.any_eq_true]
 simp only[zA7,zA3]
 constructor
 · rintro⟨x,hx,h1,h2⟩
   refine⟨x,hx,by omega,?_⟩
   by_cases g:c≤x.2
   · exact g
   · have:=hy _ (hP x hx).2 (by omega);omega
 · rintro⟨x,hx,h1,h2⟩
   exact⟨x,hx,hy _ (hP x hx).1 h1,by omega⟩
theorem zko (N:Nat) {lv:List (List Rg)} (hr:∀ r∈lv,ztv r):okE 0 (z5y N lv)∧∀ c,kx (z5y N lv) c=if 0≤c∧c≤1114111 then cF N lv c else none:=by
 obtain⟨h1,h2,h3,h4,h5⟩:=zza N hr
 rw[zsp]
 refine⟨zlc h1 h2,fun c=>?_⟩
 by_cases g:0≤c∧c≤1114111
 · rw[zAz g]
   refine(y1h h1 fun p hp hpc hy=>?_).1 0 h3 g.1 ⟨_,h4,by omega⟩
   rw[cF,cF,zp9 fun i hi hb=>zq1 (h5 i hi hb) hpc hy]
 · rw[zAy g]
   have hk:=zlc (f:=cF N lv) h1 h2
   cases e:kx (zoz (cF N lv) (zag N lv)) c with
   | none=>rfl
   | some k=>exact absurd (zzy hk e) g
section
variable {lv:List (List Rg)} (hr:∀ r∈lv,ztv r) (fo:List Nat) (f l:Nat) (nu:Bool)
include hr
end
end Go.Proofs.YtmcggompdmngmaaGreatDoor
