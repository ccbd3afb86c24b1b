/- A part of the proof: C1 to CX. -/
import Derived.Test.YtmcggompdmngmaaGreatDoorWc
import Derived.Test.YtmcggompdmngmaaGreatDoorW5
import Derived.Test.YtmcggompdmngmaaGreatDoorW6
import Derived.Test.YtmcggompdmngmaaGreatDoorWq
import Derived.Test.YtmcggompdmngmaaGreatDoorWv
import Derived.Test.YtmcggompdmngmaaGreatDoorWm
import Derived.Test.YtmcggompdmngmaaGreatDoorWy
import Derived.Test.YtmcggompdmngmaaGreatDoorWi
import Derived.Test.YtmcggompdmngmaaGreatDoorWw
import Derived.Test.YtmcggompdmngmaaGreatDoorWz
set_option linter.all false
namespace Go.Proofs.YtmcggompdmngmaaGreatDoor
open Go.Ab Go.Ax Go.Rx
set_option maxHeartbeats 20000000
set_option maxRecDepth 100000
attribute [local irreducible] Run Ops Op1 z14 Val Tr z0d z0w NF Rel z1z z27
theorem zsj {K:Type} [DecidableEq K] {fin:K→Bool} {edg:K→List (Go.Ax.Edge K)} {lim:Nat}:∀ (n i:Nat) (ks:List K) (a b:Au),a.F.length=i→i≤lim→ks.length≤lim→exL fin edg lim n i ks a=some b→b.F.length≤lim
 | 0,_,_,_,_,_,_,_,h=>by simp[exL] at h
 | n+1,i,ks,a,b,ha,hi,hk,h=>by
  rw[exL] at h
  cases e:ks[i]? with
  | none=>rw[e] at h;simp only[zAh] at h;subst h;omega
  | some k =>
   rw[e] at h
   simp only at h
   have hik:=(zA1.1 e).1
   split at h
   · cases h
   · rename_i hl
     exact zsj n (i+1) _ _ b (by simp[ha]) (by omega) (by omega) h
def zuq (l:List Rg):Prop:=l.length≤557056∧∀ x∈l,0≤x.1∧x.1≤x.2∧x.2≤1114111
theorem zjd:∀ (l:List Rg) (a:Int),0≤a→z7o a l=true→∀ x∈l,0≤x.1∧x.1≤x.2∧x.2≤1114111
 | [],_,_,_,x,hx=>by cases hx
 | r::l,a,ha,h,x,hx=>by
  rw[z7o,zA7,zA7,zA7,zA3,zA3,zA3] at h
  obtain⟨⟨⟨h1,h2⟩,h3⟩,h4⟩:=h
  rcases zAc.1 hx with rfl|hx
  · omega
  · exact zjd l (r.2+2) (by omega) h4 x hx
theorem zs5 {l:List Rg} (h:zhm l=true):zuq l:=by
 refine⟨zwf h,?_⟩
 rw[zhm,zA7] at h
 exact zjd l 0 (Int.le_refl _) h.1
theorem zva {l:List Rg} (h:l.length=0):zuq l:=by
 rw[List.length_eq_zero_iff] at h;subst h;exact⟨by simp,by simp⟩
theorem y46 {op mn mx:Int} {rs:List Rg} {ks:List Rx} (h:vn (.mk op mn mx rs ks)=true):zuq rs:=by
 unfold vn at h
 simp only at h
 by_cases h1:op=1
 · rw[zAz h1] at h
   simp only[zA7,zA3] at h
   exact zs5 h.2
 · rw[zAy h1] at h
   refine zva ?_
   by_cases h2:op=2
   · rw[zAz h2] at h
     simp only[zA7,zA3] at h
     exact h.1.1.2
   · rw[zAy h2] at h
     by_cases h3:op=3
     · rw[zAz h3] at h
       simp only[zA7,zA3] at h
       exact h.1.1.2
     · rw[zAy h3] at h
       by_cases h4:op=4
       · rw[zAz h4] at h
         simp only[zA7,zA3] at h
         exact h.1.1.1.1
       · rw[zAy h4] at h;cases h
theorem zvh:(∀ e:Rx,vns e=true→y50 zuq e)∧∀ l:List Rx,zbq l=true→zj9 zuq l:=by
 refine Rx.ind (fun op mn mx rs ks ih hv=>?_) (fun _=>trivial) (fun k ks hk ih hv=>?_)
 · rw[vns,zA7] at hv
   exact⟨y46 hv.1,ih hv.2⟩
 · rw[zbq,zA7] at hv
   exact⟨hk hv.1,ih hv.2⟩
structure ybm (t:Tb) (p:Pt):Prop where
 len:t.fo.length=t.lv.length
 few:t.lv.length≤64
 fo:∀ x∈t.fo,x<2 ^ 64
 f:p.f<2 ^ 64
 l:p.l<2 ^ 64
 rg:∀ r∈t.lv,zuq r
theorem y7n {e:Rx} (h0:val e=0):ybm (bd e tb0).1 (bd e tb0).2:=by
 have hvn:=zd8 h0
 have hpn:=zta h0
 have hbl:=(zzv hvn).bl tb0 rfl
 have hfw:=(zzv hvn).few tb0 rfl
 have hlv:=y80.1 e (zvh.1 e hvn) tb0 (by simp)
 generalize bd e tb0=r1 at *
 obtain⟨t1,p⟩:=r1
 have hfw2:(t1.lv.length:Int)≤Rx.pn e:=by simpa using hfw
 obtain⟨s2,pf,pl⟩:=hbl.sm ⟨rfl,by simp⟩ (by show t1.lv.length≤64;omega)
 exact⟨s2.len,by show t1.lv.length≤64;omega,s2.sm,pf,pl,hlv⟩
theorem zuu (N:Nat) {lv:List (List Rg)} (h:lv.length≤64) (hr:∀ r∈lv,zuq r):(z4w (z73 N 0 lv)).length≤100000000:=by
 have hl:=zfu N lv 0
 have hm:∀ r∈z73 N 0 lv,r.length≤557056:=fun r hrr=>(hr r (z6p N lv 0 r hrr)).1
 generalize z73 N 0 lv=L at *
 have key:∀ M:List (List Rg),(∀ r∈M,r.length≤557056)→(M.flatMap fun r=>ends r).length≤M.length*1114112:=fun M=>by
  induction M with
  | nil=>intro _;simp
  | cons r M ih =>
   intro h
   have h1:=h r (by simp)
   have h2:=ih fun x hx=>h x (by simp[hx])
   have h3:(ends r).length=2*r.length:=by
    clear h1 h2
    induction r with
    | nil=>rfl
    | cons x r ih2 =>
     have:=ih2 (fun y hy=>by
      rcases zAc.1 hy with rfl|hy
      · have:=h (x::y) (by simp);rw[zAk] at this;omega
      · exact h y (by simp[hy]))
     rw[ends,List.flatMap_cons,zAa]
     rw[ends] at this
     rw[this,zAk]
     simp;omega
   rw[List.flatMap_cons,zAa,zAk,h3]
   rw[Nat.add_mul,Nat.one_mul];omega
 have:=key L hm
 have h4:L.length*1114112≤64*1114112:=Nat.mul_le_mul_right _ (by omega)
 rw[z4w,zAa]
 have e:(List.flatMap ends L)=L.flatMap fun r=>ends r:=rfl
 rw[e]
 simp only[zAk,List.length_nil]
 omega
theorem zj7 (e:Rx) (hf:fit e) (h0:val e=0):z0d Tryz.prog 21 [.d (Drx e)] (y4q (zd7 e)):=by
 have hvn:=zd8 h0
 have hpn:=zta h0
 have hb:=zt1 e hvn hf tb0 ⟨rfl,by simp⟩ (by simpa using hpn)
 have ht:=y7n h0
 exact zsv (M:=100000000) (zoa 100000000 (by omega)) (by omega) e hf h0 hb ⟨ht.len,ht.few,ht.fo,ht.f,ht.l⟩ (fun r hr x hx=>by have:=(ht.rg r hr).2 x hx;omega) (fun r hr=>by have:=(ht.rg r hr).1;omega) (fun N=>zuu N ht.few ht.rg)
def cF (N:Nat) (lv:List (List Rg)) (c:Int):Option (Bool × Nat):=if zfb N lv c=0 then none else some (false,zfb N lv c)
theorem zs8 (N:Nat) (lv:List (List Rg)):z7e N lv=zoj (cF N lv) (zae N lv):=by
 rw[← zf9,z7e]
 congr 1
 funext i
 rw[cE,zum,cF]
 split <;> rfl
theorem zrb (N:Nat):∀ (lv:List (List Rg)) (k i:Nat),i<lv.length→N.testBit (k+i)=true→lv.getD i []∈z73 N k lv
 | [],_,_,h,_=>by simp at h
 | x::ls,k,0,_,hb=>by
  rw[z73,zAz (by simpa using hb)]
  simp
 | x::ls,k,i+1,h,hb=>by
  have ih:=zrb N ls (k+1) i (by simpa using h) (by rw[show k+1+i=k+(i+1) by omega];exact hb)
  rw[List.getD_cons_succ,z73]
  split
  · exact List.mem_cons_of_mem _ ih
  · exact ih
theorem zyk (N:Nat) {lv:List (List Rg)} (hr:∀ r∈lv,zuq r) :
 (zae N lv).Pairwise (· <·)∧(∀ z∈zae N lv,0≤z∧z≤1114112)∧0∈zae N lv∧1114112∈zae N lv∧∀ i,i<lv.length→N.testBit i=true→∀ x∈lv.getD i [],x.1∈zae N lv∧x.2+1∈zae N lv:=by
 have h:=zgv (Go.Ax.z7s (z4w (z73 N 0 lv)))
 have hm':∀ z,z∈zae N lv↔z∈z4w (z73 N 0 lv):=fun z=>by
  rw[zae,zav,h.2 z,(Go.Ax.z3o _).mem_iff]
 have hin:∀ r∈z73 N 0 lv,∀ x∈r,x.1∈z4w (z73 N 0 lv)∧x.2+1∈z4w (z73 N 0 lv):=fun r hr x hx=>by
  constructor
  all_goals rw[z4w,zAt,List.mem_flatMap]
  all_goals refine .inr ⟨r,hr,?_⟩
  all_goals rw[ends,List.mem_flatMap]
  all_goals refine⟨x,hx,?_⟩
  all_goals simp
 refine⟨h.1,zgb fun r hra x hx=>by have:=(hr r (z6p N lv 0 r hra)).2 x hx;omega,(hm' 0).2 (by simp[z4w]),(hm' 1114112).2 (by simp[z4w]),fun i hi hb x hx=>?_⟩
 have:=hin _ (zrb N lv 0 i hi (by rw[Nat.zero_add];exact hb)) x hx
 exact⟨(hm' _).2 this.1,(hm' _).2 this.2⟩
theorem zo6 {N:Nat} {lv:List (List Rg)} {p c:Int} (h:∀ i,i<lv.length→N.testBit i=true→inR (lv.getD i []) p=inR (lv.getD i []) c):zfb N lv p=zfb N lv c:=by
 have key:∀ j,bit (zfb N lv p) j↔bit (zfb N lv c) j:=fun j=>by
  rw[zfb,zfb,z8x,z8x]
  constructor
  all_goals rintro(g|⟨k,k1,k2,k3,k4⟩)
  all_goals first|exact .inl g|refine .inr ⟨k,k1,k2,k3,?_⟩
  all_goals subst k2;rw[Nat.zero_add] at k3
  · rw[← h k k1 k3];exact k4
  · rw[h k k1 k3];exact k4
 refine Nat.eq_of_testBit_eq fun j=>?_
 have:=key j
 rw[bit,bit] at this
 cases h1:(zfb N lv p).testBit j <;> cases h2:(zfb N lv c).testBit j <;> simp_all
theorem zru {l:List Rg} {P:List Int} {p c:Int} (hP:∀ x∈l,x.1∈P∧x.2+1∈P) (hpc:p≤c) (hy:∀ y∈P,y≤c→y≤p):inR l p=inR l c:=by
 rw[inR,inR,Bool.eq_iff_iff,List.any_eq_true,List.any_eq_true]
 simp only[zA7,zA3]
 constructor
 · rintro⟨x,hx,h1,h2⟩
   refine⟨x,hx,by omega,?_⟩
   by_cases g:c≤x.2
   · exact g
   · have:=hy _ (hP x hx).2 (by omega);omega
 · rintro⟨x,hx,h1,h2⟩
   exact⟨x,hx,hy _ (hP x hx).1 h1,by omega⟩
theorem zks (N:Nat) {lv:List (List Rg)} (hr:∀ r∈lv,zuq r):okE 0 (z7e N lv)∧∀ c,kx (z7e N lv) c=if 0≤c∧c≤1114111 then cF N lv c else none:=by
 obtain⟨h1,h2,h3,h4,h5⟩:=zyk N hr
 rw[zs8]
 refine⟨zkj h1 h2,fun c=>?_⟩
 by_cases g:0≤c∧c≤1114111
 · rw[zAz g]
   refine(zzq h1 fun p hp hpc hy=>?_).1 0 h3 g.1 ⟨_,h4,by omega⟩
   rw[cF,cF,zo6 fun i hi hb=>zru (h5 i hi hb) hpc hy]
 · rw[zAy g]
   have hk:=zkj (f:=cF N lv) h1 h2
   cases e:kx (zoj (cF N lv) (zae N lv)) c with
   | none=>rfl
   | some k=>exact absurd (zm6 hk e) g
abbrev y4d (c:Int) (l:List Rg):Bool:=inR l c
theorem zr2:vld []=true:=rfl
theorem zu3 (c:Int) (w:List Int):vld (c::w)=((decide (0≤c)&&decide (c≤1114111))&&vld w):=rfl
section
variable {lv:List (List Rg)} (hr:∀ r∈lv,zuq r) (fo:List Nat) (f l:Nat) (nu:Bool)
include hr
theorem zm3:∀ (w:List Int) (S:Nat),zqu (fun k:Bool × Nat=>(k.1&&nu)||decide (k.2 &&& l≠0)) (fun k=>z7e (nxN f fo k) lv) (some (false,S)) w=(vld w&&zpc y4d ⟨lv,fo⟩ l S w)
 | [],S=>by rw[zqu,zpc,zr2];rfl
 | c::w,S=>by
  rw[zqu,(zks _ hr).2 c,zpc,zu3]
  have hn:nxN f fo (false,S)=nxF S 0 0 fo:=rfl
  rw[hn]
  by_cases g:0≤c∧c≤1114111
  · rw[zAz g,zAi g.1,zAi g.2,cF]
    have hm:rdF y4d c (nxF S 0 0 fo) 0 0 lv=zfb (nxF S 0 0 fo) lv c:=rfl
    simp only[hm]
    by_cases e:zfb (nxF S 0 0 fo) lv c=0
    · rw[zAz e,zAz e,Bool.and_false];cases w <;> rfl
    · rw[zAy e,zAy e,zm3 w];rfl
  · exact zD79
theorem y1v (w:List Int):zqu (fun k:Bool × Nat=>(k.1&&nu)||decide (k.2 &&& l≠0)) (fun k=>z7e (nxN f fo k) lv) (some (true,0)) w=(vld w&&mtF y4d ⟨lv,fo⟩ ⟨f,l,nu⟩ w):=by
 cases w with
 | nil =>
  rw[zqu,mtF,zr2]
  simp
 | cons c w =>
  rw[zqu,(zks _ hr).2 c,mtF,zu3]
  have hn:nxN f fo (true,0)=f:=rfl
  rw[hn]
  by_cases g:0≤c∧c≤1114111
  · rw[zAz g,zAi g.1,zAi g.2,cF]
    have hm:rdF y4d c f 0 0 lv=zfb f lv c:=rfl
    simp only[hm]
    by_cases e:zfb f lv c=0
    · rw[zAz e,zAz e,Bool.and_false];cases w <;> rfl
    · rw[zAy e,zAy e,zm3 hr fo f l nu w];rfl
  · exact zD79
end
theorem z9l {e:Rx} (h0:val e=0) {a:Au} (ha:zd7 e=some a):AuW a∧a.F.length≤256∧∀ w,a.acc 0 w=(vld w&&Rx.mt y4d e w):=by
 have ht:=y7n h0
 rw[zd7,zrr] at ha
 have he:∀ k:Bool × Nat,okE 0 (z7e (nxN (bd e tb0).2.f (bd e tb0).1.fo k) (bd e tb0).1.lv):=fun k=>(zks _ ht.rg).1
 have hlim:=zsj (lim:=256) 257 0 [((true,0):Bool × Nat)] ⟨[],[]⟩ a rfl (zAf _) (by decide) ha
 obtain⟨ks,hk⟩:=zza he _ _ _ _ a (yby _ _ _) ha
 refine⟨yc1 hk he,hlim,fun w=>?_⟩
 have:=zzy hk w 0 _ hk.hd
 rw[y1v ht.rg] at this
 exact this
attribute [local irreducible] z5x
mutual
def nst:Rx→Int
 | .mk op _ _ _ ks=>if op=4 then ztl ks 0+1 else ztl ks 0
def ztl:List Rx→Int→Int
 | [],n=>n
 | k::ks,n=>ztl ks (max n (nst k))
end
theorem zzp:(∀ e:Rx,0≤nst e∧nst e≤sz e)∧∀ (l:List Rx) (n:Int),0≤n→n≤ztl l n∧ztl l n≤max n (szL l):=by
 refine Rx.ind (fun op mn mx rs ks ih=>?_) (fun n h=>by rw[ztl,szL];omega) (fun k ks hk ih n h=>?_)
 · have:=ih 0 (by decide)
   rw[nst,sz]
   split <;> omega
 · have:=ih (max n (nst k)) (by omega)
   rw[ztl,szL];omega
theorem zu6:∀ e:Rx,fit e→sz e≤1000000→z0d Tryz.prog 72 [.d (Drx e)] (I .i64 (nst e)):=by
 refine Rx.ind' fun op mn mx rs ks ih hfit hsz=>?_
 obtain⟨hf1,hf2,hf3⟩:=hfit
 rw[sz] at hsz
 have hb:=zzp.2 ks 0 (by decide)
 rw[z2h]
 refine z0y fun H=>?_
 refine z08 Tryz.func72 (by kernel_rfl) rfl (by simp) ?_
 dsimp only[Tryz.f72]
 rw[nst]
 obtain⟨F,hF⟩:∃ F,ztl ks 0=F:=⟨_,rfl⟩
 rw[hF] at hb ⊢
 repeat' (first|refine z05 ?_|fail)
 all_goals try (exfalso;omega)
 refine z0l ?_
 refine z01 (z0x (fun q:Nat × Int=>⟨24,[(1,.ptr (0,1) 0),(3,I .i64 q.2),(7,.d (.slice (ks.map rxc))),(8,I .i64 ks.length),(9,I .i64 (q.1:Nat))],[(1,.box ((rx5 op mn mx rs ks).map .d))],H⟩) (fun q=>q.1≤ks.length∧ztl (ks.drop q.1) q.2=F∧0≤q.2) (fun q=>ks.length-q.1) ?_ (0,0) ⟨zAf _,hF,by decide⟩) rfl rfl
 rintro⟨i,a⟩ ⟨i1,i2,i3⟩ ihl
 simp only at i1 i2 i3 ihl ⊢
 by_cases hlt:i<ks.length
 · obtain⟨k,hk⟩:∃ k,ks[i]? =some k:=⟨_,zA0 hlt⟩
   have hszk:sz k≤szL ks:=by
    have:∀ (l:List Rx) (k:Rx),k∈l→sz k≤szL l:=fun l=>by
     induction l with
     | nil=>intro k h;simp at h
     | cons x l ih =>
      intro k h
      rw[zAc] at h
      rw[szL]
      rcases h with rfl|h
      · omega
      · have:=ih k h;omega
    exact this ks k (zA2 hk)
   have hc:=ih k (zA2 hk) (z5q hf3 k (zA2 hk)) (by omega)
   have hnk:=zzp.1 k
   rw[drop_cons hk,ztl] at i2
   generalize nst k=nk at *
   obtain⟨op',mn',mx',rs',ks'⟩:=k
   rw[z2h] at hc
   repeat' (first|(apply z09;(refine z0c (z1n (ys:=ks.map rxc) rfl (z57 hk)) rfl rfl ?_))|(apply z03;(refine z1i hc ?_))|refine z05 ?_|refine fk (fun _=>?_) (fun _=>?_))
   all_goals try (exfalso;omega)
   all_goals exact z01 (ihl (i+1,max a nk) ⟨by simp only;omega,i2,by simp only;omega⟩ (by simp only;omega)) rfl rfl
 · obtain rfl:i=ks.length:=by omega
   rw[zAs,ztl] at i2
   subst i2
   by_cases o4:op=4
   · rw[zAz o4]
     all_goals exact zD122
   · rw[zAy o4]
     all_goals exact zD122
theorem y72 {e:Rx} (h:val e=0):sz e≤200:=by
 rw[val] at h
 split at h
 · cases h
 · omega
def hvy (e:Rx):Bool:=decide (val e=0)&&(decide (14<ps 1048576 e)||decide (4<nst e))
theorem y2f (e:Rx) (hf:fit e) (h0:val e=0):z0d Tryz.prog 71 [.d (Drx e)] (I .i64 (ps 1048576 e)):=by
 refine z0y fun H=>?_
 have hval:=zd6 e hf
 have hpo:=zbi e hf (zd8 h0)
 rw[h0] at hval
 generalize ps 1048576 e=p at *
 obtain⟨op,mn,mx,rs,ks⟩:=e
 rw[z2h] at hval hpo ⊢
 refine z08 Tryz.func71 (by kernel_rfl) rfl (by simp) ?_
 dsimp only[Tryz.f71]
 repeat' (first|(apply z03;(first|refine z1i hval ?_| refine z1i hpo ?_))|(apply z2n;(refine z0j z5k ?_))|refine z05 ?_|fail)
 all_goals try (exfalso;omega)
 all_goals exact z00 Tryz.func71 _ z11 ⟨rfl,rfl⟩
theorem y2s:okV (fun c=>[c])=y4d:=by
 funext c l
 simp[okV,y4d]
end Go.Proofs.YtmcggompdmngmaaGreatDoor
