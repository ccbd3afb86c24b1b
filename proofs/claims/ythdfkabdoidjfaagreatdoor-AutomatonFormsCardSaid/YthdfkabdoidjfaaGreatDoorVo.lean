/- A part of the proof: C1 to C4. -/
import Derived.Test.YthdfkabdoidjfaaGreatDoorV5
import Derived.Test.YthdfkabdoidjfaaGreatDoorV6
import Derived.Test.YthdfkabdoidjfaaGreatDoorVq
import Derived.Test.YthdfkabdoidjfaaGreatDoorVv
import Derived.Test.YthdfkabdoidjfaaGreatDoorVm
import Derived.Test.YthdfkabdoidjfaaGreatDoorVy
import Derived.Test.YthdfkabdoidjfaaGreatDoorVi
import Derived.Test.YthdfkabdoidjfaaGreatDoorVh
import Derived.Test.YthdfkabdoidjfaaGreatDoorVw
import Derived.Test.YthdfkabdoidjfaaGreatDoorVz
set_option linter.all false
namespace Go.Proofs.YthdfkabdoidjfaaGreatDoor
open Go.Ab Go.Ax Go.Rx
set_option maxHeartbeats 20000000
set_option maxRecDepth 100000
attribute [local irreducible] Run Ops Op1 z2a Val Tr z0y z1x NF Rel z3i z3g
theorem zs4 {K:Type} [DecidableEq K] {fin:K→Bool} {edg:K→List (Go.Ax.Edge K)} {lim:Nat}:∀ (n i:Nat) (ks:List K) (a b:Au),a.F.length=i→i≤lim→ks.length≤lim→exL fin edg lim n i ks a=some b→b.F.length≤lim
 | 0,_,_,_,_,_,_,_,h=>by simp[exL] at h
 | n+1,i,ks,a,b,ha,hi,hk,h=>by
  rw[exL] at h
  cases e:ks[i]? with
  | none=>rw[e] at h;simp only[zAh] at h;subst h;omega
  | some k =>
   rw[e] at h
   simp only at h
   have hik:=(zA1.1 e).1
   split at h
   · cases h
   · rename_i hl
     exact zs4 n (i+1) _ _ b (by simp[ha]) (by omega) (by omega) h
def zt4 (l:List Rg):Prop:=l.length≤557056∧∀ x∈l,0≤x.1∧x.1≤x.2∧x.2≤1114111
theorem zhw:∀ (l:List Rg) (a:Int),0≤a→z8e a l=true→∀ x∈l,0≤x.1∧x.1≤x.2∧x.2≤1114111
 | [],_,_,_,x,hx=>by cases hx
 | r::l,a,ha,h,x,hx=>by
  rw[z8e,zA7,zA7,zA7,zA3,zA3,zA3] at h
  obtain⟨⟨⟨h1,h2⟩,h3⟩,h4⟩:=h
  rcases zAc.1 hx with rfl|hx
  · omega
  · exact zhw l (r.2+2) (by omega) h4 x hx
theorem zps {l:List Rg} (h:zgc l=true):zt4 l:=by
 refine⟨zu9 h,?_⟩
 rw[zgc,zA7] at h
 exact zhw l 0 (Int.le_refl _) h.1
theorem zue {l:List Rg} (h:l.length=0):zt4 l:=by
 rw[List.length_eq_zero_iff] at h;subst h;exact⟨by simp,by simp⟩
theorem zy9 {op mn mx:Int} {rs:List Rg} {ks:List Rx} (h:vn (.mk op mn mx rs ks)=true):zt4 rs:=by
 unfold vn at h
 simp only at h
 by_cases h1:op=1
 · rw[zAz h1] at h
   simp only[zA7,zA3] at h
   exact zps h.2
 · rw[zAy h1] at h
   refine zue ?_
   by_cases h2:op=2
   · rw[zAz h2] at h
     simp only[zA7,zA3] at h
     exact h.1.1.2
   · rw[zAy h2] at h
     by_cases h3:op=3
     · rw[zAz h3] at h
       simp only[zA7,zA3] at h
       exact h.1.1.2
     · rw[zAy h3] at h
       by_cases h4:op=4
       · rw[zAz h4] at h
         simp only[zA7,zA3] at h
         exact h.1.1.1.1
       · rw[zAy h4] at h;cases h
theorem ztj:(∀ e:Rx,vns e=true→y0t zt4 e)∧∀ l:List Rx,zbx l=true→zii zt4 l:=by
 refine Rx.ind (fun op mn mx rs ks ih hv=>?_) (fun _=>trivial) (fun k ks hk ih hv=>?_)
 · rw[vns,zA7] at hv
   exact⟨zy9 hv.1,ih hv.2⟩
 · rw[zbx,zA7] at hv
   exact⟨hk hv.1,ih hv.2⟩
structure y6l (t:Tb) (p:Pt):Prop where
 len:t.fo.length=t.lv.length
 few:t.lv.length≤64
 fo:∀ x∈t.fo,x<2 ^ 64
 f:p.f<2 ^ 64
 l:p.l<2 ^ 64
 rg:∀ r∈t.lv,zt4 r
theorem y30 {e:Rx} (h0:val e=0):y6l (bd e tb0).1 (bd e tb0).2:=by
 have hvn:=zbb h0
 have hpn:=zq2 h0
 have hbl:=(zwe hvn).bl tb0 rfl
 have hfw:=(zwe hvn).few tb0 rfl
 have hlv:=y2h.1 e (ztj.1 e hvn) tb0 (by simp)
 generalize bd e tb0=r1 at *
 obtain⟨t1,p⟩:=r1
 have hfw2:(t1.lv.length:Int)≤Rx.pn e:=by simpa using hfw
 obtain⟨s2,pf,pl⟩:=hbl.sm ⟨rfl,by simp⟩ (by show t1.lv.length≤64;omega)
 exact⟨s2.len,by show t1.lv.length≤64;omega,s2.sm,pf,pl,hlv⟩
theorem zto (N:Nat) {lv:List (List Rg)} (h:lv.length≤64) (hr:∀ r∈lv,zt4 r):(z4g (z7b N 0 lv)).length≤100000000:=by
 have hl:=zgi N lv 0
 have hm:∀ r∈z7b N 0 lv,r.length≤557056:=fun r hrr=>(hr r (z7p N lv 0 r hrr)).1
 generalize z7b N 0 lv=L at *
 have key:∀ M:List (List Rg),(∀ r∈M,r.length≤557056)→(M.flatMap fun r=>ends r).length≤M.length*1114112:=fun M=>by
  induction M with
  | nil=>intro _;simp
  | cons r M ih =>
   intro h
   have h1:=h r (by simp)
   have h2:=ih fun x hx=>h x (by simp[hx])
   have h3:(ends r).length=2*r.length:=by
    clear h1 h2
    induction r with
    | nil=>rfl
    | cons x r ih2 =>
     have:=ih2 (fun y hy=>by
      rcases zAc.1 hy with rfl|hy
      · have:=h (x::y) (by simp);rw[zAk] at this;omega
      · exact h y (by simp[hy]))
     rw[ends,List.flatMap_cons,zAa]
     rw[ends] at this
     rw[this,zAk]
     simp;omega
   rw[List.flatMap_cons,zAa,zAk,h3]
   rw[Nat.add_mul,Nat.one_mul];omega
 have:=key L hm
 have h4:L.length*1114112≤64*1114112:=Nat.mul_le_mul_right _ (by omega)
 rw[z4g,zAa]
 have e:(List.flatMap ends L)=L.flatMap fun r=>ends r:=rfl
 rw[e]
 simp only[zAk,List.length_nil]
 omega
theorem zdh (e:Rx) (hf:fit e) (h0:val e=0):z0y Tryz.prog 33 [.d (Drx e)] (zm6 (zc0 e)):=by
 have hvn:=zbb h0
 have hpn:=zq2 h0
 have hb:=zp3 e hvn hf tb0 ⟨rfl,by simp⟩ (by simpa using hpn)
 have ht:=y30 h0
 exact zi7 (M:=100000000) (zf1 100000000 (by omega)) (by omega) e hf h0 hb ⟨ht.len,ht.few,ht.fo,ht.f,ht.l⟩ (fun r hr x hx=>by have:=(ht.rg r hr).2 x hx;omega) (fun r hr=>by have:=(ht.rg r hr).1;omega) (fun N=>zto N ht.few ht.rg)
def cF (N:Nat) (lv:List (List Rg)) (c:Int):Option (Bool × Nat):=if zf6 N lv c=0 then none else some (false,zf6 N lv c)
theorem zsd (N:Nat) (lv:List (List Rg)):z8f N lv=zkb (cF N lv) (zb4 N lv):=by
 rw[← zal,z8f]
 congr 1
 funext i
 rw[cE,zos,cF]
 split <;> rfl
theorem zs3 (N:Nat):∀ (lv:List (List Rg)) (k i:Nat),i<lv.length→N.testBit (k+i)=true→lv.getD i []∈z7b N k lv
 | [],_,_,h,_=>by simp at h
 | x::ls,k,0,_,hb=>by
  rw[z7b,zAz (by simpa using hb)]
  simp
 | x::ls,k,i+1,h,hb=>by
  have ih:=zs3 N ls (k+1) i (by simpa using h) (by rw[show k+1+i=k+(i+1) by omega];exact hb)
  rw[List.getD_cons_succ,z7b]
  split
  · exact List.mem_cons_of_mem _ ih
  · exact ih
theorem zu2 (N:Nat) {lv:List (List Rg)} (hr:∀ r∈lv,zt4 r) :
 (zb4 N lv).Pairwise (· <·)∧(∀ z∈zb4 N lv,0≤z∧z≤1114112)∧0∈zb4 N lv∧1114112∈zb4 N lv∧∀ i,i<lv.length→N.testBit i=true→∀ x∈lv.getD i [],x.1∈zb4 N lv∧x.2+1∈zb4 N lv:=by
 have h:=zdg (Go.Ax.z9f (z4g (z7b N 0 lv)))
 have hm':∀ z,z∈zb4 N lv↔z∈z4g (z7b N 0 lv):=fun z=>by
  rw[zb4,z7z,h.2 z,(Go.Ax.z7j _).mem_iff]
 have hin:∀ r∈z7b N 0 lv,∀ x∈r,x.1∈z4g (z7b N 0 lv)∧x.2+1∈z4g (z7b N 0 lv):=fun r hr x hx=>by
  exact zD93
 refine⟨h.1,z8r fun r hra x hx=>by have:=(hr r (z7p N lv 0 r hra)).2 x hx;omega,(hm' 0).2 (by simp[z4g]),(hm' 1114112).2 (by simp[z4g]),fun i hi hb x hx=>?_⟩
 have:=hin _ (zs3 N lv 0 i hi (by rw[Nat.zero_add];exact hb)) x hx
 exact⟨(hm' _).2 this.1,(hm' _).2 this.2⟩
theorem zo6 {N:Nat} {lv:List (List Rg)} {p c:Int} (h:∀ i,i<lv.length→N.testBit i=true→inR (lv.getD i []) p=inR (lv.getD i []) c):zf6 N lv p=zf6 N lv c:=by
 have key:∀ j,bit (zf6 N lv p) j↔bit (zf6 N lv c) j:=fun j=>by
  rw[zf6,zf6,z9e,z9e]
  constructor
  all_goals rintro(g|⟨k,k1,k2,k3,k4⟩)
  all_goals first|exact .inl g|refine .inr ⟨k,k1,k2,k3,?_⟩
  all_goals subst k2;rw[Nat.zero_add] at k3
  · rw[← h k k1 k3];exact k4
  · rw[h k k1 k3];exact k4
 refine Nat.eq_of_testBit_eq fun j=>?_
 have:=key j
 rw[bit,bit] at this
 cases h1:(zf6 N lv p).testBit j <;> cases h2:(zf6 N lv c).testBit j <;> simp_all
theorem zqo {l:List Rg} {P:List Int} {p c:Int} (hP:∀ x∈l,x.1∈P∧x.2+1∈P) (hpc:p≤c) (hy:∀ y∈P,y≤c→y≤p):inR l p=inR l c:=by
 rw[inR,inR,Bool.eq_iff_iff,List.any_eq_true,List.any_eq_true]
 simp only[zA7,zA3]
 constructor
 · rintro⟨x,hx,h1,h2⟩
   refine⟨x,hx,by omega,?_⟩
   by_cases g:c≤x.2
   · exact g
   · have:=hy _ (hP x hx).2 (by omega);omega
 · rintro⟨x,hx,h1,h2⟩
   exact⟨x,hx,hy _ (hP x hx).1 h1,by omega⟩
theorem zko (N:Nat) {lv:List (List Rg)} (hr:∀ r∈lv,zt4 r):okE 0 (z8f N lv)∧∀ c,kx (z8f N lv) c=if 0≤c∧c≤1114111 then cF N lv c else none:=by
 obtain⟨h1,h2,h3,h4,h5⟩:=zu2 N hr
 rw[zsd]
 refine⟨zd6 h1 h2,fun c=>?_⟩
 by_cases g:0≤c∧c≤1114111
 · rw[zAz g]
   refine(zrl h1 fun p hp hpc hy=>?_).1 0 h3 g.1 ⟨_,h4,by omega⟩
   rw[cF,cF,zo6 fun i hi hb=>zqo (h5 i hi hb) hpc hy]
 · rw[zAy g]
   have hk:=zd6 (f:=cF N lv) h1 h2
   cases e:kx (zkb (cF N lv) (zb4 N lv)) c with
   | none=>rfl
   | some k=>exact absurd (ziz hk e) g
abbrev zv1 (c:Int) (l:List Rg):Bool:=inR l c
theorem zsu:vld []=true:=rfl
theorem zok (c:Int) (w:List Int):vld (c::w)=((decide (0≤c)&&decide (c≤1114111))&&vld w):=rfl
section
variable {lv:List (List Rg)} (hr:∀ r∈lv,zt4 r) (fo:List Nat) (f l:Nat) (nu:Bool)
include hr
theorem zn2:∀ (w:List Int) (S:Nat),zc4 (fun k:Bool × Nat=>(k.1&&nu)||decide (k.2 &&& l≠0)) (fun k=>z8f (nxN f fo k) lv) (some (false,S)) w=(vld w&&zoc zv1 ⟨lv,fo⟩ l S w)
 | [],S=>by rw[zc4,zoc,zsu];rfl
 | c::w,S=>by
  rw[zc4,(zko _ hr).2 c,zoc,zok]
  have hn:nxN f fo (false,S)=nxF S 0 0 fo:=rfl
  rw[hn]
  by_cases g:0≤c∧c≤1114111
  · rw[zAz g,zAi g.1,zAi g.2,cF]
    have hm:rdF zv1 c (nxF S 0 0 fo) 0 0 lv=zf6 (nxF S 0 0 fo) lv c:=rfl
    simp only[hm]
    by_cases e:zf6 (nxF S 0 0 fo) lv c=0
    · rw[zAz e,zAz e,Bool.and_false];cases w <;> rfl
    · rw[zAy e,zAy e,zn2 w];rfl
  · exact zD46
theorem zyi (w:List Int):zc4 (fun k:Bool × Nat=>(k.1&&nu)||decide (k.2 &&& l≠0)) (fun k=>z8f (nxN f fo k) lv) (some (true,0)) w=(vld w&&mtF zv1 ⟨lv,fo⟩ ⟨f,l,nu⟩ w):=by
 cases w with
 | nil =>
  rw[zc4,mtF,zsu]
  simp
 | cons c w =>
  rw[zc4,(zko _ hr).2 c,mtF,zok]
  have hn:nxN f fo (true,0)=f:=rfl
  rw[hn]
  by_cases g:0≤c∧c≤1114111
  · rw[zAz g,zAi g.1,zAi g.2,cF]
    have hm:rdF zv1 c f 0 0 lv=zf6 f lv c:=rfl
    simp only[hm]
    by_cases e:zf6 f lv c=0
    · rw[zAz e,zAz e,Bool.and_false];cases w <;> rfl
    · rw[zAy e,zAy e,zn2 hr fo f l nu w];rfl
  · exact zD46
end
theorem zc7 {e:Rx} (h0:val e=0) {a:Au} (ha:zc0 e=some a):AuW a∧a.F.length≤256∧∀ w,a.acc 0 w=(vld w&&Rx.mt zv1 e w):=by
 have ht:=y30 h0
 rw[zc0,zqi] at ha
 have he:∀ k:Bool × Nat,okE 0 (z8f (nxN (bd e tb0).2.f (bd e tb0).1.fo k) (bd e tb0).1.lv):=fun k=>(zko _ ht.rg).1
 have hlim:=zs4 (lim:=256) 257 0 [((true,0):Bool × Nat)] ⟨[],[]⟩ a rfl (zAf _) (by decide) ha
 obtain⟨ks,hk⟩:=zin he _ _ _ _ a (y0i _ _ _) ha
 refine⟨y3s hk he,hlim,fun w=>?_⟩
 have:=zbe hk w 0 _ hk.hd
 rw[zyi ht.rg] at this
 exact this
attribute [local irreducible] zac
mutual
def nst:Rx→Int
 | .mk op _ _ _ ks=>if op=4 then zp4 ks 0+1 else zp4 ks 0
def zp4:List Rx→Int→Int
 | [],n=>n
 | k::ks,n=>zp4 ks (max n (nst k))
end
theorem zx0:(∀ e:Rx,0≤nst e∧nst e≤sz e)∧∀ (l:List Rx) (n:Int),0≤n→n≤zp4 l n∧zp4 l n≤max n (szL l):=by
 refine Rx.ind (fun op mn mx rs ks ih=>?_) (fun n h=>by rw[zp4,szL];omega) (fun k ks hk ih n h=>?_)
 · have:=ih 0 (by decide)
   rw[nst,sz]
   split <;> omega
 · have:=ih (max n (nst k)) (by omega)
   rw[zp4,szL];omega
theorem zov:∀ e:Rx,fit e→sz e≤1000000→z0y Tryz.prog 52 [.d (Drx e)] (I .i64 (nst e)):=by
 refine Rx.ind' fun op mn mx rs ks ih hfit hsz=>?_
 obtain⟨hf1,hf2,hf3⟩:=hfit
 rw[sz] at hsz
 have hb:=zx0.2 ks 0 (by decide)
 rw[z1n]
 refine z1r fun H=>?_
 refine z0k Tryz.func52 (by kernel_rfl) rfl (by simp) ?_
 dsimp only[Tryz.f52]
 rw[nst]
 obtain⟨F,hF⟩:∃ F,zp4 ks 0=F:=⟨_,rfl⟩
 rw[hF] at hb ⊢
 repeat' (first|(apply z07;(first|refine z0r ?_| (apply z0b;(refine z02 z1i rfl rfl ?_))|(apply z0e;(refine z02 z0q rfl rfl ?_))|(apply z11;(refine z02 (z1k rfl) rfl rfl ?_))|(apply z1s;(refine z0a z5a ?_))))|(apply z08;(first|refine z0p ?_|apply z09))|(apply z05;(first|apply z06|apply z00|apply z01)))
 all_goals try (exfalso;omega)
 refine z1f ?_
 refine z0d (z25 (fun q:Nat × Int=>⟨24,[(1,.ptr (0,1) 0),(3,I .i64 q.2),(7,.d (.slice (ks.map rxc))),(8,I .i64 ks.length),(9,I .i64 (q.1:Nat))],[(1,.box ((rx5 op mn mx rs ks).map .d))],H⟩) (fun q=>q.1≤ks.length∧zp4 (ks.drop q.1) q.2=F∧0≤q.2) (fun q=>ks.length-q.1) ?_ (0,0) ⟨zAf _,hF,by decide⟩) rfl rfl
 rintro⟨i,a⟩ ⟨i1,i2,i3⟩ ihl
 simp only at i1 i2 i3 ihl ⊢
 by_cases hlt:i<ks.length
 · obtain⟨k,hk⟩:∃ k,ks[i]? =some k:=⟨_,zA0 hlt⟩
   have hszk:sz k≤szL ks:=by
    have:∀ (l:List Rx) (k:Rx),k∈l→sz k≤szL l:=fun l=>by
     induction l with
     | nil=>intro k h;simp at h
     | cons x l ih =>
      intro k h
      rw[zAc] at h
      rw[szL]
      rcases h with rfl|h
      · omega
      · have:=ih k h;omega
    exact this ks k (zA2 hk)
   have hc:=ih k (zA2 hk) (z6g hf3 k (zA2 hk)) (by omega)
   have hnk:=zx0.1 k
   rw[drop_cons hk,zp4] at i2
   generalize nst k=nk at *
   obtain⟨op',mn',mx',rs',ks'⟩:=k
   rw[z1n] at hc
   repeat' (first|(apply z07;(first|refine z0r ?_| (apply z0b;(first|refine z02 z1i rfl rfl ?_| refine z02 z1z rfl rfl ?_| refine z02 z1y rfl rfl ?_))|(apply z0e;(refine z02 z0q rfl rfl ?_))|(apply z0m;(refine z02 (z1b (ys:=ks.map rxc) rfl (z5p hk)) rfl rfl ?_))|(apply z0t;(refine z02 (z0u z0x) rfl rfl ?_))|(apply z11;(refine z02 ze4 rfl rfl ?_))|(apply z0s;(refine z1w hc ?_))|(apply z0c;(refine z22 ?_))|(apply z0g;(refine z0a z16 ?_))))|(apply z08;(first|refine z0p ?_|apply z09))|(apply z05;(first|apply z06|apply z00|apply z04|apply z01|apply z03|refine z0f (fun _=>?_) (fun _=>?_)| refine z0l ?_)))
   all_goals try (exfalso;omega)
   all_goals exact z0d (ihl (i+1,max a nk) ⟨by simp only;omega,i2,by simp only;omega⟩ (by simp only;omega)) rfl rfl
 · obtain rfl:i=ks.length:=by omega
   rw[zAs,zp4] at i2
   subst i2
   by_cases o4:op=4
   · rw[zAz o4]
     all_goals exact zD56
   · rw[zAy o4]
     all_goals exact zD56
theorem y3p {e:Rx} (h:val e=0):sz e≤200:=by
 rw[val] at h
 split at h
 · cases h
 · omega
def hvy (e:Rx):Bool:=decide (val e=0)&&(decide (14<ps 1048576 e)||decide (4<nst e))
theorem zzs (e:Rx) (hf:fit e) (h0:val e=0):z0y Tryz.prog 51 [.d (Drx e)] (I .i64 (ps 1048576 e)):=by
 refine z1r fun H=>?_
 have hval:=zcq e hf
 have hpo:=zbf e hf (zbb h0)
 rw[h0] at hval
 generalize ps 1048576 e=p at *
 obtain⟨op,mn,mx,rs,ks⟩:=e
 rw[z1n] at hval hpo ⊢
 refine z0k Tryz.func51 (by kernel_rfl) rfl (by simp) ?_
 dsimp only[Tryz.f51]
 repeat' (first|(apply z07;(first|refine z0r ?_| (apply z0b;(refine z02 z2q rfl rfl ?_))|(apply z0s;(first|refine z1w hval ?_| refine z1w hpo ?_))|(apply z1s;(refine z0a z3y ?_))))|(apply z08;(first|refine z0p ?_|apply z09))|(apply z05;(first|apply z06|apply z00|refine z0w ?_| apply z04)))
 all_goals try (exfalso;omega)
 all_goals exact z0n Tryz.func51 _ z19 ⟨rfl,rfl⟩
theorem zj9 (e:Rx) (hf:fit e):z0y Tryz.prog 28 [.d (Drx e)] (B (hvy e)):=by
 refine z1r fun H=>?_
 have hval:=zcq e hf
 rw[hvy]
 by_cases h0:val e=0
 · have hpo:=zzs e hf h0
   have hre:=zov e hf (by have:=y3p h0;omega)
   rw[h0] at hval
   rw[zAi h0]
   clear h0
   generalize ps 1048576 e=p at *
   generalize nst e=n at *
   obtain⟨op,mn,mx,rs,ks⟩:=e
   rw[z1n] at hval hpo hre ⊢
   refine z0k Tryz.func28 (by kernel_rfl) rfl (by simp) ?_
   dsimp only[Tryz.f28]
   by_cases h1:14<p
   · rw[zAi h1]
     all_goals exact zD52
   · rw[zAo h1]
     all_goals exact zD52
 · rw[zAo h0]
   generalize val e=v at *
   obtain⟨op,mn,mx,rs,ks⟩:=e
   rw[z1n] at hval ⊢
   refine z0k Tryz.func28 (by kernel_rfl) rfl (by simp) ?_
   dsimp only[Tryz.f28]
   repeat' (first|(apply z07;(first|refine z0r ?_| (apply z0b;(refine z02 z2q rfl rfl ?_))|(apply z0s;(refine z1w hval ?_))|(apply z1s;(refine z0a z3y ?_))))|(apply z08;(first|refine z0p ?_|apply z09|refine z1v ?_| refine ze8 rfl rfl (by decide) ?_|refine z2n (fun _=>?_) (fun _=>?_)))|(apply z05;(first|apply z06|apply z00)))
   all_goals try (exfalso;first|omega|(simp at *;done))
   all_goals exact z0n Tryz.func28 _ z19 ⟨rfl,rfl⟩
theorem y03:okV (fun c=>[c])=zv1:=by
 funext c l
 simp[okV,zv1]
theorem zri {e:Rx} (h0:val e=0) {a:Au} (ha:zc0 e=some a) (s:ByteArray):zzf a s=mtS (fun c=>[c]) e s:=by
 obtain⟨w,n,h⟩:=zc7 h0 ha
 rw[zxz (zit w n),h,zxq,Bool.true_and,mtS,y03,zAi h0,Bool.true_and];rfl
theorem zya (τ:Tab) (e:Rx) (hf:fit e) (s:ByteArray) (hs:s.size≤maxLen):z1x Tryz.prog 12 [.d (Drx e),S s] (zfm τ 0) [] (B true):=by
 refine z2f fun H hH=>?_
 have hX0:=hH ((0,700),.glob 0 τ.o0) (by simp)
 have hX1:=hH ((0,701),.glob 1 τ.o1) (by simp)
 have haw:=zpn τ
 have hhv:=zj9 e hf
 have hmax:maxLen≤9223372036854775807:=by simp[maxLen]
 by_cases hb:hvy e=true
 · rw[hb] at hhv
   obtain⟨op,mn,mx,rs,ks⟩:=e
   rw[z1n] at hhv ⊢
   refine z0k Tryz.func12 (by kernel_rfl) rfl (by simp) ?_
   dsimp only[Tryz.f12]
   refine z3u 700 0 700 hX0 ?_
   refine z3u 701 0 701 (z0i hX1 (by simp)) ?_
   repeat' (first|(apply z07;(first|refine z0r ?_| (apply z0b;(refine z02 z2q rfl rfl ?_))|(apply z0s;(refine z1w hhv ?_))|(apply z1s;(refine z0a z3y ?_))))|(apply z08;(first|refine z0p ?_|apply z09|refine z1v ?_))|(apply z05;(first|apply z06|apply z00|refine z1c ?_)))
   all_goals exact zD19
 rw[Bool.not_eq_true] at hb
 rw[hb] at hhv
 clear hb
 by_cases h24:24<s.size
 · obtain⟨op,mn,mx,rs,ks⟩:=e
   rw[z1n] at hhv ⊢
   refine z0k Tryz.func12 (by kernel_rfl) rfl (by simp) ?_
   dsimp only[Tryz.f12]
   refine z3u 700 0 700 hX0 ?_
   refine z3u 701 0 701 (z0i hX1 (by simp)) ?_
   repeat' (first|(apply z07;(first|refine z0r ?_| (apply z0b;(refine z02 z2q rfl rfl ?_))|(apply z11;(refine z02 (z7s rfl) rfl rfl ?_))|(apply z0s;(refine z1w hhv ?_))|(apply z1s;(refine z0a z3y ?_))))|(apply z08;(first|refine z0p ?_|apply z09))|(apply z05;(first|apply z06|apply z00|apply z04|refine z0f (fun _=>?_) (fun _=>?_))))
   all_goals exact zD19
 have hm:=ztp e hf s (by omega)
 by_cases h0:val e=0
 case neg =>
  have hc:=zkl e hf h0
  clear h0 hm
  exact zD25
 have hc:=zdh e hf h0
 cases ha:zc0 e with
 | none =>
  rw[ha] at hc
  simp only[zm6] at hc
  clear h0 hm ha
  exact zD25
 | some a =>
  rw[ha] at hc
  simp only[zm6] at hc
  obtain⟨w,n,_⟩:=zc7 h0 ha
  have hv:=zit w n
  have hr:=zxo a (zga hv) (y0n hv) s (by omega)
  rw[zri h0 ha] at hr
  clear h0 ha w n hv
  generalize mtS (fun c=>[c]) e s=b at *
  obtain⟨op,mn,mx,rs,ks⟩:=e
  obtain⟨F,A⟩:=a
  rw[z1n] at hhv hc hm ⊢
  refine z0k Tryz.func12 (by kernel_rfl) rfl (by simp) ?_
  dsimp only[Tryz.f12]
  refine z3u 700 0 700 hX0 ?_
  refine z3u 701 0 701 (z0i hX1 (by simp)) ?_
  cases b
  all_goals repeat' (first|(apply z07;(first|refine z0r ?_| (apply z0b;(refine z02 z2q rfl rfl ?_))|(apply z11;(refine z02 (z7s rfl) rfl rfl ?_))|(apply z0s;(first|refine z1w hhv ?_| refine z1w hc ?_))|(apply z0c;(refine z22 ?_))|(apply z0g;(refine z0a z16 ?_))|(apply z1s;(refine z0a z3y ?_))))|(apply z08;(first|refine z0p ?_|apply z09))|(apply z05;(first|apply z06|apply z00|refine z0w ?_| apply z04|apply z2b|refine z0f (fun _=>?_) (fun _=>?_)))|(apply z2c;(first|(apply z0v;refine z1h mix ?_)|refine z2e ?_| (apply z0j;(first|refine z0h z2q rfl rfl ?_| refine z0h z1y rfl rfl ?_))|(apply z1m;(refine z0h (y1y rfl) rfl rfl ?_))|(apply z1j;(first|refine zp1 haw (by first|exact rfl|exact⟨_,rfl,rfl,rfl⟩) rfl rfl (by decide) ?_|refine z4s hr ?_| refine z4s hm ?_)))))
  all_goals exact zD19
theorem zso {a:Au} (h:AuW a) (hn:a.F.length≤66049):z0y Tryz.prog 56 [.d (auD a)] (.d (zkk (z56 a.F a.A))):=by
 have hb:=zg6 h
 have hs:=zm7 hb
 have hl:=h.len
 have h3:a.A.length*1114112≤66049*1114112:=Nat.mul_le_mul_right _ (by omega)
 obtain⟨F,A⟩:=a
 exact zqf F A h.len (fun l hl=>⟨by have:=hb l hl;omega,fun x hx=>by have:=(h.arc l hl).2 x hx;simp only at this;omega⟩) (by simp only at hn;omega) (by simp only at hs h3;omega)
theorem y0o {a b:Au} (hfa:zo9 a) (hfb:zo9 b) (hva:vAu a=0) (hvb:vAu b=0) :
 ∃ r,z0y Tryz.prog 31 [.d (auD a),.d (auD b)] (.tup [B r,I .i64 0])∧(r=true↔∀ w,a.acc 0 w=b.acc 0 w):=by
 have wa:=zsv hva
 have wb:=zsv hvb
 have fa:=(zd1 hva).few
 have fb:=(zd1 hvb).few
 have hle:(a.F.length+1)*(b.F.length+1)≤257*257:=Nat.mul_le_mul (by omega) (by omega)
 obtain⟨x,x1,x2,x3,x4⟩:=zqj wa wb 4 (by omega)
 have hp:=zhm (N:=4456450) (a:=1114112) (c:=1114112) (zf1 4456450 (by omega)) (by omega) a.F b.F a.A b.A 4 (zhi wa (by omega)) (zhi wb (by omega)) (zg6 wa) (zg6 wb) (by omega)
 rw[x1,exR] at hp
 refine⟨ztc x,?_,?_⟩
 · refine z1r fun H=>?_
   have hva':=zap a hfa
   have hvb':=zap b hfb
   rw[hva] at hva'
   rw[hvb] at hvb'
   have hal:=zso x2 (by omega)
   have h0:=y4z x2
   have hl:=zlu x.F x.A
   have hpos:=x2.pos
   rw[ztc]
   generalize (z56 x.F x.A).getD 0 false=y at *
   generalize z56 x.F x.A=L at *
   clear x1 x2 x4
   obtain⟨F,A⟩:=a
   obtain⟨G,C⟩:=b
   obtain⟨xF,xA⟩:=x
   simp only at hl hpos hp
   refine z0k Tryz.func31 (by kernel_rfl) rfl (by simp) ?_
   dsimp only[Tryz.f31]
   repeat' (first|(apply z07;(first|refine z0r ?_| (apply z0b;(first|refine z02 z2q rfl rfl ?_| refine z02 z2r rfl rfl ?_| refine z02 z1y rfl rfl ?_))|(apply z0m;(refine z02 (z1b (ys:=L.map boc) rfl (idx h0)) rfl rfl ?_))|(apply z0s;(first|refine z1w hva' ?_| refine z1w hvb' ?_| refine z1w hp ?_| refine z1w hal ?_))|(apply z0c;(refine z22 ?_))|(apply z0g;(refine z0a z16 ?_))|(apply z1s;(refine z0a z3y ?_))))|(apply z08;(first|refine z0p ?_|apply z09))|(apply z05;(first|apply z06|apply z00|refine z0w ?_| apply z04)))
   all_goals try (exfalso;first|omega|(simp at *;done)|(simp at *;omega))
   all_goals exact z0n Tryz.func31 _ z5j ⟨rfl,rfl⟩
 · rw[zvd x2]
   constructor
   · intro h w
     have hw:=h w
     rw[x4,zbc,zAy (by decide),zAy (by decide),zAy (by decide)] at hw
     cases hx:a.acc 0 w with
     | true =>
      rw[zjw wa w 0 hx,hx] at hw
      cases hy:b.acc 0 w with
      | true=>rfl
      | false=>rw[hy] at hw;cases hw
     | false =>
      cases hy:b.acc 0 w with
      | false=>rfl
      | true=>rw[zjw wb w 0 hy,hx,hy] at hw;cases hw
   · intro h w
     rw[x4,h w,zbc,zAy (by decide),zAy (by decide),zAy (by decide)]
     cases b.acc 0 w <;> cases vld w <;> rfl
theorem z9m (x y:Rx) (hfx:fit x) (hfy:fit y) (hxy:val x=0→val y=0→∀ w,Rx.mt zv1 x w=Rx.mt zv1 y w):z0y Tryz.prog 30 [.d (Drx x),.d (Drx y)] (B true):=by
 refine z1r fun H=>?_
 have hx:=z4w x hfx
 have hy:=z4w y hfy
 by_cases h1:val x=0
 case neg =>
  have hcx:=hx
  have hcy:=hy
  clear hxy
  generalize val x=v at *
  generalize val y=v2 at *
  obtain⟨op,mn,mx,rs,ks⟩:=x
  obtain⟨op2,mn2,mx2,rs2,ks2⟩:=y
  rw[z1n,z1n]
  rw[z1n] at hx hy hcx hcy
  refine z0k Tryz.func30 (by kernel_rfl) rfl (by simp) ?_
  dsimp only[Tryz.f30]
  repeat' (first|(apply z07;(first|refine z0r ?_| (apply z0b;(refine z02 z2q rfl rfl ?_))|(apply z0s;(first|refine z1w hx ?_| refine z1w hy ?_))|(apply z1s;(refine z0a z3y ?_))))|(apply z08;(first|refine z0p ?_|apply z09|refine z1v ?_| refine z6c rfl rfl (fun _=>?_) (fun _=>?_)))|(apply z05;(first|apply z06|apply z00|refine z1c ?_| apply z04|refine z5o rfl (fun _=>?_) (fun _=>?_))))
  all_goals exact zD76
 by_cases h2:val y=0
 case neg =>
  rw[h1] at hx
  have hcx:=hx
  have hcy:=hy
  clear hxy
  generalize val y=v2 at *
  obtain⟨op,mn,mx,rs,ks⟩:=x
  obtain⟨op2,mn2,mx2,rs2,ks2⟩:=y
  rw[z1n,z1n]
  rw[z1n] at hx hy hcx hcy
  refine z0k Tryz.func30 (by kernel_rfl) rfl (by simp) ?_
  dsimp only[Tryz.f30]
  repeat' (first|(apply z07;(first|refine z0r ?_| (apply z0b;(refine z02 z2q rfl rfl ?_))|(apply z0s;(first|refine z1w hx ?_| refine z1w hy ?_))|(apply z1s;(refine z0a z3y ?_))))|(apply z08;(first|refine z0p ?_|apply z09))|(apply z05;(first|apply z06|apply z00|apply z04|refine z5o rfl (fun _=>?_) (fun _=>?_))))
  all_goals exact zD76
 have hcx:=zdh x hfx h1
 have hcy:=zdh y hfy h2
 have hm:=hxy h1 h2
 clear hxy
 rw[h1] at hx
 rw[h2] at hy
 cases ea:zc0 x with
 | none =>
  rw[ea] at hcx
  cases eb:zc0 y with
  | none =>
   rw[eb] at hcy
   simp only[zm6] at hcx hcy
   clear hm ea eb h1 h2
   exact zD27
  | some b =>
   rw[eb] at hcy
   simp only[zm6] at hcx hcy
   clear hm ea eb h1 h2
   obtain⟨G,C⟩:=b
   exact zD27
 | some a =>
  rw[ea] at hcx
  cases eb:zc0 y with
  | none =>
   rw[eb] at hcy
   simp only[zm6] at hcx hcy
   clear hm ea eb h1 h2
   obtain⟨F,A⟩:=a
   obtain⟨op,mn,mx,rs,ks⟩:=x
   obtain⟨op2,mn2,mx2,rs2,ks2⟩:=y
   rw[z1n,z1n]
   rw[z1n] at hx hy hcx hcy
   refine z0k Tryz.func30 (by kernel_rfl) rfl (by simp) ?_
   dsimp only[Tryz.f30]
   repeat' (first|(apply z07;(first|refine z0r ?_| (apply z0b;(refine z02 z2q rfl rfl ?_))|(apply z0s;(first|refine z1w hx ?_| refine z1w hy ?_| refine z1w hcx ?_| refine z1w hcy ?_))|(apply z0c;(refine z22 ?_))|(apply z0g;(refine z0a z16 ?_))|(apply z1s;(refine z0a z3y ?_))))|(apply z08;(first|refine z0p ?_|apply z09))|(apply z05;(first|apply z06|apply z00|refine z1c ?_| refine z0w ?_| apply z04)))
   all_goals exact zD76
  | some b =>
   rw[eb] at hcy
   simp only[zm6] at hcx hcy
   obtain⟨wa,na,acca⟩:=zc7 h1 ea
   obtain⟨wb,nb,accb⟩:=zc7 h2 eb
   have hva:=zit wa na
   have hvb:=zit wb nb
   have hfa:=zga hva
   have hfb:=zga hvb
   have hab:∀ w,a.acc 0 w=b.acc 0 w:=fun w=>by rw[acca,accb,hm]
   obtain⟨g1,g2,g3,g4,g5⟩:=zle wa na
   obtain⟨j1,j2,j3,j4,j5⟩:=zle wb nb
   have m1:=zav a hfa hva (zhi wa na) g5
   have m2:=zav b hfb hvb (zhi wb nb) j5
   have e:zn5 b=zn5 a:=y3j j1 g1 fun w=>by rw[j4,g4,hab]
   rw[e] at m2
   have hs:=y1g (zn5 a) (zga (zit g2 (by omega)))
   obtain⟨r,mr,er⟩:=y0o hfa hfb hva hvb
   rw[er.2 hab] at mr
   clear er hab e g1 g2 g3 g4 g5 j1 j2 j3 j4 j5 hva hvb hfa hfb acca accb wa wb na nb ea eb hm h1 h2
   generalize zn5 a=m at *
   obtain⟨F,A⟩:=a
   obtain⟨G,C⟩:=b
   obtain⟨mF,mA⟩:=m
   obtain⟨op,mn,mx,rs,ks⟩:=x
   obtain⟨op2,mn2,mx2,rs2,ks2⟩:=y
   rw[z1n,z1n]
   rw[z1n] at hx hy hcx hcy
   refine z0k Tryz.func30 (by kernel_rfl) rfl (by simp) ?_
   dsimp only[Tryz.f30]
   repeat' (first|(apply z07;(first|refine z0r ?_| (apply z0b;(first|refine z02 z2q rfl rfl ?_| refine z02 z1y rfl rfl ?_))|(apply z0s;(first|refine z1w hx ?_| refine z1w hy ?_| refine z1w hcx ?_| refine z1w hcy ?_| refine z1w m1 ?_| refine z1w m2 ?_| refine z1w hs ?_| refine z1w mr ?_))|(apply z0c;(refine z22 ?_))|(apply z0g;(refine z0a z16 ?_))|(apply z1s;(refine z0a z3y ?_))))|(apply z08;(first|refine z0p ?_|apply z09))|(apply z05;(first|apply z06|apply z00|refine z0w ?_| apply z04)))
   all_goals exact zD76
section
variable {ok:Int→List (Int × Int)→Bool} {mn mx:Int} {rs:List Rg} {x y:Rx} {ks:List Rx} {w:List Int}
theorem L2:L ok (.mk 2 mn mx rs ks) w↔LC ok ks w:=by rw[L];simp
theorem L3:L ok (.mk 3 mn mx rs ks) w↔LU ok ks w:=by rw[L];simp
theorem L4:L ok (.mk 4 mn mx rs [x]) w↔∃ n:Nat,mn≤n∧(mx=-1∨(n:Int)≤mx)∧pow (L ok x) n w:=by rw[L,L1];simp
theorem LC1:LC ok [x] w↔L ok x w:=zco _ w
theorem zd9:LC ok (x::ks) w↔∃ u v,w=u++v∧L ok x u∧LC ok ks v:=by rw[LC];rfl
theorem zn9:LU ok [x,y] w↔L ok x w∨L ok y w:=by rw[LU,LU,LU];simp
abbrev unR (x y:Rx):Rx:=.mk 3 0 0 [] [x,y]
abbrev stR (x:Rx):Rx:=.mk 4 0 (-1) [] [x]
abbrev epR:Rx:=.mk 2 0 0 [] []
theorem zvj:L ok (unR x y) w↔L ok (unR y x) w:=by rw[L3,L3,zn9,zn9];exact Or.comm
theorem zs9:L ok (unR x x) w↔L ok x w:=by rw[L3,zn9];simp
theorem zu5:L ok (stR x) w↔L ok (unR epR (.mk 2 0 0 [] [x,stR x])) w:=by
 rw[L3,zn9,L2,L2,zd9,L4]
 constructor
 · rintro⟨n,_,_,h⟩
   cases n with
   | zero=>exact .inl (by rw[LC];exact h)
   | succ n =>
    obtain⟨u,v,e,h1,h2⟩:=h
    exact .inr ⟨u,v,e,h1,LC1.2 (L4.2 ⟨n,by omega,.inl rfl,h2⟩)⟩
 · rintro(h|⟨u,v,e,h1,h2⟩)
   · rw[LC] at h
     exact⟨0,by omega,.inl rfl,h⟩
   · obtain⟨n,_,_,h3⟩:=L4.1 (LC1.1 h2)
     exact⟨n+1,by omega,.inl rfl,u,v,e,h1,h3⟩
theorem zu4:L ok (.mk 4 1 3 [] [x]) w↔L ok (.mk 2 0 0 [] [x,.mk 4 0 2 [] [x]]) w:=by
 rw[L2,zd9,L4]
 constructor
 · rintro⟨n,h1,h2,h⟩
   cases n with
   | zero=>omega
   | succ n =>
    obtain⟨u,v,e,h3,h4⟩:=h
    exact⟨u,v,e,h3,LC1.2 (L4.2 ⟨n,by omega,.inr (by omega),h4⟩)⟩
 · rintro⟨u,v,e,h1,h2⟩
   obtain⟨n,_,h3,h4⟩:=L4.1 (LC1.1 h2)
   exact⟨n+1,by omega,.inr (by omega),u,v,e,h1,h4⟩
theorem zvt:L ok (.mk 4 2 (-1) [] [x]) w↔L ok (.mk 2 0 0 [] [x,stR x,x]) w:=by
 rw[L2,zd9,L4]
 constructor
 · rintro⟨n,h1,_,h⟩
   match n,h1,h with
   | 0,h1,_=>omega
   | 1,h1,_=>omega
   | n+2,h1,h =>
    obtain⟨u,v,e,h3,h4⟩:=h
    obtain⟨u2,v2,e2,h5,h6⟩:=(pow_add _ n 1 v).1 h4
    exact⟨u,v,e,h3,zd9.2 ⟨u2,v2,e2,L4.2 ⟨n,by omega,.inl rfl,h5⟩,LC1.2 ((pow_one _ _).1 h6)⟩⟩
 · rintro⟨u,v,e,h1,h2⟩
   obtain⟨u2,v2,e2,h3,h4⟩:=zd9.1 h2
   obtain⟨n,_,_,h5⟩:=L4.1 h3
   exact⟨n+2,by omega,.inl rfl,u,v,e,h1,(pow_add _ n 1 v).2 ⟨u2,v2,e2,h5,(pow_one _ _).2 (LC1.1 h4)⟩⟩
theorem zhk (h:∀ w,L ok x w↔L ok y w) (h1:val x=0) (h2:val y=0) (w:List Int):Rx.mt ok x w=Rx.mt ok y w:=by
 rw[Bool.eq_iff_iff,Rx.zpr ok x (zbb h1),Rx.zpr ok y (zbb h2),h]
end
theorem zxf (x:Rx):rxc x=rx5 x.op x.mn x.mx x.rs x.ks:=by obtain⟨o1,n1,x1,rs1,ks1⟩:=x;exact z3j o1 n1 x1 rs1 ks1
theorem zzz (op mn mx:Int):rxc (.mk op mn mx [] [])=[z2w op,z2w mn,z2w mx,rgs [],.slice []]:=z3j op mn mx [] []
theorem y5s (op mn mx:Int) (x:Rx):rxc (.mk op mn mx [] [x])=[z2w op,z2w mn,z2w mx,rgs [],.slice [rxc x]]:=z3j op mn mx [] [x]
theorem y4c (op mn mx:Int) (x y:Rx):rxc (.mk op mn mx [] [x,y])=[z2w op,z2w mn,z2w mx,rgs [],.slice [rxc x,rxc y]]:=z3j op mn mx [] [x,y]
theorem y4y (op mn mx:Int) (x y z:Rx):rxc (.mk op mn mx [] [x,y,z])=[z2w op,z2w mn,z2w mx,rgs [],.slice [rxc x,rxc y,rxc z]]:=z3j op mn mx [] [x,y,z]
theorem zyy (τ:Tab) (x y:Rx) (hfx:fit x) (hfy:fit y):z1x Tryz.prog 10 [.d (Drx x),.d (Drx y)] (zfm τ 0) [] (B true):=by
 refine z2f fun H hH=>?_
 have hX0:=hH ((0,700),.glob 0 τ.o0) (by simp)
 have hX1:=hH ((0,701),.glob 1 τ.o1) (by simp)
 have haw:=zpn τ
 have h1:=zj9 x hfx
 have h2:=zj9 y hfy
 have h3:=z4w x hfx
 have h4:=z4w y hfy
 have fS:fit (stR x):=by simp[fit,zd0,hfx]
 have fE:fit epR:=by simp[fit,zd0]
 have fC:fit (.mk 2 0 0 [] [x,stR x]):=by simp[fit,zd0,hfx]
 have k1:=z9m (unR x y) (unR y x) (by simp[fit,zd0,hfx,hfy]) (by simp[fit,zd0,hfx,hfy]) fun a b=>zhk (fun w=>zvj) a b
 have k2:=z9m (unR x x) x (by simp[fit,zd0,hfx]) hfx fun a b=>zhk (fun w=>zs9) a b
 have k3:=z9m (stR x) (unR epR (.mk 2 0 0 [] [x,stR x])) fS (by simp[fit,zd0,hfx]) fun a b=>zhk (fun w=>zu5) a b
 have k4:=z9m (.mk 4 1 3 [] [x]) (.mk 2 0 0 [] [x,.mk 4 0 2 [] [x]]) (by simp[fit,zd0,hfx]) (by simp[fit,zd0,hfx]) fun a b=>zhk (fun w=>zu4) a b
 have k5:=z9m (.mk 4 2 (-1) [] [x]) (.mk 2 0 0 [] [x,stR x,x]) (by simp[fit,zd0,hfx]) (by simp[fit,zd0,hfx]) fun a b=>zhk (fun w=>zvt) a b
 clear fS fE fC hfx hfy
 generalize hvy x=b1 at *
 generalize hvy y=b2 at *
 generalize val x=v1 at *
 generalize val y=v2 at *
 by_cases g:b1=true∨b2=true∨v1≠0∨v2≠0∨x.op=3∨y.op=3∨x.op=2
 · clear k1 k2 k3 k4 k5
   cases b1
   · cases b2
     · by_cases g1:v1=0
       · subst g1
         by_cases g2:v2=0
         · subst g2
           by_cases g3:x.op=3
           · skip
             exact zD6
           · by_cases g4:y.op=3
             · skip
               exact zD6
             · have g5:x.op=2:=by simp_all
               exact zD6
         · exact zD14
       · exact zD14
     · skip
       obtain⟨op,mn,mx,rs,ks⟩:=x
       obtain⟨op2,mn2,mx2,rs2,ks2⟩:=y
       rw[z1n] at h1 h2 h3 h4
       rw[z1n,z1n]
       try simp only[Rx.op] at *
       refine z0k Tryz.func10 (by kernel_rfl) rfl (by simp) ?_
       dsimp only[Tryz.f10]
       refine z3u 700 0 700 hX0 ?_
       refine z3u 701 0 701 (z0i hX1 (by simp)) ?_
       repeat' (first|(apply z07;(first|refine z0r ?_| (apply z0b;(refine z02 z2q rfl rfl ?_))|(apply z0s;(first|refine z1w h1 ?_| refine z1w h2 ?_))|(apply z1s;(refine z0a z3y ?_))))|(apply z08;(first|refine z0p ?_|apply z09|refine z1v ?_))|(apply z05;(first|apply z06|apply z00|refine z1c ?_)))
       all_goals exact zD36
   · skip
     obtain⟨op,mn,mx,rs,ks⟩:=x
     obtain⟨op2,mn2,mx2,rs2,ks2⟩:=y
     rw[z1n] at h1 h2 h3 h4
     rw[z1n,z1n]
     try simp only[Rx.op] at *
     refine z0k Tryz.func10 (by kernel_rfl) rfl (by simp) ?_
     dsimp only[Tryz.f10]
     refine z3u 700 0 700 hX0 ?_
     refine z3u 701 0 701 (z0i hX1 (by simp)) ?_
     repeat' (first|(apply z07;(first|refine z0r ?_| (apply z0b;(refine z02 z2q rfl rfl ?_))|(apply z0s;(refine z1w h1 ?_))|(apply z1s;(refine z0a z3y ?_))))|(apply z08;(first|refine z0p ?_|apply z09|refine z1v ?_))|(apply z05;(first|apply z06|apply z00|refine z1c ?_)))
     all_goals exact zD36
 · have e1:b1=false:=by cases b1;rfl;exact absurd (.inl rfl) g
   have e2:b2=false:=by cases b2;rfl;exact absurd (.inr (.inl rfl)) g
   have e3:v1=0:=Decidable.byContradiction fun h=>g (.inr (.inr (.inl h)))
   have e4:v2=0:=Decidable.byContradiction fun h=>g (.inr (.inr (.inr (.inl h))))
   have g5:x.op≠3:=fun h=>g (.inr (.inr (.inr (.inr (.inl h)))))
   have g6:y.op≠3:=fun h=>g (.inr (.inr (.inr (.inr (.inr (.inl h))))))
   have g7:x.op≠2:=fun h=>g (.inr (.inr (.inr (.inr (.inr (.inr h))))))
   subst e1 e2 e3 e4
   clear g
   simp only[Drx,y4c,y5s,y4y,zzz] at k1 k2 k3 k4 k5 h1 h2 h3 h4 ⊢
   simp only[zxf x,zxf y] at k1 k2 k3 k4 k5 h1 h2 h3 h4 ⊢
   obtain⟨op,mn,mx,rs,ks⟩:=x
   obtain⟨op2,mn2,mx2,rs2,ks2⟩:=y
   simp only[Rx.op,Rx.mn,Rx.mx,Rx.rs,Rx.ks] at g5 g6 g7 k1 k2 k3 k4 k5 h1 h2 h3 h4 ⊢
   refine z0k Tryz.func10 (by kernel_rfl) rfl (by simp) ?_
   dsimp only[Tryz.f10]
   refine z3u 700 0 700 hX0 ?_
   refine z3u 701 0 701 (z0i hX1 (by simp)) ?_
   repeat' (first|(apply z07;(first|refine z0r ?_| (apply z0b;(first|refine z02 z2q rfl rfl ?_| refine z02 z1i rfl rfl ?_| refine z02 z1y rfl rfl ?_))|(apply z0e;(refine z02 z0q rfl rfl ?_))|(apply z0s;(first|refine z3p haw rfl rfl (by decide) ?_|refine z1w h1 ?_| refine z1w h2 ?_| refine z1w h3 ?_| refine z1w h4 ?_| refine z1w k1 ?_| refine z1w k2 ?_| refine z1w k3 ?_| refine z1w k4 ?_| refine z1w k5 ?_))|(apply z0c;(refine z22 ?_))|(apply z0g;(refine z0a z16 ?_))|(apply z1s;(refine z0a z3y ?_))|(apply z10;(refine z23 ?_))|(apply z2o;(refine z2s rfl ?_))))|(apply z08;(first|refine z0p ?_|apply z09|refine z1v ?_| refine z2n (fun _=>?_) (fun _=>?_)))|(apply z05;(first|apply z06|apply z00|refine z1c ?_| apply z04|refine z0f (fun _=>?_) (fun _=>?_))))
   all_goals exact zD36
end Go.Proofs.YthdfkabdoidjfaaGreatDoor
