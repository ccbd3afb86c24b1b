/- A part of the proof: K8 to K11. -/
import Derived.Test.YtmcggompdmngmaaGreatDoorYc
import Derived.Test.YtmcggompdmngmaaGreatDoorYo
import Derived.Test.YtmcggompdmngmaaGreatDoorYK
import Derived.Test.YtmcggompdmngmaaGreatDoorYf
import Derived.Test.YtmcggompdmngmaaGreatDoorY1
import Derived.Test.YtmcggompdmngmaaGreatDoorYr
import Derived.Test.YtmcggompdmngmaaGreatDoorYv
import Derived.Test.YtmcggompdmngmaaGreatDoorYC
import Derived.Test.YtmcggompdmngmaaGreatDoorYz
import Derived.Test.YtmcggompdmngmaaGreatDoorYF
set_option linter.all false
namespace Go.Proofs.YtmcggompdmngmaaGreatDoor
open Go.Ab Go.Ax Go.Rx
set_option maxHeartbeats 20000000
set_option maxRecDepth 100000
attribute [local irreducible] Run Ops Op1 z0u Val Tr z09 z0q NF Rel z1v z1u
abbrev abX:Rx:=.mk 1 0 0 [(97,98)] []
abbrev eK (k:Int):Rx:=.mk 2 0 0 [] [.mk 4 0 (-1) [] [abX],.mk 1 0 0 [(97,97)] [],.mk 4 k k [] [abX]]
def lvK (k:Nat):List (List Rg):=[(97,98)]::[(97,97)]::List.replicate k [(97,98)]
def foK (k:Nat):List Nat:=3::((List.range k).map (fun j=>2 ^ (j+2))++[0])
theorem bdK:∀ k:Nat,k<16→bd (eK k) tb0=(⟨lvK k,foK k⟩,⟨3,2 ^ (k+1),false⟩)
 | 0,_=>by kernel_rfl
 | 1,_=>by kernel_rfl
 | 2,_=>by kernel_rfl
 | 3,_=>by kernel_rfl
 | 4,_=>by kernel_rfl
 | 5,_=>by kernel_rfl
 | 6,_=>by kernel_rfl
 | 7,_=>by kernel_rfl
 | 8,_=>by kernel_rfl
 | 9,_=>by kernel_rfl
 | 10,_=>by kernel_rfl
 | 11,_=>by kernel_rfl
 | 12,_=>by kernel_rfl
 | 13,_=>by kernel_rfl
 | 14,_=>by kernel_rfl
 | 15,_=>by kernel_rfl
 | n+16,h=>absurd h (by omega)
theorem ydc:∀ k:Nat,k<16→val (eK k)=0
 | 0,_=>by kernel_rfl
 | 1,_=>by kernel_rfl
 | 2,_=>by kernel_rfl
 | 3,_=>by kernel_rfl
 | 4,_=>by kernel_rfl
 | 5,_=>by kernel_rfl
 | 6,_=>by kernel_rfl
 | 7,_=>by kernel_rfl
 | 8,_=>by kernel_rfl
 | 9,_=>by kernel_rfl
 | 10,_=>by kernel_rfl
 | 11,_=>by kernel_rfl
 | 12,_=>by kernel_rfl
 | 13,_=>by kernel_rfl
 | 14,_=>by kernel_rfl
 | 15,_=>by kernel_rfl
 | n+16,h=>absurd h (by omega)
theorem ydl (k:Int):fit (eK k):=by simp[fit,zz9]
theorem ztd (k:Nat):(lvK k).length=k+2:=by simp[lvK]
theorem y3t {k j:Nat} (h:j<k+2):(lvK k).getD j []=if j=1 then [(97,97)] else [(97,98)]:=by
 match j,h with
 | 0,_=>rfl
 | 1,_=>rfl
 | j+2,h =>
  rw[zAy (by omega),lvK,List.getD_cons_succ,List.getD_cons_succ,List.getD,List.getElem?_replicate,zAz (by omega)];rfl
theorem zr5 (k:Nat):∀ r∈lvK k,ztv r:=by
 intro r hr
 have:r=[(97,98)]∨r=[(97,97)]:=by
  simp only[lvK,zAc,List.mem_replicate] at hr
  rcases hr with h|h|h
  · exact .inl h
  · exact .inr h
  · exact .inl h.2
 rcases this with rfl|rfl
 · exact⟨by decide,by decide⟩
 · exact⟨by decide,by decide⟩
theorem y1e {k j:Nat} (h:j<k+2) (c:Int):inR ((lvK k).getD j []) c=(decide (c=97)||(decide (c=98)&&!decide (j=1))):=by
 rw[y3t h]
 by_cases h1:j=1
 · rw[zAz h1,zAi h1]
   simp only[inR,List.any_cons,List.any_nil]
   rw[Bool.eq_iff_iff];simp;omega
 · rw[zAy h1,zAo h1]
   simp only[inR,List.any_cons,List.any_nil]
   rw[Bool.eq_iff_iff];simp;omega
theorem zjx (k:Nat):(foK k).length=k+2:=by simp[foK]
theorem zk5 {k i:Nat} (h:i<k+2) (j:Nat):bit ((foK k).getD i 0) j↔(i=0∧j<2)∨(1≤i∧i≤k∧j=i+1):=by
 match i,h with
 | 0,_ =>
  have:(foK k).getD 0 0=2 ^ 2-1:=rfl
  rw[this,bit,Nat.testBit_two_pow_sub_one,zA3]
  omega
 | i+1,h =>
  rw[foK,List.getD_cons_succ]
  by_cases hk:i<k
  · have:((List.range k).map (fun j=>2 ^ (j+2))++[0]).getD i 0=2 ^ (i+2):=by
     rw[List.getD,zAb (by simpa using hk),zAd,List.getElem?_range hk];rfl
    rw[this,bit,Nat.testBit_two_pow,zA3]
    omega
  · have:((List.range k).map (fun j=>2 ^ (j+2))++[0]).getD i 0=0:=by
     rw[List.getD,zAg (by simp;omega)]
     simp[show i-k=0 by omega]
    rw[this]
    simp[bit];omega
theorem ydb (j:Nat):bit 3 j↔j<2:=by
 rw[show (3:Nat)=2 ^ 2-1 from rfl,bit,Nat.testBit_two_pow_sub_one,zA3]
def NK (k:Nat) (κ:Bool × Nat):Nat:=nxN 3 (foK k) κ
theorem y0d (k:Nat) {κ:Bool × Nat} (h:κ.1=true∨bit κ.2 0) (hs:κ.1=true→κ.2=0) (j:Nat):bit (NK k κ) j↔j<2∨∃ i,1≤i∧i≤k∧bit κ.2 i∧j=i+1:=by
 rw[NK,nxN]
 by_cases h1:κ.1=true
 · rw[zAz h1,ydb,hs h1]
   constructor
   · exact .inl
   · rintro(g|⟨i,_,_,g,_⟩)
     · exact g
     · simp[bit] at g
 · rw[zAy h1,zkp]
   have h0:=h.resolve_left h1
   constructor
   · rintro(g|⟨i,i1,i2,i3⟩)
     · simp[bit] at g
     · rw[zjx] at i1
       rw[Nat.zero_add] at i2
       rcases (zk5 i1 j).1 i3 with ⟨_,g⟩|⟨g1,g2,g3⟩
       · exact .inl g
       · exact .inr ⟨i,g1,g2,i2,g3⟩
   · rintro(g|⟨i,g1,g2,g3,g4⟩)
     · exact .inr ⟨0,by rw[zjx];omega,h0,(zk5 (by omega) j).2 (.inl ⟨rfl,g⟩)⟩
     · exact .inr ⟨i,by rw[zjx];omega,by rw[Nat.zero_add];exact g3,(zk5 (by omega) j).2 (.inr ⟨g1,g2,g4⟩)⟩
theorem zgt (k N:Nat) (c:Int) (j:Nat):bit (ze3 N (lvK k) c) j↔j<k+2∧bit N j∧(c=97∨(c=98∧j≠1)):=by
 rw[ze3,z7b]
 constructor
 · rintro(g|⟨i,i1,i2,i3,i4⟩)
   · simp[bit] at g
   · rw[Nat.zero_add] at i2
     subst i2
     rw[ztd] at i1
     rw[y1e i1] at i4
     refine⟨i1,i3,?_⟩
     simpa using i4
 · rintro⟨g1,g2,g3⟩
   refine .inr ⟨j,by rw[ztd];exact g1,(Nat.zero_add j).symm,g2,?_⟩
   rw[y1e g1]
   simpa using g3
def okK (k:Nat) (κ:Bool × Nat):Prop:=κ=(true,0)∨(κ.1=false∧bit κ.2 0∧κ.2<2 ^ (k+2))
theorem zt1 {k:Nat} {κ:Bool × Nat} (h:okK k κ):(κ.1=true∨bit κ.2 0)∧(κ.1=true→κ.2=0):=by
 rcases h with rfl|⟨h1,h2,h3⟩
 · exact⟨.inl rfl,fun _=>rfl⟩
 · exact⟨.inr h2,fun h=>by rw[h1] at h;cases h⟩
theorem kxK (k:Nat) (κ:Bool × Nat) (c:Int):kx (z5y (NK k κ) (lvK k)) c=if 0≤c∧c≤1114111 then cF (NK k κ) (lvK k) c else none:=(zko _ (zr5 k)).2 c
theorem yb0 {k:Nat} {κ κ':Bool × Nat} (h:okK k κ) {c:Int} (hx:kx (z5y (NK k κ) (lvK k)) c=some κ'):okK k κ':=by
 rw[kxK] at hx
 split at hx
 · rw[cF] at hx
   split at hx
   · cases hx
   · rename_i g hm
     simp only[zAh] at hx
     subst hx
     obtain⟨p1,p2⟩:=zt1 h
     have hN:=y0d k p1 p2
     have hc:c=97∨c=98:=by
      apply Classical.byContradiction
      intro hc
      apply hm
      apply Nat.eq_of_testBit_eq
      intro j
      rw[Nat.zero_testBit]
      exact zD116
     refine .inr ⟨rfl,(zgt k _ c 0).2 ⟨by omega,(hN 0).2 (.inl (by omega)),by omega⟩,?_⟩
     refine Nat.lt_pow_two_of_testBit _ fun j hj=>?_
     exact zD116
 · cases hx
theorem yds {k:Nat} (hk:k<7) (l:List (Bool × Nat)) (hn:l.Nodup) (hok:∀ x∈l,okK k x):l.length≤256:=by
 have h1:(l.map fun x=>((x.2:Nat):Int)).Nodup:=by
  rw[List.nodup_iff_pairwise_ne] at hn
  rw[List.nodup_iff_pairwise_ne,List.pairwise_map]
  refine hn.imp_of_mem fun {p q} hp hq hpq e=>hpq ?_
  have e2:p.2=q.2:=by omega
  rcases hok p hp with rfl|⟨p1,p2,_⟩ <;> rcases hok q hq with rfl|⟨q1,q2,_⟩
  · rfl
  · rw[← e2] at q2;simp[bit] at q2
  · rw[e2] at p2;simp[bit] at p2
  · exact Prod.ext (p1.trans q1.symm) e2
 have h2:=zty (n:=256) h1 fun x hx=>by
  obtain⟨p,hp,rfl⟩:=List.mem_map.1 hx
  have:2 ^ (k+2)≤2 ^ 8:=Nat.pow_le_pow_right (by decide) (by omega)
  rcases hok p hp with rfl|⟨_,_,p3⟩
  · simp
  · omega
 simpa using h2
theorem ycr (k:Nat) (hk:k<16):zh1 (eK k)=exL (fun κ:Bool × Nat=>(κ.1&&false)||decide (κ.2 &&& 2 ^ (k+1)≠0)) (fun κ=>z5y (NK k κ) (lvK k)) 256 257 0 [(true,0)] ⟨[],[]⟩:=by
 rw[zh1,zqq,bdK k hk];rfl
theorem yd0 (k:Nat) (fin:Bool × Nat→Bool):Ex fin (fun κ=>z5y (NK k κ) (lvK k)) (true,0) 0 [(true,0)] ⟨[],[]⟩:=by
 refine⟨by simp,rfl,rfl,rfl,by simp,fun q x hq=>absurd hq (Nat.not_lt_zero _),fun q x hq=>absurd hq (Nat.not_lt_zero _),fun j h1 h2=>?_⟩
 simp at h2;omega
theorem zla {k:Nat} (hk:k<7):∃ a,zh1 (eK k)=some a:=by
 rw[ycr k (by omega)]
 exact zmg (ok:=okK k) (fun κ=>(zko _ (zr5 k)).1) (.inl rfl) (fun κ h c κ' hx=>yb0 h hx) (yds hk) 257 0 _ _ (yd0 k _) (by omega)
theorem zl8 {k:Nat} (hk:7≤k) (hk2:k<16):zh1 (eK k)=none:=by
 rw[ycr k hk2]
 cases hx:exL (fun κ:Bool × Nat=>(κ.1&&false)||decide (κ.2 &&& 2 ^ (k+1)≠0)) (fun κ=>z5y (NK k κ) (lvK k)) 256 257 0 [(true,0)] ⟨[],[]⟩ with
 | none=>rfl
 | some b =>
  exfalso
  have hlim:=zui (lim:=256) 257 0 [(true,0)] ⟨[],[]⟩ b rfl (by omega) (by simp) hx
  obtain⟨ks,hE⟩:=y0o (fun κ=>(zko _ (zr5 k)).1) 257 0 [(true,0)] ⟨[],[]⟩ b (yd0 k _) hx
  rw[hE.fl] at hlim
  have hcl:∀ κ∈ks,∀ c κ',kx (z5y (NK k κ) (lvK k)) c=some κ'→κ'∈ks:=fun κ hκ c κ' h=>by
   obtain⟨q,hq⟩:=zAw hκ
   obtain⟨_,_,_,_,h4⟩:=hE.arc q κ (zA1.1 hq).1 hq
   exact h4 c κ' h
  have h0:(true,0)∈ks:=zA2 hE.hd
  have hgo:∀ κ∈ks,okK k κ→∀ (t:Nat),t<2→∀ M,(∀ j,bit M j↔(j=0∨(j=1∧t=1)∨∃ i,1≤i∧i≤k∧bit κ.2 i∧j=i+1))→(false,M)∈ks:=fun κ hκ hok t ht M hM=>by
   obtain⟨p1,p2⟩:=zt1 hok
   have hN:=y0d k p1 p2
   have he:ze3 (NK k κ) (lvK k) (if t=1 then 97 else 98)=M:=by
    apply Nat.eq_of_testBit_eq
    intro j
    rw[Bool.eq_iff_iff]
    refine(zgt k _ _ j).trans (Iff.trans ?_ (hM j).symm)
    rw[hN j]
    constructor
    · rintro⟨g1,g2,g3⟩
      rcases g2 with g2|g2
      · by_cases hj:j=0
        · exact .inl hj
        · refine .inr (.inl ⟨by omega,?_⟩)
          by_cases h1:t=1
          · exact h1
          · rw[zAy h1] at g3;omega
      · exact .inr (.inr g2)
    · rintro(g|⟨g,g'⟩|⟨i,i1,i2,i3,i4⟩)
      · refine⟨by omega,.inl (by omega),?_⟩
        exact zD111
      · exact⟨by omega,.inl (by omega),by rw[zAz g'];exact .inl rfl⟩
      · refine⟨by omega,.inr ⟨i,i1,i2,i3,i4⟩,?_⟩
        exact zD111
   refine hcl κ hκ (if t=1 then 97 else 98) _ ?_
   rw[kxK,zAz (by split <;> omega),cF,he,zAy]
   intro e
   have:=(hM 0).2 (.inl rfl)
   rw[e] at this;simp[bit] at this
  -- all sets with leaf 0
  have hall:∀ m,m≤k+1→∀ T,T<2 ^ m→(false,2*T+1)∈ks:=fun m=>by
   induction m with
   | zero =>
    intro _ T hT
    obtain rfl:T=0:=by simpa using hT
    refine hgo (true,0) h0 (.inl rfl) 0 (by omega) 1 fun j=>?_
    rw[bit,Nat.testBit_one_eq_true_iff_self_eq_zero]
    simp[bit]
   | succ m ih =>
    intro hm T hT
    have hT2:T / 2<2 ^ m:=by rw[Nat.pow_succ] at hT;omega
    have hin:=ih (by omega) (T / 2) hT2
    have hok:okK k (false,2*(T / 2)+1):=by
     refine .inr ⟨rfl,by simp[bit],?_⟩
     have:2 ^ m≤2 ^ (k+1):=Nat.pow_le_pow_right (by decide) (by omega)
     have e:2 ^ (k+2)=2*2 ^ (k+1):=by rw[Nat.pow_succ,Nat.mul_comm]
     omega
    refine hgo _ hin hok (T % 2) (Nat.mod_lt _ (by decide)) (2*T+1) fun j=>?_
    match j with
    | 0=>simp[bit]
    | 1 =>
     have:bit (2*T+1) 1↔T % 2=1:=by
      rw[bit,Nat.testBit_succ,show (2*T+1) / 2=T by omega,Nat.testBit_zero,zA3]
     rw[this]
     constructor
     · intro h;exact .inr (.inl ⟨rfl,h⟩)
     · rintro(h|⟨_,h⟩|⟨i,i1,_,_,i4⟩)
       · omega
       · exact h
       · omega
    | j+2 =>
     have e1:bit (2*T+1) (j+2)↔(T / 2).testBit j=true:=by
      rw[bit,Nat.testBit_succ,show (2*T+1) / 2=T by omega,Nat.testBit_succ]
     have e2:bit (2*(T / 2)+1) (j+1)↔(T / 2).testBit j=true:=by
      rw[bit,Nat.testBit_succ,show (2*(T / 2)+1) / 2=T / 2 by omega]
     rw[e1]
     constructor
     · intro h
       refine .inr (.inr ⟨j+1,by omega,?_,e2.2 h,rfl⟩)
       have:j<m:=by
        apply Classical.byContradiction
        intro hj
        rw[Nat.testBit_lt_two_pow (zAx hT2 (Nat.pow_le_pow_right (by decide) (by omega)))] at h
        cases h
       omega
     · rintro(h|⟨h,_⟩|⟨i,i1,i2,i3,i4⟩)
       · omega
       · omega
       · obtain rfl:i=j+1:=by omega
         exact e2.1 i3
  have hle:=zbw (l:=(true,0)::(List.range (2 ^ (k+1))).map fun T=>(false,2*T+1)) (m:=ks) ?_ ?_
  · rw[zAk,zA4,List.length_range] at hle
    have:2 ^ 8≤2 ^ (k+1):=Nat.pow_le_pow_right (by decide) (by omega)
    omega
  · rw[List.nodup_cons]
    refine⟨fun h=>?_,?_⟩
    · obtain⟨T,_,e⟩:=List.mem_map.1 h
      simp at e
    · rw[List.nodup_iff_pairwise_ne,List.pairwise_map]
      have:=List.nodup_range (n:=2 ^ (k+1))
      rw[List.nodup_iff_pairwise_ne] at this
      exact this.imp fun {a b} hab e=>hab (by simp at e;omega)
  · intro x hx
    rcases zAc.1 hx with rfl|hx
    · exact h0
    · obtain⟨T,hT,rfl⟩:=List.mem_map.1 hx
      exact hall (k+1) (zAj _) T (List.mem_range.1 hT)
end Go.Proofs.YtmcggompdmngmaaGreatDoor
namespace Go.Proofs.YtmcggompdmngmaaGreatDoor
open Go.Ab Go.Rx Go.Wd Go.Lx
set_option maxHeartbeats 20000000
set_option maxRecDepth 100000
attribute [local irreducible] Run Ops Op1 z0u Val Tr z09 z0q NF Rel z1v z1u zkh zrx Go.Wd.nb Go.Wd.wN
theorem zzp (s:ByteArray):∀ f i,rnL s f i=(uB s f i).map (·.r)
 | 0,i=>rfl
 | f+1,i=>by
  rw[rnL,uB]
  split
  · rw[List.map_cons,zzp s f]
  · rfl
theorem zoh (s:ByteArray):rnL s s.size 0=Go.Rx.z2x s:=by
 rw[Go.Rx.z2x,rst,Nat.sub_zero];exact zzp s _ _
theorem zou {P:Program} {ty:TypeId} {x:Operand} {src dst e:TypeId} {ts td te:TI} {s:ByteArray} {l:List Int} [hs:z0j P src ts] [hd':z0j P dst td] [he:z0j P e te] (hl:Go.Rx.z2x s=l) (hks:ts.kind=.str) (hkd:td.kind=.slice e) (hke:te.kind=.int .i32) (hsz:s.size≤1000000) :
 Val P (.convert src dst x) ty [(x,S s)] [] (.d (rnD l)):=by
 have:=zsx (P:=P) (ty:=ty) (x:=x) (src:=src) (dst:=dst) (e:=e) (s:=s) hks hkd hke (by omega)
 rw[zoh,hl] at this
 exact this
def rmt (fold:Bool) (e:Rx) (s:ByteArray):Bool:=decide (val e=0)&&zbi s&&zl1 (rok fold) (Go.Rx.z2x s) e 0 (Go.Rx.z2x s).length
theorem zyb (fold:Bool) (e:Rx) (hf:fit e) (s:ByteArray) (hs:s.size≤1000000):z09 Tryz.prog 65 [.d (Drx e),S s,B fold] (B (rmt fold e s)):=by
 refine z0t fun H=>?_
 have hva:=zdw e hf
 have hvd:=zmq s hs
 have hrl:=zfd s
 obtain⟨l,hl⟩:∃ l,Go.Rx.z2x s=l:=⟨_,rfl⟩
 have hc:∀ c∈l,0≤c∧c≤1114111:=fun c hc=>by
  rw[← hl,Go.Rx.z2x,List.mem_map] at hc
  obtain⟨u,hu,rfl⟩:=hc
  have:=z30.1 (zge s _ 0 (zAj _) u hu)
  omega
 have hen:=y78 fold l (by rw[← hl];omega) hc e hf
 rw[rmt,hl]
 rw[hl] at hrl
 by_cases h0:val e=0
 case neg =>
  rw[zAo h0,Bool.false_and,Bool.false_and]
  generalize val e=v at *
  obtain⟨op,mn,mx,rs,ks⟩:=e
  rw[z2m] at hva ⊢
  refine z06 Tryz.func65 (by kernel_rfl) rfl (by simp) ?_
  dsimp only[Tryz.f65]
  repeat' (first|(apply z03;(refine z1n hva ?_))|(apply z2c;(refine z0h z4x ?_))|refine z01 ?_|refine fk (fun _=>?_) (fun _=>?_))
  all_goals try (exfalso;omega)
  all_goals exact z02 Tryz.func65 _ z1d ⟨rfl,rfl⟩
 have hen:=hen (zb2 h0)
 rw[zAi h0,Bool.true_and]
 rw[h0] at hva
 have hhs:=y9i l.length (zl1 (rok fold) l e 0) l.length (zAj _) (by omega)
 have hix:=zha (n:=l.length) (a:=zl1 (rok fold) l e) (i:=0) (zAf _)
 generalize zl1 (rok fold) l e=R at *
 obtain⟨b,hb⟩:∃ b,zbi s=b:=⟨_,rfl⟩
 rw[hb] at hvd ⊢
 clear h0 hb
 obtain⟨op,mn,mx,rs,ks⟩:=e
 rw[z2m] at hva hen ⊢
 refine z06 Tryz.func65 (by kernel_rfl) rfl (by simp) ?_
 dsimp only[Tryz.f65]
 cases b with
 | false =>
  repeat' (first|(apply z03;(first|refine z1n hva ?_| refine z1n hvd ?_))|(apply z2c;(refine z0h z4x ?_))|refine z01 ?_|fail)
  all_goals try (exfalso;first|omega|(simp at *;done))
  all_goals exact z02 Tryz.func65 _ z1d ⟨rfl,rfl⟩
 | true =>
  repeat' (first|(apply z04;(refine z08 (z1f (ys:=(rlX l.length R).map fun xs=>[D.slice xs]) rfl hix) rfl rfl ?_))|(apply z1k;(refine z08 (zcj rfl) rfl rfl ?_))|(apply z03;(first|refine z1n hva ?_| refine z1n hvd ?_| refine z1n hen ?_| refine z1n hhs ?_))|(apply z2c;(refine z0h z4x ?_))|refine z01 ?_|(apply z10;(refine z08 (zou hl rfl rfl rfl hs) rfl rfl ?_)))
  all_goals try (exfalso;first|omega|(simp at *;done))
  all_goals exact z02 Tryz.func65 _ z1d ⟨by rw[Bool.true_and],rfl⟩
theorem zj0 (e:Rx) (hf:fit e) (s:ByteArray) (hs:s.size≤1000000):z09 Tryz.prog 25 [.d (Drx e),S s] (B (rmt false e s)):=by
 refine z0t fun H=>?_
 have h:=zyb false e hf s hs
 generalize rmt false e s=b at *
 obtain⟨op,mn,mx,rs,ks⟩:=e
 rw[z2m] at h ⊢
 refine z06 Tryz.func25 (by kernel_rfl) rfl (by simp) ?_
 dsimp only[Tryz.f25]
 repeat' (first|(apply z03;(refine z1n h ?_))|(apply z2c;(refine z0h z4x ?_))|refine z01 ?_|fail)
 all_goals exact z02 Tryz.func25 _ z1d ⟨rfl,rfl⟩
theorem y2l (c:Int) (l:List Rg):rok false c l=okV (fun c=>[c]) c l:=by
 rw[rok,okV,List.any_cons,List.any_nil,Bool.or_false,inR]
 congr 1
 funext r
 simp
theorem zqm (e:Rx) (s:ByteArray):rmt false e s=mtS (fun c=>[c]) e s:=by
 rw[rmt,mtS]
 by_cases h0:val e=0
 · congr 1
   rw[show rok false=okV (fun c=>[c]) from funext fun c=>funext fun l=>y2l c l,Bool.eq_iff_iff,zys _ _ _ (zb2 h0),y2u _ _ (zb2 h0)]
 · rw[zAo h0];rfl
theorem zwx (W:List ByteArray) (z:D) (hW:zkr W) (e:Rx) (hf:fit e) (h0:val e=0):z09 Tryz.prog 23 [.d (.agg [.slice (W.map stc),z]),.d (Drx e),B false] (.tup [.d (inD (zfe (fun i=>mtS (fun c=>[c]) e (wd W i)) W.length)),I .i64 0]):=by
 refine z0t fun H=>?_
 have hva:=zdw e hf
 rw[h0] at hva
 have hm:=fun (w:ByteArray) (hw:w.size≤1000)=>zj0 e hf w (by omega)
 simp only[zqm] at hm
 obtain⟨f,hfd⟩:∃ f:Nat→Bool,(fun i=>mtS (fun c=>[c]) e (wd W i))=f:=⟨_,rfl⟩
 have hfi:∀ i,mtS (fun c=>[c]) e (wd W i)=f i:=fun i=>by rw[← hfd]
 rw[hfd]
 clear hfd
 have hWl:=hW.len
 refine z06 Tryz.func23 (by kernel_rfl) rfl (by simp) ?_
 dsimp only[Tryz.f23]
 obtain⟨op,mn,mx,rs,ks⟩:=e
 rw[z2m] at hva ⊢
 simp only[z2m] at hm
 repeat' (first|(apply z03;(refine z1n hva ?_))|(apply z2c;(refine z0h z4x ?_))|refine z01 ?_|fail)
 all_goals try (exfalso;omega)
 refine z2v 8 1000 3 1 rfl rfl rfl ?_
 refine z0d ?_
 refine z00 (z0p (fun i:Nat × List Nat=>⟨43,[(2,B false),(4,.ptr (0,4) 0),(8,.ref (0,1000)),(15,.d (.slice (W.map stc))),(16,I .i64 W.length),(17,I .i64 (i.1:Nat))],[(4,.box ((rx5 op mn mx rs ks).map .d)),(1000,.row 3 1 (i.2.map nmc))],H⟩) (fun z=>z.1≤W.length∧z.2=sel f z.1) (fun z=>W.length-z.1) ?_ (0,[]) ⟨zAf _,rfl⟩) rfl rfl
 rintro⟨n,out⟩ ⟨i1,i2⟩ ih
 simp only at i1 i2 ih ⊢
 have hol:out.length≤n:=by rw[i2];exact zfu f n
 by_cases hlt:n<W.length
 · have hwn:=z43 hlt
   have hr:=hm (wd W n) (hW.size _ (z8i hlt))
   rw[hfi n] at hr
   have ih':=ih (n+1,out++if f n=true then [n] else []) ⟨by simp only;omega,by simp only;rw[z9h,← i2]⟩ (by simp only;omega)
   simp only at ih'
   clear ih hfi hm
   generalize wd W n=w at *
   cases hb:f n with
   | true =>
    rw[hb] at hr ih'
    rw[zAz rfl] at ih'
    repeat' (first|(apply z04;(refine z08 (z1f (ys:=W.map stc) rfl (idx hwn)) rfl rfl ?_))|(apply z1k;(refine z6p (g:=nmc) n rfl ?_))|(apply z03;(refine z1n hr ?_))|refine z01 ?_|refine fk (fun _=>?_) (fun _=>?_))
    all_goals try (exfalso;first|omega|(simp at *;done))
    refine z2y 40 1000 ?_
    exact z00 ih' rfl rfl
   | false =>
    rw[hb] at hr ih'
    rw[zAy (by decide),List.append_nil] at ih'
    repeat' (first|(apply z04;(refine z08 (z1f (ys:=W.map stc) rfl (idx hwn)) rfl rfl ?_))|(apply z03;(refine z1n hr ?_))|refine z01 ?_|refine fk (fun _=>?_) (fun _=>?_))
    all_goals try (exfalso;first|omega|(simp at *;done))
    all_goals exact z00 ih' rfl rfl
 · obtain rfl:n=W.length:=by omega
   rw[zfe,← i2,zqp]
   clear ih
   refine z0z 1000 rfl ?_
   repeat' (first|refine z01 ?_|refine fk (fun _=>?_) (fun _=>?_))
   all_goals try (exfalso;omega)
   all_goals exact z02 Tryz.func23 _ z2j ⟨rfl,rfl⟩
end Go.Proofs.YtmcggompdmngmaaGreatDoor
namespace Go.Proofs.YtmcggompdmngmaaGreatDoor
open Go.Ab Go.Rx Go.Lx Go.Ax
set_option maxHeartbeats 20000000
set_option maxRecDepth 100000
attribute [local irreducible] Run Ops Op1 z0u Val Tr z09 z0q NF Rel z1v z1u z5p
theorem y1l {P:Program} {ty tx ty':TypeId} {x y:Operand} {k:IntKind} {a b c:Int} (ha:0≤a) (hb:0<b) (he:a % b=c):Val P (.binOp .rem tx x y ty') ty [(x,I k a),(y,I k b)] [] (I k c):=by subst he;exact zvj ha hb
theorem zfl {P:Program} {ty tx ty':TypeId} {x y:Operand} {ti:TI} {a b c:Bool} [ht:z0j P tx ti] (hk:ti.kind=.bool) (hc:decide (a=b)=c):Val P (.binOp .eql tx x y ty') ty [(x,B a),(y,B b)] [] (B c):=by subst hc;exact zsd hk
theorem y2z (τ:Tab) (v:List ByteArray) (hv:v.length≤9223372036854775807) (n:Int) (n0:0≤n) (n1:n≤255) (t:ByteArray):z0q Tryz.prog 5 [.d (.slice (v.map stc)),.d (.lit (.int .u8 n)),S t] (zpf τ 0) [] (B true):=by
 refine z0v fun H hH=>?_
 have hX0:=hH ((0,700),.glob 1 τ.o0) (by simp)
 have hX1:=hH ((0,701),.glob 2 τ.o1) (by simp)
 have haw:=y3c τ
 have hlo:=y9c v hv
 refine z06 Tryz.func5 (by kernel_rfl) rfl (by simp) ?_
 dsimp only[Tryz.f5]
 refine z47 700 0 700 hX0 rfl rfl ?_
 refine z47 701 0 701 (z07 hX1 (by simp)) rfl rfl ?_
 by_cases hl:y1y v=true∨20<t.size
 · generalize y1y v=b1 at *
   cases b1
   · by_cases h2:20<t.size
     · repeat' (first|(apply z1k;(refine z08 (zhx rfl) rfl rfl ?_))|(apply z03;(refine z1n hlo ?_))|refine z01 ?_|refine fk (fun _=>?_) (fun _=>?_))
       all_goals exact zD55
     · exact absurd hl (by simp[h2])
   · repeat' (first|(apply z03;(refine z1n hlo ?_))|refine z01 ?_|fail)
     all_goals exact zD55
 rw[not_or,Bool.not_eq_true] at hl
 obtain⟨hl1,hl2⟩:=hl
 have hok:=(y9t hl1).2
 have he:zgd v=0:=by
  simp only[y1y,Bool.or_eq_false_iff,zA5,zA8,zA3] at hl1
  exact hl1.2
 have hb:=y4z v hok he
 have hW:=y7v hok
 have hWl:=hW.len
 rw[zqf] at hb
 rw[hl1] at hlo
 obtain⟨k,hk,hk16⟩:∃ k:Nat,n % 16=(k:Nat)∧k<16:=⟨(n % 16).toNat,by omega,by omega⟩
 have h0:=ydc k hk16
 have hf:=ydl (k:Nat)
 have s1:=zol (X:=28) (wds v) ((wds v).map (z5s v)) (znl (wds v)) hW (eK (k:Nat)) hf 0
 rw[y62,zAz h0] at s1
 have s2:=zwx (wds v) (.slice (((wds v).map (z5s v)).map nmc)) hW (eK (k:Nat)) hf h0
 have t1:=zk9 (zfe (fun i=>mtS (fun c=>[c]) (eK (k:Nat)) (wd (wds v) i)) (wds v).length) (zfe (fun i=>mtS (fun c=>[c]) (eK (k:Nat)) (wd (wds v) i)) (wds v).length) (by have:=(y3r (fun i=>mtS (fun c=>[c]) (eK (k:Nat)) (wd (wds v) i)) (n:=(wds v).length) (by have:=hok.few;omega)).len;omega)
 rw[zAi rfl] at t1
 have m1:=znd (eK (k:Nat)) hf t (by omega)
 have m2:=zj0 (eK (k:Nat)) hf t (by omega)
 rw[zqm] at m2
 have q1:=zin (eK (k:Nat)) hf h0
 generalize zfe (fun i=>mtS (fun c=>[c]) (eK (k:Nat)) (wd (wds v) i)) (wds v).length=R1 at *
 generalize mtS (fun c=>[c]) (eK (k:Nat)) t=bm at *
 generalize znl (wds v)=rv at *
 generalize (wds v).map (z5s v)=C at *
 generalize wds v=W at *
 rcases Nat.lt_or_ge k 7 with g7|g7
 · obtain⟨a,ha⟩:=zla g7
   rw[ha] at q1
   obtain⟨F,A⟩:=a
   simp only[y5u] at q1
   have hc2:decide (bm=bm)=true:=zAi rfl
   have hc1:decide (decide ((0:Int)=2)=decide (7≤((k:Nat):Int)))=true:=by rw[zAo (show ¬ 7≤((k:Nat):Int) by omega)];rfl
   all_goals exact zD18
 · rw[zl8 g7 hk16] at q1
   simp only[y5u] at q1
   have hc2:decide (bm=bm)=true:=zAi rfl
   have hc1:decide (decide ((2:Int)=2)=decide (7≤((k:Nat):Int)))=true:=by rw[zAi (show 7≤((k:Nat):Int) by omega)];rfl
   all_goals exact zD18
theorem y1o {a:Int} (h:(Lit.int .u8 a).wf=true):0≤a∧a≤255:=by
 simp only[Lit.wf,zA7,zA3] at h
 exact h
theorem y1p (τ:Tab) (v:List ByteArray) (hv:v.length≤9223372036854775807) (n:Int) (hn:(Lit.int .u8 n).wf=true) (t:ByteArray) (ht:True):z0q Tryz.prog 5 [.d (.slice (v.map stc)),I .u8 n,S t] (zpf τ 0) [] (B true) :=
 y2z τ v hv n (y1o hn).1 (y1o hn).2 t
end Go.Proofs.YtmcggompdmngmaaGreatDoor
