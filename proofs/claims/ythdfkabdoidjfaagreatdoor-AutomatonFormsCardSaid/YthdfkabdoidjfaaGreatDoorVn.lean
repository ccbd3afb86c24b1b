/- A part of the proof: A40 to A40. -/
import Derived.Test.YthdfkabdoidjfaaGreatDoorV4
import Derived.Test.YthdfkabdoidjfaaGreatDoorV6
import Derived.Test.YthdfkabdoidjfaaGreatDoorVy
set_option linter.all false
namespace Go.Proofs.YthdfkabdoidjfaaGreatDoor
open Go.Ab Go.Ax Go.Rx
set_option maxHeartbeats 20000000
set_option maxRecDepth 100000
def prT (op:Int) (l m:List Arc) (c:Int):Option (Int × Int):=if zeh op (nxt l c) (nxt m c)=true then none else some (nxt l c,nxt m c)
theorem zsb (op:Int) (l m:List Arc):z6p op l m=zkb (prT op l m) (z4y l m):=by
 rw[← zal,z6p]
 congr 1
 funext i
 rw[prE,zos,prT]
 split <;> rfl
section
variable {op:Int} {l m:List Arc}
theorem zpq (hl:∀ x∈l,0≤x.1∧x.1≤x.2.1∧x.2.1≤1114111) (hm:∀ x∈m,0≤x.1∧x.1≤x.2.1∧x.2.1≤1114111) :
 (z4y l m).Pairwise (· <·)∧(∀ z∈z4y l m,0≤z∧z≤1114112)∧0∈z4y l m∧1114112∈z4y l m∧(∀ x∈l,x.1∈z4y l m∧x.2.1+1∈z4y l m)∧∀ x∈m,x.1∈z4y l m∧x.2.1+1∈z4y l m:=by
 have h:=zdg (Go.Ax.z9f (z4g [z5k l,z5k m]))
 have hm':∀ z,z∈z4y l m↔z∈z4g [z5k l,z5k m]:=fun z=>by
  rw[z4y,z7z,h.2 z,(Go.Ax.z7j _).mem_iff]
 have hin:∀ r∈[z5k l,z5k m],∀ x∈r,x.1∈z4g [z5k l,z5k m]∧x.2+1∈z4g [z5k l,z5k m]:=fun r hr x hx=>by
  exact zD93
 refine⟨h.1,z8r (zrq hl hm),(hm' 0).2 (by simp[z4g]),(hm' 1114112).2 (by simp[z4g]),fun x hx=>?_,fun x hx=>?_⟩
 · have:=hin (z5k l) (by simp) (x.1,x.2.1) (List.mem_map.2 ⟨x,hx,rfl⟩)
   exact⟨(hm' _).2 this.1,(hm' _).2 this.2⟩
 · have:=hin (z5k m) (by simp) (x.1,x.2.1) (List.mem_map.2 ⟨x,hx,rfl⟩)
   exact⟨(hm' _).2 this.1,(hm' _).2 this.2⟩
theorem zy2 (hl:∀ x∈l,0≤x.1∧x.1≤x.2.1∧x.2.1≤1114111) (hm:∀ x∈m,0≤x.1∧x.1≤x.2.1∧x.2.1≤1114111) :
 okE 0 (z6p op l m)∧∀ c,kx (z6p op l m) c=if 0≤c∧c≤1114111 then prT op l m c else none:=by
 obtain⟨h1,h2,h3,h4,h5,h6⟩:=zpq hl hm
 rw[zsb]
 refine⟨zd6 h1 h2,fun c=>?_⟩
 by_cases g:0≤c∧c≤1114111
 · rw[zAz g]
   refine(zrl h1 fun p hp hpc hy=>?_).1 0 h3 g.1 ⟨_,h4,by omega⟩
   have e1:=zds (l:=l) (fun x hx=>⟨(hl x hx).2.2,(h5 x hx).1,fun _=>(h5 x hx).2⟩) hpc g.2 hy
   have e2:=zds (l:=m) (fun x hx=>⟨(hm x hx).2.2,(h6 x hx).1,fun _=>(h6 x hx).2⟩) hpc g.2 hy
   rw[prT,prT,e1,e2]
 · rw[zAy g]
   have hk:=zd6 (f:=prT op l m) h1 h2
   cases e:kx (zkb (prT op l m) (z4y l m)) c with
   | none=>rfl
   | some k=>exact absurd (ziz hk e) g
end
theorem ztw {op p q:Int} {a b:Au} (w:List Int) (h:zeh op p q=true):zbc op (a.acc p w) (b.acc q w)=false:=by
 rw[zeh] at h
 rw[zbc]
 by_cases h1:op=1
 · rw[zAz h1] at h ⊢
   rw[zAu,zA3,zA3] at h
   rcases h with h|h
   · rw[a.acc_neg w h];rfl
   · rw[b.acc_neg w h,Bool.and_false]
 · rw[zAy h1] at h ⊢
   by_cases h3:op=3
   · rw[zAz h3] at h
     rw[zAy (by omega),zAz h3,a.acc_neg w (by simpa using h)];rfl
   · rw[zAy h3,zA7,zA3,zA3] at h
     rw[a.acc_neg w h.1,b.acc_neg w h.2,zAy h3]
     split <;> rfl
section
variable {a b:Au} (ha:AuW a) (hb:AuW b) (op:Int)
include ha hb
theorem zja (k:Int × Int):okE 0 (z6p op (a.arcs k.1) (b.arcs k.2))∧∀ c,kx (z6p op (a.arcs k.1) (b.arcs k.2)) c=if 0≤c∧c≤1114111 then prT op (a.arcs k.1) (b.arcs k.2) c else none :=
 zy2 (fun x hx=>by have:=(ha.arcs k.1).2 x hx;omega) (fun x hx=>by have:=(hb.arcs k.2).2 x hx;omega)
theorem zl2:∀ (w:List Int) (p q:Int),zc4 (fun k=>zbc op (a.fin k.1) (b.fin k.2)) (fun k=>z6p op (a.arcs k.1) (b.arcs k.2)) (some (p,q)) w=(vld w&&zbc op (a.acc p w) (b.acc q w))
 | [],p,q=>by rw[zc4,Au.acc_nil,Au.acc_nil];rfl
 | c::w,p,q=>by
  rw[zc4,(zja ha hb op (p,q)).2 c]
  have hv:vld (c::w)=((decide (0≤c)&&decide (c≤1114111))&&vld w):=rfl
  rw[hv,Au.acc_cons,Au.acc_cons]
  by_cases g:0≤c∧c≤1114111
  · rw[zAz g,zAi g.1,zAi g.2,prT]
    change zc4 _ _ (if zeh op (a.nx p c) (b.nx q c)=true then none else some (a.nx p c,b.nx q c)) w=_
    by_cases u:zeh op (a.nx p c) (b.nx q c)=true
    · rw[zAz u,ztw w u,Bool.and_false];cases w <;> rfl
    · rw[zAy u,zl2 w];rfl
  · exact zD46
theorem zqj (hs:(a.F.length+1)*(b.F.length+1)≤1048576):∃ x,zfo a.F b.F a.A b.A op=some x∧AuW x∧x.F.length≤(a.F.length+1)*(b.F.length+1)∧∀ w,x.acc 0 w=(vld w&&zbc op (a.acc 0 w) (b.acc 0 w)):=by
 have p1:=ha.pos
 have p2:=hb.pos
 have he:∀ k:Int × Int,okE 0 (z6p op (a.arcs k.1) (b.arcs k.2)):=fun k=>(zja ha hb op k).1
 have hc:∀ k:Int × Int,zud a b k→∀ c k',kx (z6p op (a.arcs k.1) (b.arcs k.2)) c=some k'→zud a b k':=fun k _ c k' e=>by
  rw[(zja ha hb op k).2 c] at e
  split at e
  · rw[prT] at e
    split at e
    · cases e
    · simp only[zAh] at e
      subst e
      have h1:=ha.nx k.1 c
      have h2:=hb.nx k.2 c
      exact⟨h1.1,h1.2,h2.1,h2.2⟩
  · cases e
 have h0:zud a b (0,0):=⟨by decide,by simp only;omega,by decide,by simp only;omega⟩
 have hfew:∀ l:List (Int × Int),l.Nodup→(∀ x∈l,zud a b x)→l.length≤(a.F.length+1)*(b.F.length+1):=fun l h1 h2=>y1x h1 h2
 obtain⟨x,hx⟩:=zcl (fin:=fun k:Int × Int=>zbc op (a.fin k.1) (b.fin k.2)) (edg:=fun k=>z6p op (a.arcs k.1) (b.arcs k.2)) (lim:=1048576) he h0 hc (fun l h1 h2=>Nat.le_trans (hfew l h1 h2) hs) 1048577 0 _ _ (y0i _ _ _) (by omega)
 obtain⟨ks,hk⟩:=zin he _ _ _ _ x (y0i _ _ _) hx
 refine⟨x,hx,y3s hk he,zre hk h0 hc hfew,fun w=>?_⟩
 have:=zbe hk w 0 _ hk.hd
 rw[zl2 ha hb op w] at this
 exact this
end
end Go.Proofs.YthdfkabdoidjfaaGreatDoor
