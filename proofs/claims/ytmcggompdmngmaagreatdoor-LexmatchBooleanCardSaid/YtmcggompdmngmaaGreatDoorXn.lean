/- A part. -/
import Derived.Test.YtmcggompdmngmaaGreatDoorX6
set_option linter.all false
namespace Go.Proofs.YtmcggompdmngmaaGreatDoor
open Go.Ab Go.Ax Go.Rx
set_option maxHeartbeats 20000000
set_option maxRecDepth 100000
def prT(op:Int)(l m:List Arc)(c:Int):Option (Int × Int):=if zf9 op (nxt l c) (nxt m c)=true then none else some (nxt l c,nxt m c)
theorem zvy(op:Int)(l m:List Arc):z6q op l m=zqx (prT op l m) (z4c l m):=by
 rw[←zfx,z6q]
 congr 1
 funext i
 rw[prE,zwg,prT]
 split <;> rfl
section
variable{op:Int}{l m:List Arc}
theorem zwc(hl:∀x∈l,0≤x.1∧x.1≤x.2.1∧x.2.1≤1114111)(hm:∀x∈m,0≤x.1∧x.1≤x.2.1∧x.2.1≤1114111) :
 (z4c l m).Pairwise (· <·)∧(∀z∈z4c l m,0≤z∧z≤1114112)∧0∈z4c l m∧1114112∈z4c l m∧(∀x∈l,x.1∈z4c l m∧x.2.1+1∈z4c l m)∧∀x∈m,x.1∈z4c l m∧x.2.1+1∈z4c l m:=by
 have h:=zhg (Go.Ax.zan (z4j [z5f l,z5f m]))
 have hm':∀z,z∈z4c l m↔z∈z4j [z5f l,z5f m]:=fun z=>by
  rw[z4c,z8o,h.2 z,(Go.Ax.z8c _).mem_iff]
 have hin:∀r∈[z5f l,z5f m],∀x∈r,x.1∈z4j [z5f l,z5f m]∧x.2+1∈z4j [z5f l,z5f m]:=fun r hr x hx=>by
  constructor
  all_goals rw[z4j,zAt,List.mem_flatMap]
  all_goals refine .inr ⟨r,hr,?_⟩
  all_goals rw[ends,List.mem_flatMap]
  all_goals refine⟨x,hx,?_⟩
  all_goals simp
 refine⟨h.1,za2 (ztu hl hm),(hm' 0).2 (by simp[z4j]),(hm' 1114112).2 (by simp[z4j]),fun x hx=>?_,fun x hx=>?_⟩
 ·have:=hin (z5f l) (by simp) (x.1,x.2.1) (List.mem_map.2 ⟨x,hx,rfl⟩)
  exact⟨(hm' _).2 this.1,(hm' _).2 this.2⟩
 ·have:=hin (z5f m) (by simp) (x.1,x.2.1) (List.mem_map.2 ⟨x,hx,rfl⟩)
  exact⟨(hm' _).2 this.1,(hm' _).2 this.2⟩
theorem y38(hl:∀x∈l,0≤x.1∧x.1≤x.2.1∧x.2.1≤1114111)(hm:∀x∈m,0≤x.1∧x.1≤x.2.1∧x.2.1≤1114111) :
 okE 0 (z6q op l m)∧∀c,kx (z6q op l m) c=if 0≤c∧c≤1114111 then prT op l m c else none:=by
 obtain⟨h1,h2,h3,h4,h5,h6⟩:=zwc hl hm
 rw[zvy]
 refine⟨zmh h1 h2,fun c=>?_⟩
 by_cases g:0≤c∧c≤1114111
 ·rw[zAz g]
  refine(y1o h1 fun p hp hpc hy=>?_).1 0 h3 g.1 ⟨_,h4,by omega⟩
  have e1:=zdb (l:=l) (fun x hx=>⟨(hl x hx).2.2,(h5 x hx).1,fun _=>(h5 x hx).2⟩) hpc g.2 hy
  have e2:=zdb (l:=m) (fun x hx=>⟨(hm x hx).2.2,(h6 x hx).1,fun _=>(h6 x hx).2⟩) hpc g.2 hy
  rw[prT,prT,e1,e2]
 ·rw[zAy g]
  have hk:=zmh (f:=prT op l m) h1 h2
  cases e:kx (zqx (prT op l m) (z4c l m)) c with
  | none=>rfl
  | some k=>exact absurd (zop hk e) g
end
theorem zy3{op p q:Int}{a b:Au}(w:List Int)(h:zf9 op p q=true):z7w op (a.acc p w) (b.acc q w)=false:=by
 rw[zf9]at h
 rw[z7w]
 by_cases h1:op=1
 ·rw[zAz h1]at h⊢
  rw[zAu,zA3,zA3]at h
  rcases h with h|h
  ·rw[a.acc_neg w h];rfl
  ·rw[b.acc_neg w h,Bool.and_false]
 ·rw[zAy h1]at h⊢
  by_cases h3:op=3
  ·rw[zAz h3]at h
   rw[zAy (by omega),zAz h3,a.acc_neg w (by simpa using h)];rfl
  ·rw[zAy h3,zA7,zA3,zA3]at h
   rw[a.acc_neg w h.1,b.acc_neg w h.2,zAy h3]
   split <;> rfl
section
variable{a b:Au}(ha:AuW a)(hb:AuW b)(op:Int)
include ha hb
theorem zm9(k:Int × Int):okE 0 (z6q op (a.arcs k.1) (b.arcs k.2))∧∀c,kx (z6q op (a.arcs k.1) (b.arcs k.2)) c=if 0≤c∧c≤1114111 then prT op (a.arcs k.1) (b.arcs k.2) c else none :=
 y38 (fun x hx=>by have:=(ha.arcs k.1).2 x hx;omega) fun x hx=>by have:=(hb.arcs k.2).2 x hx;omega
theorem znu:∀(w:List Int) (p q:Int),zku (fun k=>z7w op (a.fin k.1) (b.fin k.2)) (fun k=>z6q op (a.arcs k.1) (b.arcs k.2)) (some (p,q)) w=(vld w&&z7w op (a.acc p w) (b.acc q w))
 | [],p,q=>by rw[zku,Au.acc_nil,Au.acc_nil];rfl
 | c::w,p,q=>by
  rw[zku,(zm9 ha hb op (p,q)).2 c]
  have hv:vld (c::w)=((decide (0≤c)&&decide (c≤1114111))&&vld w):=rfl
  rw[hv,Au.acc_cons,Au.acc_cons]
  by_cases g:0≤c∧c≤1114111
  ·rw[zAz g,zAi g.1,zAi g.2,prT]
   change zku _ _ (if zf9 op (a.nx p c) (b.nx q c)=true then none else some (a.nx p c,b.nx q c)) w=_
   by_cases u:zf9 op (a.nx p c) (b.nx q c)=true
   ·rw[zAz u,zy3 w u,Bool.and_false];cases w <;> rfl
   ·rw[zAy u,znu w];rfl
  ·rw[zAy g]
   have:(decide (0≤c)&&decide (c≤1114111))=false:=by
    exact zD106
   rw[this];cases w <;> rfl
theorem zub(hs:(a.F.length+1)*(b.F.length+1)≤1048576):∃x,zj2 a.F b.F a.A b.A op=some x∧AuW x∧x.F.length≤(a.F.length+1)*(b.F.length+1)∧∀w,x.acc 0 w=(vld w&&z7w op (a.acc 0 w) (b.acc 0 w)):=by
 have p1:=ha.pos
 have p2:=hb.pos
 have he:∀k:Int × Int,okE 0 (z6q op (a.arcs k.1) (b.arcs k.2)):=fun k=>(zm9 ha hb op k).1
 have hc:∀k:Int × Int,zyr a b k→∀c k',kx (z6q op (a.arcs k.1) (b.arcs k.2)) c=some k'→zyr a b k':=fun k _ c k' e=>by
  rw[(zm9 ha hb op k).2 c]at e
  split at e
  ·rw[prT]at e
   split at e
   ·cases e
   ·simp only[zAh]at e
    subst e
    have h1:=ha.nx k.1 c
    have h2:=hb.nx k.2 c
    exact⟨h1.1,h1.2,h2.1,h2.2⟩
  ·cases e
 have h0:zyr a b (0,0):=⟨by decide,by simp only;omega,by decide,by simp only;omega⟩
 have hfew:∀l:List (Int × Int),l.Nodup→(∀x∈l,zyr a b x)→l.length≤(a.F.length+1)*(b.F.length+1):=fun l h1 h2=>y89 h1 h2
 obtain⟨x,hx⟩:=zhe (fin:=fun k:Int × Int=>z7w op (a.fin k.1) (b.fin k.2)) (edg:=fun k=>z6q op (a.arcs k.1) (b.arcs k.2)) (lim:=1048576) he h0 hc (fun l h1 h2=>Nat.le_trans (hfew l h1 h2) hs) 1048577 0 _ _ (yb3 _ _ _) (by omega)
 obtain⟨ks,hk⟩:=zre he _ _ _ _ x (yb3 _ _ _) hx
 refine⟨x,hx,ydc hk he,y2f hk h0 hc hfew,fun w=>?_⟩
 have:=zg5 hk w 0 _ hk.hd
 rw[znu ha hb op w]at this
 exact this
theorem zxh(hs:(a.F.length+1)*(b.F.length+1)≤256):∃x m,zj2 a.F b.F a.A b.A op=some x∧zfy x.F x.A∧yb5 a b op=some m∧Nrm m∧AuW m∧m.F.length≤(a.F.length+1)*(b.F.length+1)∧∀w,m.acc 0 w=(vld w&&z7w op (a.acc 0 w) (b.acc 0 w)):=by
 obtain⟨x,x1,x2,x3,x4⟩:=zub ha hb op (by omega)
 obtain⟨m,m1,m2,m3,m4,m5⟩:=ztb x2 (by omega)
 exact⟨x,m,x1,zvl x2 (by omega),by rw[yb5,x1,Option.bind_some,m1],m2,m3,Nat.le_trans m4 x3,fun w=>by rw[m5,x4]⟩
end
end Go.Proofs.YtmcggompdmngmaaGreatDoor
