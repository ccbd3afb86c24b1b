/- A part of the proof: A40 to A40. -/
import Derived.Test.YthdfkabdoidjfaaGreatDoorUc
import Derived.Test.YthdfkabdoidjfaaGreatDoorU4
import Derived.Test.YthdfkabdoidjfaaGreatDoorU6
import Derived.Test.YthdfkabdoidjfaaGreatDoorUy
set_option linter.all false
namespace Go.Proofs.YthdfkabdoidjfaaGreatDoor
open Go.Ab Go.Ax Go.Rx
set_option maxHeartbeats 20000000
set_option maxRecDepth 100000
def prT (op:Int) (l m:List Arc) (c:Int):Option (Int × Int):=if zdk op (nxt l c) (nxt m c)=true then none else some (nxt l c,nxt m c)
theorem zs1 (op:Int) (l m:List Arc):z5i op l m=zo4 (prT op l m) (z3s l m):=by
 rw[← ze5,z5i]
 congr 1
 funext i
 rw[prE,ztc,prT]
 split <;> rfl
section
variable {op:Int} {l m:List Arc}
theorem zq3 (hl:∀ x∈l,0≤x.1∧x.1≤x.2.1∧x.2.1≤1114111) (hm:∀ x∈m,0≤x.1∧x.1≤x.2.1∧x.2.1≤1114111) :
 (z3s l m).Pairwise (· <·)∧(∀ z∈z3s l m,0≤z∧z≤1114112)∧0∈z3s l m∧1114112∈z3s l m∧(∀ x∈l,x.1∈z3s l m∧x.2.1+1∈z3s l m)∧∀ x∈m,x.1∈z3s l m∧x.2.1+1∈z3s l m:=by
 have h:=zfe (Go.Ax.zan (z3w [z3a l,z3a m]))
 have hm':∀ z,z∈z3s l m↔z∈z3w [z3a l,z3a m]:=fun z=>by
  rw[z3s,z84,h.2 z,(Go.Ax.z7z _).mem_iff]
 have hin:∀ r∈[z3a l,z3a m],∀ x∈r,x.1∈z3w [z3a l,z3a m]∧x.2+1∈z3w [z3a l,z3a m]:=fun r hr x hx=>by
  constructor
  all_goals rw[z3w,zAt,List.mem_flatMap]
  all_goals refine .inr ⟨r,hr,?_⟩
  all_goals rw[ends,List.mem_flatMap]
  all_goals refine⟨x,hx,?_⟩
  all_goals simp
 refine⟨h.1,z97 (zp8 hl hm),(hm' 0).2 (by simp[z3w]),(hm' 1114112).2 (by simp[z3w]),fun x hx=>?_,fun x hx=>?_⟩
 · have:=hin (z3a l) (by simp) (x.1,x.2.1) (List.mem_map.2 ⟨x,hx,rfl⟩)
   exact⟨(hm' _).2 this.1,(hm' _).2 this.2⟩
 · have:=hin (z3a m) (by simp) (x.1,x.2.1) (List.mem_map.2 ⟨x,hx,rfl⟩)
   exact⟨(hm' _).2 this.1,(hm' _).2 this.2⟩
theorem y13 (hl:∀ x∈l,0≤x.1∧x.1≤x.2.1∧x.2.1≤1114111) (hm:∀ x∈m,0≤x.1∧x.1≤x.2.1∧x.2.1≤1114111) :
 okE 0 (z5i op l m)∧∀ c,kx (z5i op l m) c=if 0≤c∧c≤1114111 then prT op l m c else none:=by
 obtain⟨h1,h2,h3,h4,h5,h6⟩:=zq3 hl hm
 rw[zs1]
 refine⟨zi8 h1 h2,fun c=>?_⟩
 by_cases g:0≤c∧c≤1114111
 · rw[zAz g]
   refine(zym h1 fun p hp hpc hy=>?_).1 0 h3 g.1 ⟨_,h4,by omega⟩
   have e1:=z8r (l:=l) (fun x hx=>⟨(hl x hx).2.2,(h5 x hx).1,fun _=>(h5 x hx).2⟩) hpc g.2 hy
   have e2:=z8r (l:=m) (fun x hx=>⟨(hm x hx).2.2,(h6 x hx).1,fun _=>(h6 x hx).2⟩) hpc g.2 hy
   rw[prT,prT,e1,e2]
 · rw[zAy g]
   have hk:=zi8 (f:=prT op l m) h1 h2
   cases e:kx (zo4 (prT op l m) (z3s l m)) c with
   | none=>rfl
   | some k=>exact absurd (zkv hk e) g
end
theorem zuj {op p q:Int} {a b:Au} (w:List Int) (h:zdk op p q=true):zam op (a.acc p w) (b.acc q w)=false:=by
 rw[zdk] at h
 rw[zam]
 by_cases h1:op=1
 · rw[zAz h1] at h ⊢
   rw[zAu,zA3,zA3] at h
   rcases h with h|h
   · rw[a.acc_neg w h];rfl
   · rw[b.acc_neg w h,Bool.and_false]
 · rw[zAy h1] at h ⊢
   by_cases h3:op=3
   · rw[zAz h3] at h
     rw[zAy (by omega),zAz h3,a.acc_neg w (by simpa using h)];rfl
   · rw[zAy h3,zA7,zA3,zA3] at h
     rw[a.acc_neg w h.1,b.acc_neg w h.2,zAy h3]
     split <;> rfl
section
variable {a b:Au} (ha:AuW a) (hb:AuW b) (op:Int)
include ha hb
theorem zic (k:Int × Int):okE 0 (z5i op (a.arcs k.1) (b.arcs k.2))∧∀ c,kx (z5i op (a.arcs k.1) (b.arcs k.2)) c=if 0≤c∧c≤1114111 then prT op (a.arcs k.1) (b.arcs k.2) c else none :=
 y13 (fun x hx=>by have:=(ha.arcs k.1).2 x hx;omega) (fun x hx=>by have:=(hb.arcs k.2).2 x hx;omega)
theorem zkg:∀ (w:List Int) (p q:Int),zdo (fun k=>zam op (a.fin k.1) (b.fin k.2)) (fun k=>z5i op (a.arcs k.1) (b.arcs k.2)) (some (p,q)) w=(vld w&&zam op (a.acc p w) (b.acc q w))
 | [],p,q=>by rw[zdo,Au.acc_nil,Au.acc_nil];rfl
 | c::w,p,q=>by
  rw[zdo,(zic ha hb op (p,q)).2 c]
  have hv:vld (c::w)=((decide (0≤c)&&decide (c≤1114111))&&vld w):=rfl
  rw[hv,Au.acc_cons,Au.acc_cons]
  by_cases g:0≤c∧c≤1114111
  · rw[zAz g,zAi g.1,zAi g.2,prT]
    change zdo _ _ (if zdk op (a.nx p c) (b.nx q c)=true then none else some (a.nx p c,b.nx q c)) w=_
    by_cases u:zdk op (a.nx p c) (b.nx q c)=true
    · rw[zAz u,zuj w u,Bool.and_false];cases w <;> rfl
    · rw[zAy u,zkg w];rfl
  · rw[zAy g]
    have:(decide (0≤c)&&decide (c≤1114111))=false:=by
     by_cases g0:0≤c
     · rw[zAo (show ¬ c≤1114111 from fun g1=>g ⟨g0,g1⟩),Bool.and_false]
     · rw[zAo g0];rfl
    rw[this];cases w <;> rfl
theorem zsy (hs:(a.F.length+1)*(b.F.length+1)≤1048576):∃ x,zf8 a.F b.F a.A b.A op=some x∧AuW x∧x.F.length≤(a.F.length+1)*(b.F.length+1)∧∀ w,x.acc 0 w=(vld w&&zam op (a.acc 0 w) (b.acc 0 w)):=by
 have p1:=ha.pos
 have p2:=hb.pos
 have he:∀ k:Int × Int,okE 0 (z5i op (a.arcs k.1) (b.arcs k.2)):=fun k=>(zic ha hb op k).1
 have hc:∀ k:Int × Int,zo8 a b k→∀ c k',kx (z5i op (a.arcs k.1) (b.arcs k.2)) c=some k'→zo8 a b k':=fun k _ c k' e=>by
  rw[(zic ha hb op k).2 c] at e
  split at e
  · rw[prT] at e
    split at e
    · cases e
    · simp only[zAh] at e
      subst e
      have h1:=ha.nx k.1 c
      have h2:=hb.nx k.2 c
      exact⟨h1.1,h1.2,h2.1,h2.2⟩
  · cases e
 have h0:zo8 a b (0,0):=⟨by decide,by simp only;omega,by decide,by simp only;omega⟩
 have hfew:∀ l:List (Int × Int),l.Nodup→(∀ x∈l,zo8 a b x)→l.length≤(a.F.length+1)*(b.F.length+1):=fun l h1 h2=>zou h1 h2
 obtain⟨x,hx⟩:=z9c (fin:=fun k:Int × Int=>zam op (a.fin k.1) (b.fin k.2)) (edg:=fun k=>z5i op (a.arcs k.1) (b.arcs k.2)) (lim:=1048576) he h0 hc (fun l h1 h2=>Nat.le_trans (hfew l h1 h2) hs) 1048577 0 _ _ (zyh _ _ _) (by omega)
 obtain⟨ks,hk⟩:=zgv he _ _ _ _ x (zyh _ _ _) hx
 refine⟨x,hx,y6c hk he,zm5 hk h0 hc hfew,fun w=>?_⟩
 have:=zav hk w 0 _ hk.hd
 rw[zkg ha hb op w] at this
 exact this
end
end Go.Proofs.YthdfkabdoidjfaaGreatDoor
