/- A part of the proof: A40 to A40. -/
import Derived.Test.YthdfkabdoidjfaaGreatDoorS4
import Derived.Test.YthdfkabdoidjfaaGreatDoorS6
import Derived.Test.YthdfkabdoidjfaaGreatDoorSy
set_option linter.all false
namespace Go.Proofs.YthdfkabdoidjfaaGreatDoor
open Go.Ab Go.Ax Go.Rx
set_option maxHeartbeats 20000000
set_option maxRecDepth 100000
def prT (op:Int) (l m:List Arc) (c:Int):Option (Int × Int):=if zed op (nxt l c) (nxt m c)=true then none else some (nxt l c,nxt m c)
theorem zrd (op:Int) (l m:List Arc):z6h op l m=znx (prT op l m) (z4y l m):=by
 rw[← zey,z6h]
 congr 1
 funext i
 rw[prE,zto,prT]
 split <;> rfl
section
variable {op:Int} {l m:List Arc}
theorem zrb (hl:∀ x∈l,0≤x.1∧x.1≤x.2.1∧x.2.1≤1114111) (hm:∀ x∈m,0≤x.1∧x.1≤x.2.1∧x.2.1≤1114111) :
 (z4y l m).Pairwise (· <·)∧(∀ z∈z4y l m,0≤z∧z≤1114112)∧0∈z4y l m∧1114112∈z4y l m∧(∀ x∈l,x.1∈z4y l m∧x.2.1+1∈z4y l m)∧∀ x∈m,x.1∈z4y l m∧x.2.1+1∈z4y l m:=by
 have h:=zgh (Go.Ax.zb5 (z5d [z5j l,z5j m]))
 have hm':∀ z,z∈z4y l m↔z∈z5d [z5j l,z5j m]:=fun z=>by
  rw[z4y,z98,h.2 z,(Go.Ax.z8v _).mem_iff]
 have hin:∀ r∈[z5j l,z5j m],∀ x∈r,x.1∈z5d [z5j l,z5j m]∧x.2+1∈z5d [z5j l,z5j m]:=fun r hr x hx=>by
  constructor
  all_goals rw[z5d,zAt,List.mem_flatMap]
  all_goals refine .inr ⟨r,hr,?_⟩
  all_goals rw[ends,List.mem_flatMap]
  all_goals refine⟨x,hx,?_⟩
  all_goals simp
 refine⟨h.1,za0 (zrc hl hm),(hm' 0).2 (by simp[z5d]),(hm' 1114112).2 (by simp[z5d]),fun x hx=>?_,fun x hx=>?_⟩
 · have:=hin (z5j l) (by simp) (x.1,x.2.1) (List.mem_map.2 ⟨x,hx,rfl⟩)
   exact⟨(hm' _).2 this.1,(hm' _).2 this.2⟩
 · have:=hin (z5j m) (by simp) (x.1,x.2.1) (List.mem_map.2 ⟨x,hx,rfl⟩)
   exact⟨(hm' _).2 this.1,(hm' _).2 this.2⟩
theorem y05 (hl:∀ x∈l,0≤x.1∧x.1≤x.2.1∧x.2.1≤1114111) (hm:∀ x∈m,0≤x.1∧x.1≤x.2.1∧x.2.1≤1114111) :
 okE 0 (z6h op l m)∧∀ c,kx (z6h op l m) c=if 0≤c∧c≤1114111 then prT op l m c else none:=by
 obtain⟨h1,h2,h3,h4,h5,h6⟩:=zrb hl hm
 rw[zrd]
 refine⟨zkl h1 h2,fun c=>?_⟩
 by_cases g:0≤c∧c≤1114111
 · rw[zAz g]
   refine(zx2 h1 fun p hp hpc hy=>?_).1 0 h3 g.1 ⟨_,h4,by omega⟩
   have e1:=zdd (l:=l) (fun x hx=>⟨(hl x hx).2.2,(h5 x hx).1,fun _=>(h5 x hx).2⟩) hpc g.2 hy
   have e2:=zdd (l:=m) (fun x hx=>⟨(hm x hx).2.2,(h6 x hx).1,fun _=>(h6 x hx).2⟩) hpc g.2 hy
   rw[prT,prT,e1,e2]
 · rw[zAy g]
   have hk:=zkl (f:=prT op l m) h1 h2
   cases e:kx (znx (prT op l m) (z4y l m)) c with
   | none=>rfl
   | some k=>exact absurd (zne hk e) g
end
theorem zva {op p q:Int} {a b:Au} (w:List Int) (h:zed op p q=true):z4t op (a.acc p w) (b.acc q w)=false:=by
 rw[zed] at h
 rw[z4t]
 by_cases h1:op=1
 · rw[zAz h1] at h ⊢
   rw[zAu,zA3,zA3] at h
   rcases h with h|h
   · rw[a.acc_neg w h];rfl
   · rw[b.acc_neg w h,Bool.and_false]
 · rw[zAy h1] at h ⊢
   by_cases h3:op=3
   · rw[zAz h3] at h
     rw[zAy (by omega),zAz h3,a.acc_neg w (by simpa using h)];rfl
   · rw[zAy h3,zA7,zA3,zA3] at h
     rw[a.acc_neg w h.1,b.acc_neg w h.2,zAy h3]
     split <;> rfl
section
variable {a b:Au} (ha:AuW a) (hb:AuW b) (op:Int)
include ha hb
theorem zjh (k:Int × Int):okE 0 (z6h op (a.arcs k.1) (b.arcs k.2))∧∀ c,kx (z6h op (a.arcs k.1) (b.arcs k.2)) c=if 0≤c∧c≤1114111 then prT op (a.arcs k.1) (b.arcs k.2) c else none :=
 y05 (fun x hx=>by have:=(ha.arcs k.1).2 x hx;omega) (fun x hx=>by have:=(hb.arcs k.2).2 x hx;omega)
theorem znh:∀ (w:List Int) (p q:Int),zhb (fun k=>z4t op (a.fin k.1) (b.fin k.2)) (fun k=>z6h op (a.arcs k.1) (b.arcs k.2)) (some (p,q)) w=(vld w&&z4t op (a.acc p w) (b.acc q w))
 | [],p,q=>by rw[zhb,Au.acc_nil,Au.acc_nil];rfl
 | c::w,p,q=>by
  rw[zhb,(zjh ha hb op (p,q)).2 c]
  have hv:vld (c::w)=((decide (0≤c)&&decide (c≤1114111))&&vld w):=rfl
  rw[hv,Au.acc_cons,Au.acc_cons]
  by_cases g:0≤c∧c≤1114111
  · rw[zAz g,zAi g.1,zAi g.2,prT]
    change zhb _ _ (if zed op (a.nx p c) (b.nx q c)=true then none else some (a.nx p c,b.nx q c)) w=_
    by_cases u:zed op (a.nx p c) (b.nx q c)=true
    · rw[zAz u,zva w u,Bool.and_false];cases w <;> rfl
    · rw[zAy u,znh w];rfl
  · rw[zAy g]
    have:(decide (0≤c)&&decide (c≤1114111))=false:=by
     exact zD100
    rw[this];cases w <;> rfl
theorem zhs (hs:(a.F.length+1)*(b.F.length+1)≤1048576):∃ x,zee a.F b.F a.A b.A op=some x∧AuW x∧x.F.length≤(a.F.length+1)*(b.F.length+1)∧∀ w,x.acc 0 w=(vld w&&z4t op (a.acc 0 w) (b.acc 0 w)):=by
 have p1:=ha.pos
 have p2:=hb.pos
 have he:∀ k:Int × Int,okE 0 (z6h op (a.arcs k.1) (b.arcs k.2)):=fun k=>(zjh ha hb op k).1
 have hc:∀ k:Int × Int,zv0 a b k→∀ c k',kx (z6h op (a.arcs k.1) (b.arcs k.2)) c=some k'→zv0 a b k':=fun k _ c k' e=>by
  rw[(zjh ha hb op k).2 c] at e
  split at e
  · rw[prT] at e
    split at e
    · cases e
    · simp only[zAh] at e
      subst e
      have h1:=ha.nx k.1 c
      have h2:=hb.nx k.2 c
      exact⟨h1.1,h1.2,h2.1,h2.2⟩
  · cases e
 have h0:zv0 a b (0,0):=⟨by decide,by simp only;omega,by decide,by simp only;omega⟩
 have hfew:∀ l:List (Int × Int),l.Nodup→(∀ x∈l,zv0 a b x)→l.length≤(a.F.length+1)*(b.F.length+1):=fun l h1 h2=>zyg h1 h2
 obtain⟨x,hx⟩:=zcn (fin:=fun k:Int × Int=>z4t op (a.fin k.1) (b.fin k.2)) (edg:=fun k=>z6h op (a.arcs k.1) (b.arcs k.2)) (lim:=1048576) he h0 hc (fun l h1 h2=>Nat.le_trans (hfew l h1 h2) hs) 1048577 0 _ _ (y1t _ _ _) (by omega)
 obtain⟨ks,hk⟩:=zm2 he _ _ _ _ x (y1t _ _ _) hx
 refine⟨x,hx,y5o hk he,zsb hk h0 hc hfew,fun w=>?_⟩
 have:=ze9 hk w 0 _ hk.hd
 rw[znh ha hb op w] at this
 exact this
theorem zwd (hs:(a.F.length+1)*(b.F.length+1)≤256):∃ x m,zee a.F b.F a.A b.A op=some x∧zc4 x.F x.A∧y53 a b op=some m∧Nrm m∧AuW m∧m.F.length≤(a.F.length+1)*(b.F.length+1)∧∀ w,m.acc 0 w=(vld w&&z4t op (a.acc 0 w) (b.acc 0 w)):=by
 obtain⟨x,x1,x2,x3,x4⟩:=zhs ha hb op (by omega)
 obtain⟨m,m1,m2,m3,m4,m5⟩:=zhr x2 (by omega)
 exact⟨x,m,x1,zbp x2 (by omega),by rw[y53,x1,Option.bind_some,m1],m2,m3,Nat.le_trans m4 x3,fun w=>by rw[m5,x4]⟩
end
end Go.Proofs.YthdfkabdoidjfaaGreatDoor
