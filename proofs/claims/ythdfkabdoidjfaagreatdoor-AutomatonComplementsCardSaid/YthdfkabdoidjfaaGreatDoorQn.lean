/- A part of the proof: A40 to A42. -/
import Derived.Test.YthdfkabdoidjfaaGreatDoorQ4
import Derived.Test.YthdfkabdoidjfaaGreatDoorQ6
import Derived.Test.YthdfkabdoidjfaaGreatDoorQy
import Derived.Test.YthdfkabdoidjfaaGreatDoorQ9
import Derived.Test.YthdfkabdoidjfaaGreatDoorQm
set_option linter.all false
namespace Go.Proofs.YthdfkabdoidjfaaGreatDoor
open Go.Ab Go.Ax Go.Rx
set_option maxHeartbeats 20000000
set_option maxRecDepth 100000
def prT (op:Int) (l m:List Arc) (c:Int):Option (Int × Int):=if zea op (nxt l c) (nxt m c)=true then none else some (nxt l c,nxt m c)
theorem zs8 (op:Int) (l m:List Arc):z6k op l m=zo5 (prT op l m) (z4x l m):=by
 rw[← zej,z6k]
 congr 1
 funext i
 rw[prE,zt1,prT]
 split <;> rfl
section
variable {op:Int} {l m:List Arc}
theorem zog (hl:∀ x∈l,0≤x.1∧x.1≤x.2.1∧x.2.1≤1114111) (hm:∀ x∈m,0≤x.1∧x.1≤x.2.1∧x.2.1≤1114111) :
 (z4x l m).Pairwise (· <·)∧(∀ z∈z4x l m,0≤z∧z≤1114112)∧0∈z4x l m∧1114112∈z4x l m∧(∀ x∈l,x.1∈z4x l m∧x.2.1+1∈z4x l m)∧∀ x∈m,x.1∈z4x l m∧x.2.1+1∈z4x l m:=by
 have h:=zg0 (Go.Ax.zb3 (z55 [z4e l,z4e m]))
 have hm':∀ z,z∈z4x l m↔z∈z55 [z4e l,z4e m]:=fun z=>by
  rw[z4x,z96,h.2 z,(Go.Ax.z8r _).mem_iff]
 have hin:∀ r∈[z4e l,z4e m],∀ x∈r,x.1∈z55 [z4e l,z4e m]∧x.2+1∈z55 [z4e l,z4e m]:=fun r hr x hx=>by
  constructor
  all_goals rw[z55,zAt,List.mem_flatMap]
  all_goals refine .inr ⟨r,hr,?_⟩
  all_goals rw[ends,List.mem_flatMap]
  all_goals refine⟨x,hx,?_⟩
  all_goals simp
 refine⟨h.1,zal (zrf hl hm),(hm' 0).2 (by simp[z55]),(hm' 1114112).2 (by simp[z55]),fun x hx=>?_,fun x hx=>?_⟩
 · have:=hin (z4e l) (by simp) (x.1,x.2.1) (List.mem_map.2 ⟨x,hx,rfl⟩)
   exact⟨(hm' _).2 this.1,(hm' _).2 this.2⟩
 · have:=hin (z4e m) (by simp) (x.1,x.2.1) (List.mem_map.2 ⟨x,hx,rfl⟩)
   exact⟨(hm' _).2 this.1,(hm' _).2 this.2⟩
theorem zyp (hl:∀ x∈l,0≤x.1∧x.1≤x.2.1∧x.2.1≤1114111) (hm:∀ x∈m,0≤x.1∧x.1≤x.2.1∧x.2.1≤1114111) :
 okE 0 (z6k op l m)∧∀ c,kx (z6k op l m) c=if 0≤c∧c≤1114111 then prT op l m c else none:=by
 obtain⟨h1,h2,h3,h4,h5,h6⟩:=zog hl hm
 rw[zs8]
 refine⟨zjd h1 h2,fun c=>?_⟩
 by_cases g:0≤c∧c≤1114111
 · rw[zAz g]
   refine(zx3 h1 fun p hp hpc hy=>?_).1 0 h3 g.1 ⟨_,h4,by omega⟩
   have e1:=za5 (l:=l) (fun x hx=>⟨(hl x hx).2.2,(h5 x hx).1,fun _=>(h5 x hx).2⟩) hpc g.2 hy
   have e2:=za5 (l:=m) (fun x hx=>⟨(hm x hx).2.2,(h6 x hx).1,fun _=>(h6 x hx).2⟩) hpc g.2 hy
   rw[prT,prT,e1,e2]
 · rw[zAy g]
   have hk:=zjd (f:=prT op l m) h1 h2
   cases e:kx (zo5 (prT op l m) (z4x l m)) c with
   | none=>rfl
   | some k=>exact absurd (zmc hk e) g
end
theorem zv7 {op p q:Int} {a b:Au} (w:List Int) (h:zea op p q=true):z9e op (a.acc p w) (b.acc q w)=false:=by
 rw[zea] at h
 rw[z9e]
 by_cases h1:op=1
 · rw[zAz h1] at h ⊢
   rw[zAu,zA3,zA3] at h
   rcases h with h|h
   · rw[a.acc_neg w h];rfl
   · rw[b.acc_neg w h,Bool.and_false]
 · rw[zAy h1] at h ⊢
   by_cases h3:op=3
   · rw[zAz h3] at h
     rw[zAy (by omega),zAz h3,a.acc_neg w (by simpa using h)];rfl
   · rw[zAy h3,zA7,zA3,zA3] at h
     rw[a.acc_neg w h.1,b.acc_neg w h.2,zAy h3]
     split <;> rfl
section
variable {a b:Au} (ha:AuW a) (hb:AuW b) (op:Int)
include ha hb
theorem ziu (k:Int × Int):okE 0 (z6k op (a.arcs k.1) (b.arcs k.2))∧∀ c,kx (z6k op (a.arcs k.1) (b.arcs k.2)) c=if 0≤c∧c≤1114111 then prT op (a.arcs k.1) (b.arcs k.2) c else none :=
 zyp (fun x hx=>by have:=(ha.arcs k.1).2 x hx;omega) (fun x hx=>by have:=(hb.arcs k.2).2 x hx;omega)
theorem zmq:∀ (w:List Int) (p q:Int),zfi (fun k=>z9e op (a.fin k.1) (b.fin k.2)) (fun k=>z6k op (a.arcs k.1) (b.arcs k.2)) (some (p,q)) w=(vld w&&z9e op (a.acc p w) (b.acc q w))
 | [],p,q=>by rw[zfi,Au.acc_nil,Au.acc_nil];rfl
 | c::w,p,q=>by
  rw[zfi,(ziu ha hb op (p,q)).2 c]
  have hv:vld (c::w)=((decide (0≤c)&&decide (c≤1114111))&&vld w):=rfl
  rw[hv,Au.acc_cons,Au.acc_cons]
  by_cases g:0≤c∧c≤1114111
  · rw[zAz g,zAi g.1,zAi g.2,prT]
    change zfi _ _ (if zea op (a.nx p c) (b.nx q c)=true then none else some (a.nx p c,b.nx q c)) w=_
    by_cases u:zea op (a.nx p c) (b.nx q c)=true
    · rw[zAz u,zv7 w u,Bool.and_false];cases w <;> rfl
    · rw[zAy u,zmq w];rfl
  · rw[zAy g]
    have:(decide (0≤c)&&decide (c≤1114111))=false:=by
     exact zD87
    rw[this];cases w <;> rfl
theorem zrc (hs:(a.F.length+1)*(b.F.length+1)≤1048576):∃ x,ze5 a.F b.F a.A b.A op=some x∧AuW x∧x.F.length≤(a.F.length+1)*(b.F.length+1)∧∀ w,x.acc 0 w=(vld w&&z9e op (a.acc 0 w) (b.acc 0 w)):=by
 have p1:=ha.pos
 have p2:=hb.pos
 have he:∀ k:Int × Int,okE 0 (z6k op (a.arcs k.1) (b.arcs k.2)):=fun k=>(ziu ha hb op k).1
 have hc:∀ k:Int × Int,zn7 a b k→∀ c k',kx (z6k op (a.arcs k.1) (b.arcs k.2)) c=some k'→zn7 a b k':=fun k _ c k' e=>by
  rw[(ziu ha hb op k).2 c] at e
  split at e
  · rw[prT] at e
    split at e
    · cases e
    · simp only[zAh] at e
      subst e
      have h1:=ha.nx k.1 c
      have h2:=hb.nx k.2 c
      exact⟨h1.1,h1.2,h2.1,h2.2⟩
  · cases e
 have h0:zn7 a b (0,0):=⟨by decide,by simp only;omega,by decide,by simp only;omega⟩
 have hfew:∀ l:List (Int × Int),l.Nodup→(∀ x∈l,zn7 a b x)→l.length≤(a.F.length+1)*(b.F.length+1):=fun l h1 h2=>zrq h1 h2
 obtain⟨x,hx⟩:=zci (fin:=fun k:Int × Int=>z9e op (a.fin k.1) (b.fin k.2)) (edg:=fun k=>z6k op (a.arcs k.1) (b.arcs k.2)) (lim:=1048576) he h0 hc (fun l h1 h2=>Nat.le_trans (hfew l h1 h2) hs) 1048577 0 _ _ (y0t _ _ _) (by omega)
 obtain⟨ks,hk⟩:=zlw he _ _ _ _ x (y0t _ _ _) hx
 refine⟨x,hx,y47 hk he,zpb hk h0 hc hfew,fun w=>?_⟩
 have:=zd7 hk w 0 _ hk.hd
 rw[zmq ha hb op w] at this
 exact this
theorem ztw (hs:(a.F.length+1)*(b.F.length+1)≤256):∃ x m,ze5 a.F b.F a.A b.A op=some x∧zcm x.F x.A∧y3a a b op=some m∧Nrm m∧AuW m∧m.F.length≤(a.F.length+1)*(b.F.length+1)∧∀ w,m.acc 0 w=(vld w&&z9e op (a.acc 0 w) (b.acc 0 w)):=by
 obtain⟨x,x1,x2,x3,x4⟩:=zrc ha hb op (by omega)
 obtain⟨m,m1,m2,m3,m4,m5⟩:=zoj x2 (by omega)
 exact⟨x,m,x1,zrn x2 (by omega),by rw[y3a,x1,Option.bind_some,m1],m2,m3,Nat.le_trans m4 x3,fun w=>by rw[m5,x4]⟩
end
attribute [local irreducible] Run Ops Op1 z2i Val Tr z0z z27 NF Rel z3r z3s
structure Sml (n:Nat) (a:Au):Prop where
 fit:z9f a
 val:vAu a=0
 few:a.F.length≤n
 arc:∀ l∈a.A,l.length≤12
theorem zoh {n m:Nat} {a b:Au} (ha:Sml n a) (hb:Sml m b) (hnm:(n+1)*(m+1)≤256) (op:Int) (h1:1≤op) (h4:op≤4) :
 ∃ c,z0z Tryz.prog 24 [.d (auD a),.d (auD b),I .i64 op] (.tup [.d (auD c),I .i64 0])∧Nrm c∧AuW c∧c.F.length≤(n+1)*(m+1)∧∀ w,c.acc 0 w=(vld w&&z9e op (a.acc 0 w) (b.acc 0 w)):=by
 have wa:=zen ha.val
 have wb:=zen hb.val
 have fa:=ha.few
 have fb:=hb.few
 have hle:(a.F.length+1)*(b.F.length+1)≤(n+1)*(m+1):=Nat.mul_le_mul (by omega) (by omega)
 have la:a.F.length+1≤(a.F.length+1)*(b.F.length+1):=Nat.le_mul_of_pos_right _ (by omega)
 have lb:b.F.length+1≤(a.F.length+1)*(b.F.length+1):=Nat.le_mul_of_pos_left _ (by omega)
 obtain⟨x,c,x1,x2,c1,c2,c3,c4,c5⟩:=ztw wa wb op (by omega)
 have h:=y12 (N:=50) (n:=12) (m:=12) (znc 50 (by decide)) (by decide) a b op ha.fit hb.fit ha.val hb.val h1 h4 (zrn wa (by omega)) (zrn wb (by omega)) ha.arc hb.arc (by decide) (fun y hy=>by rw[x1] at hy;cases hy;exact x2)
 rw[c1,zxf] at h
 exact⟨c,h,c2,c3,by omega,c5⟩
theorem zvy:Sml 1 zo7:=⟨⟨by decide,by decide,by decide⟩,by decide,by decide,by decide⟩
theorem zoy:∀ w:List Int,zo7.acc 0 w=vld w
 | []=>rfl
 | c::w=>by
  rw[Au.acc_cons]
  have e:zo7.nx 0 c=if 0≤c∧c≤1114111 then 0 else -1:=by
   show nxt [(0,1114111,0)] c=_
   rw[nxt,nxt]
  rw[e]
  have hv:vld (c::w)=((decide (0≤c)&&decide (c≤1114111))&&vld w):=rfl
  rw[hv]
  by_cases g:0≤c∧c≤1114111
  · rw[zAz g,zAi g.1,zAi g.2,zoy w];rfl
  · rw[zAy g,Au.acc_neg _ w (by decide)]
    have:(decide (0≤c)&&decide (c≤1114111))=false:=by
     exact zD87
    rw[this];rfl
theorem zpn {n:Nat} {a:Au} (ha:Sml n a) (hn:2*(n+1)≤256) :
 ∃ c,z0z Tryz.prog 26 [.d (auD a)] (.tup [.d (auD c),I .i64 0])∧Nrm c∧AuW c∧c.F.length≤2*(n+1)∧∀ w,c.acc 0 w=(vld w&&!a.acc 0 w):=by
 obtain⟨c,h,c1,c2,c3,c4⟩:=zoh zvy ha hn 3 (by decide) (by decide)
 refine⟨c,zjb a ⟨c,0,rfl⟩ h,c1,c2,c3,fun w=>?_⟩
 rw[c4,z9e,zAy (by decide),zAy (by decide),zAz rfl,zoy]
 cases vld w <;> rfl
theorem zqh (a:Au) (hf:z9f a) (h:vAu a≠0):z0z Tryz.prog 26 [.d (auD a)] zvb :=
 zjb a ⟨⟨[],[]⟩,1,rfl⟩ (zsv zo7 a 3 zvy.fit hf (.inr (.inl h)))
theorem zuq (a b:Au) (op:Int) (hfa:z9f a) (hfb:z9f b) (h:vAu a≠0∨vAu b≠0∨op<1∨4<op):z0z Tryz.prog 25 [.d (auD a),.d (auD b),I .i64 op] zvb:=by
 refine z1l fun H=>?_
 have hva:=z8v a hfa
 have hvb:=z8v b hfb
 generalize vAu a=u at *
 generalize vAu b=v at *
 by_cases h1:u=0
 · subst h1
   by_cases h2:v=0
   · subst h2
     have h3:op<1∨4<op:=by omega
     refine z0m Tryz.func25 (by kernel_rfl) rfl (by simp) ?_
     dsimp only[Tryz.f25]
     repeat' (first|(apply z07;(first|refine z0p ?_| (apply z0a;(refine z02 z3k rfl rfl ?_))|(apply z0u;(first|refine z1o hva ?_| refine z1o hvb ?_))|(apply z0d;(refine z2g ?_))|(apply z0k;(refine z0b z2q ?_))|(apply z1y;(refine z0b z2e ?_))|(apply z15;(refine z3u ?_))))|(apply z08;(first|refine z0o ?_|apply z09|refine z1w ?_| refine z2m (fun _=>?_) (fun _=>?_)))|(apply z05;(first|apply z06|apply z00|refine z1d ?_| apply z04|refine z0f (fun _=>?_) (fun _=>?_))))
     all_goals exact zD94
   · exact zD23
 · exact zD23
theorem zsk {a:Au} (ha:vAu a=0):a.A.length=a.F.length:=(zen ha).len
theorem ztm {n m:Nat} {a b:Au} (ha:Sml n a) (hb:Sml m b) (hn:n≤20) (hm:m≤20) (hnm:(n+1)*(m+1)≤256) (op:Int) (h1:1≤op) (h4:op≤4) :
 ∃ c,z0z Tryz.prog 25 [.d (auD a),.d (auD b),I .i64 op] (.tup [.d (auD c),I .i64 0])∧Nrm c∧∀ w,c.acc 0 w=(vld w&&zt3 (a.acc 0 w) (b.acc 0 w) op):=by
 have fa:=ha.few
 have fb:=hb.few
 have la:=zsk ha.val
 have lb:=zsk hb.val
 obtain⟨t,c,h46,h48,c1,_,c2,c3⟩:=zry a b op (zen ha.val) (zen hb.val) (by omega) (by omega) ha.arc hb.arc
 have hle:(a.F.length+1)*(b.F.length+1)≤(n+1)*(m+1):=Nat.mul_le_mul (by omega) (by omega)
 have hcl:c.F.length≤256:=by omega
 refine⟨c,?_,c1,c3⟩
 clear c1 c2 c3 hle
 refine z1l fun H=>?_
 have hva:=z8v a ha.fit
 have hvb:=z8v b hb.fit
 rw[ha.val] at hva
 rw[hb.val] at hvb
 obtain⟨F,A⟩:=a
 obtain⟨G,C⟩:=b
 obtain⟨cF,cA⟩:=c
 refine z0m Tryz.func25 (by kernel_rfl) rfl (by simp) ?_
 dsimp only[Tryz.f25]
 repeat' (first|(apply z07;(first|refine z0p ?_| (apply z0a;(first|refine z02 z3k rfl rfl ?_| refine z02 z1m rfl rfl ?_| refine z02 z2j rfl rfl ?_))|(apply z0e;(refine z02 z0s rfl rfl ?_))|(apply z14;(refine z02 (z1j rfl) rfl rfl ?_))|(apply z0u;(first|refine z1o hva ?_| refine z1o hvb ?_| refine z1o h46 ?_| refine z1o h48 ?_))|(apply z0d;(refine z2g ?_))|(apply z0k;(refine z0b z2q ?_))|(apply z1y;(refine z0b z2e ?_))|(apply z15;(refine z3u ?_))))|(apply z08;(first|refine z0o ?_|apply z09|refine z1w ?_| refine z2m (fun _=>?_) (fun _=>?_)))|(apply z05;(first|apply z06|apply z00|refine z1d ?_| apply z04|refine z0f (fun _=>?_) (fun _=>?_))))
 all_goals exact zD94
theorem znx (a:Au) (hf:z9f a) (h:vAu a≠0):z0z Tryz.prog 27 [.d (auD a)] zvb:=by
 refine z1l fun H=>?_
 have hv:=z8v a hf
 generalize vAu a=v at *
 obtain⟨F,A⟩:=a
 refine z0m Tryz.func27 (by kernel_rfl) rfl (by simp) ?_
 dsimp only[Tryz.f27]
 repeat' (first|(apply z07;(first|refine z0p ?_| (apply z0a;(refine z02 z3k rfl rfl ?_))|(apply z0u;(refine z1o hv ?_))|(apply z0d;(refine z2g ?_))|(apply z0k;(refine z0b z2q ?_))|(apply z1y;(refine z0b z2e ?_))|(apply z15;(refine z3u ?_))))|(apply z08;(first|refine z0o ?_|apply z09))|(apply z05;(first|apply z06|apply z00|apply z04|apply z23|refine z4i rfl (fun _=>?_) (fun _=>?_)))|(apply z25;((apply z0j;(refine z0g z3k rfl rfl ?_)))))
 all_goals exact zD99
theorem znw {n:Nat} {a:Au} (ha:Sml n a) (hn:n≤20) :
 ∃ c,z0z Tryz.prog 27 [.d (auD a)] (.tup [.d (auD c),I .i64 0])∧Nrm c∧∀ w,c.acc 0 w=(vld w&&!a.acc 0 w):=by
 have fa:=ha.few
 have la:=zsk ha.val
 obtain⟨t,c,h46,h48,c1,_,c2,c3⟩:=zry a zc6 0 (zen ha.val) zsc (by omega) (by decide) ha.arc (by decide)
 have hcl:c.F.length≤256:=by
  have:zc6.F.length=1:=rfl
  rw[this] at c2
  omega
 refine⟨c,?_,c1,fun w=>by rw[c3,zab,zt3,zAy (by decide),zAy (by decide),zAy (by decide),zAy (by decide)]⟩
 clear c1 c2 c3
 refine z1l fun H=>?_
 have hv:=z8v a ha.fit
 rw[ha.val] at hv
 have hno:=y25
 obtain⟨F,A⟩:=a
 obtain⟨cF,cA⟩:=c
 refine z0m Tryz.func27 (by kernel_rfl) rfl (by simp) ?_
 dsimp only[Tryz.f27]
 repeat' (first|(apply z07;(first|refine z0p ?_| (apply z0a;(first|refine z02 z3k rfl rfl ?_| refine z02 z1m rfl rfl ?_| refine z02 z2j rfl rfl ?_))|(apply z0e;(refine z02 z0s rfl rfl ?_))|(apply z14;(refine z02 (z1j rfl) rfl rfl ?_))|(apply z0u;(refine z1o hv ?_))|(apply z0d;(refine z2g ?_))|(apply z0k;(refine z0b z2q ?_))|(apply z1y;(refine z0b z2e ?_))|(apply z15;(refine z3u ?_))))|(apply z08;(first|refine z0o ?_|apply z09))|(apply z05;(first|apply z06|apply z00|refine z0w ?_| apply z04|apply z23|refine z0f (fun _=>?_) (fun _=>?_)))|(apply z25;(first|(apply z0t;refine z1b mix ?_)|(apply z0j;(refine z0g z3k rfl rfl ?_))|(apply z1k;(first|refine z4d hno ?_| refine z4d h46 ?_| refine z4d h48 ?_))|(apply z1s;(refine z57 (by first|exact rfl|exact⟨_,rfl,rfl,rfl⟩) rfl rfl rfl rfl rfl rfl ?_))|(apply zca;(refine zg8 (by first|exact rfl|exact⟨_,rfl,rfl,rfl⟩) rfl rfl (by decide) ?_)))))
 all_goals exact zD99
attribute [local irreducible] zed
theorem zrs {n:Nat} {a:Au} (hf:z9f a) (hv:vAu a=0) (h:¬ lgA n a=true):Sml n a :=
 ⟨hf,hv,by have:=(y0h h).1;omega,fun l hl=>by have:=y2z h hf l hl;omega⟩
theorem y2p {n:Int} {a b:Au}:[a,b].any (lgA n)=(lgA n a||lgA n b):=by simp
theorem zts {n m:Nat} {a b:Au} (hfa:z9f a) (hfb:z9f b) (hla:¬ lgA n a=true) (hlb:¬ lgA m b=true) (hn:n≤20) (hm:m≤20) (hnm:(n+1)*(m+1)≤256) (op:Int) :
 ∃ c e,z9f c∧z0z Tryz.prog 24 [.d (auD a),.d (auD b),I .i64 op] (.tup [.d (auD c),I .i64 e])∧z0z Tryz.prog 25 [.d (auD a),.d (auD b),I .i64 op] (.tup [.d (auD c),I .i64 e]):=by
 by_cases h:vAu a≠0∨vAu b≠0∨op<1∨4<op
 · exact⟨⟨[],[]⟩,1,⟨by simp,by simp,by simp⟩,zsv a b op hfa hfb h,zuq a b op hfa hfb h⟩
 · have ha:vAu a=0:=Decidable.byContradiction fun g=>h (.inl g)
   have hb:vAu b=0:=Decidable.byContradiction fun g=>h (.inr (.inl g))
   have sa:=zrs hfa ha hla
   have sb:=zrs hfb hb hlb
   obtain⟨c,c1,c2,c3,c4,c5⟩:=zoh sa sb hnm op (by omega) (by omega)
   obtain⟨d,d1,d2,d3⟩:=ztm sa sb hn hm hnm op (by omega) (by omega)
   have e:d=c:=zxd d2 c2 fun w=>by
    rw[d3,c5,zt3,z9e]
    by_cases h1:op=1
    · rw[zAz h1,zAz h1]
    · by_cases h2:op=2
      · rw[zAy h1,zAy h1,zAz h2,zAz h2]
      · by_cases h3:op=3
        · rw[zAy h1,zAy h1,zAy h2,zAy h2,zAz h3,zAz h3]
        · rw[zAy h1,zAy h1,zAy h2,zAy h2,zAy h3,zAy h3,zAz (by omega)]
   subst e
   exact⟨d,0,zru (zxm c3 (by omega)),c1,d1⟩
theorem zn0 {n:Nat} {a:Au} (hf:z9f a) (hl:¬ lgA n a=true) (hn:n≤20) :
 ∃ c e,z9f c∧z0z Tryz.prog 26 [.d (auD a)] (.tup [.d (auD c),I .i64 e])∧z0z Tryz.prog 27 [.d (auD a)] (.tup [.d (auD c),I .i64 e]):=by
 by_cases hv:vAu a=0
 · have sa:=zrs hf hv hl
   obtain⟨c,c1,c2,c3,c4,c5⟩:=zpn sa (by omega)
   obtain⟨d,d1,d2,d3⟩:=znw sa hn
   have e:d=c:=zxd d2 c2 fun w=>by rw[d3,c5]
   subst e
   exact⟨d,0,zru (zxm c3 (by omega)),c1,d1⟩
 · exact⟨⟨[],[]⟩,1,⟨by simp,by simp,by simp⟩,zqh a hf hv,znx a hf hv⟩
theorem znt (τ:Tab) (a b:Au) (op:Int) (hfa:z9f a) (hfb:z9f b):z27 Tryz.prog 6 [.d (auD a),.d (auD b),I .i64 op] (zgb τ 0) [] (B true):=by
 refine z2f fun H hH=>?_
 have hX0:=hH ((0,700),.glob 0 τ.o0) (by simp)
 have hX1:=hH ((0,701),.glob 1 τ.o1) (by simp)
 have haw:=zr1 τ
 have hlg:=zrj 6 (by omega) [a,b] (by simp) (by simpa using ⟨hfa,hfb⟩)
 rw[y2p] at hlg
 by_cases hb:(lgA 6 a||lgA 6 b)=true
 · rw[hb] at hlg
   obtain⟨F,A⟩:=a
   obtain⟨G,C⟩:=b
   refine z0m Tryz.func6 (by kernel_rfl) rfl (by simp) ?_
   dsimp only[Tryz.f6]
   refine z50 700 0 700 hX0 rfl rfl ?_
   refine z50 701 0 701 (z1n hX1 (by simp)) rfl rfl ?_
   repeat' (first|(apply z07;(first|refine z0p ?_| (apply z0a;(refine z02 z3k rfl rfl ?_))|(apply z0u;(refine z1o hlg ?_))|(apply z1y;(refine z0b z2e ?_))|(apply z2h;(refine z2n rfl ?_))))|(apply z08;(first|refine z0o ?_|apply z09))|(apply z05;(first|apply z06|apply z00|refine z1d ?_)))
   all_goals exact zD68
 have hb':=hb
 rw[zAu,not_or] at hb'
 rw[Bool.not_eq_true] at hb
 rw[hb] at hlg
 obtain⟨c,e,hfc,m1,m2⟩:=zts (n:=6) (m:=6) hfa hfb hb'.1 hb'.2 (by decide) (by decide) (by decide) op
 have hsame:=zw5 c hfc
 obtain⟨F,A⟩:=a
 obtain⟨G,C⟩:=b
 obtain⟨cF,cA⟩:=c
 refine z0m Tryz.func6 (by kernel_rfl) rfl (by simp) ?_
 dsimp only[Tryz.f6]
 refine z50 700 0 700 hX0 rfl rfl ?_
 refine z50 701 0 701 (z1n hX1 (by simp)) rfl rfl ?_
 repeat' (first|(apply z07;(first|refine z0p ?_| (apply z0a;(first|refine z02 z3k rfl rfl ?_| refine z02 z2j rfl rfl ?_))|(apply z0u;(first|refine z3x haw rfl rfl (by decide) ?_|refine z1o m1 ?_| refine z1o m2 ?_| refine z1o hsame ?_| refine z1o hlg ?_))|(apply z0d;(refine z2g ?_))|(apply z0k;(refine z0b z2q ?_))|(apply z1y;(refine z0b z2e ?_))|(apply z2h;(refine z2n rfl ?_))))|(apply z08;(first|refine z0o ?_|apply z09|refine z1w ?_| refine z2m (fun _=>?_) (fun _=>?_)))|(apply z05;(first|apply z06|apply z00|refine z0w ?_| apply z04)))
 all_goals exact zD68
theorem zfk (τ:Tab) (a:Au) (hf:z9f a):z27 Tryz.prog 7 [.d (auD a)] (zgb τ 0) [] (B true):=by
 refine z2f fun H hH=>?_
 have hX0:=hH ((0,700),.glob 0 τ.o0) (by simp)
 have hX1:=hH ((0,701),.glob 1 τ.o1) (by simp)
 have haw:=zr1 τ
 have hlg:=zrj 16 (by omega) [a] (by simp) (by simpa using hf)
 have hany:[a].any (lgA 16)=lgA 16 a:=by simp
 rw[hany] at hlg
 by_cases hb:lgA 16 a=true
 · rw[hb] at hlg
   obtain⟨F,A⟩:=a
   refine z0m Tryz.func7 (by kernel_rfl) rfl (by simp) ?_
   dsimp only[Tryz.f7]
   refine z50 700 0 700 hX0 rfl rfl ?_
   refine z50 701 0 701 (z1n hX1 (by simp)) rfl rfl ?_
   repeat' (first|(apply z07;(first|refine z0p ?_| (apply z0a;(refine z02 z3k rfl rfl ?_))|(apply z0u;(refine z1o hlg ?_))|(apply z1y;(refine z0b z2e ?_))|(apply z2h;(refine z2n rfl ?_))))|(apply z08;(first|refine z0o ?_|apply z09))|(apply z05;(first|apply z06|apply z00|refine z1d ?_)))
   all_goals exact zD69
 obtain⟨c,e,hfc,m1,m2⟩:=zn0 (n:=16) hf hb (by decide)
 rw[Bool.not_eq_true] at hb
 rw[hb] at hlg
 have hsame:=zw5 c hfc
 obtain⟨F,A⟩:=a
 obtain⟨cF,cA⟩:=c
 refine z0m Tryz.func7 (by kernel_rfl) rfl (by simp) ?_
 dsimp only[Tryz.f7]
 refine z50 700 0 700 hX0 rfl rfl ?_
 refine z50 701 0 701 (z1n hX1 (by simp)) rfl rfl ?_
 repeat' (first|(apply z07;(first|refine z0p ?_| (apply z0a;(first|refine z02 z3k rfl rfl ?_| refine z02 z2j rfl rfl ?_))|(apply z0u;(first|refine z3x haw rfl rfl (by decide) ?_|refine z1o m1 ?_| refine z1o m2 ?_| refine z1o hsame ?_| refine z1o hlg ?_))|(apply z0d;(refine z2g ?_))|(apply z0k;(refine z0b z2q ?_))|(apply z1y;(refine z0b z2e ?_))|(apply z2h;(refine z2n rfl ?_))))|(apply z08;(first|refine z0o ?_|apply z09|refine z1w ?_| refine z2m (fun _=>?_) (fun _=>?_)))|(apply z05;(first|apply z06|apply z00|refine z0w ?_| apply z04)))
 all_goals exact zD69
end Go.Proofs.YthdfkabdoidjfaaGreatDoor
