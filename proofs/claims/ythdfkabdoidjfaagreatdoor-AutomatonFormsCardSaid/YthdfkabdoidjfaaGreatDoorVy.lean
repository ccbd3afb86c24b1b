/- A part of the proof: AX1 to AX19. -/
import Derived.Test.YthdfkabdoidjfaaGreatDoorV0
set_option linter.all false
namespace Go.Ax
abbrev Arc:=Int × Int × Int
structure Au where
 F:List Bool
 A:List (List Arc)
def nxt:List Arc→Int→Int
 | [],_=> -1
 | x::l,c=>if x.1≤c∧c≤x.2.1 then x.2.2 else nxt l c
def Au.arcs (a:Au) (q:Int):List Arc:=if q<0 then [] else a.A.getD q.toNat []
def Au.fin (a:Au) (q:Int):Bool:=if q<0 then false else a.F.getD q.toNat false
def Au.nx (a:Au) (q c:Int):Int:=nxt (a.arcs q) c
def Au.run (a:Au):Int→List Int→Int
 | q,[]=>q
 | q,c::w=>a.run (a.nx q c) w
def Au.acc (a:Au) (q:Int) (w:List Int):Bool:=a.fin (a.run q w)
theorem Au.acc_nil (a:Au) (q:Int):a.acc q []=a.fin q:=rfl
theorem Au.acc_cons (a:Au) (q c:Int) (w:List Int):a.acc q (c::w)=a.acc (a.nx q c) w:=rfl
theorem Au.nx_neg (a:Au) {q:Int} (h:q<0) (c:Int):a.nx q c=-1:=by rw[nx,arcs,zAz h];rfl
theorem Au.acc_neg (a:Au):∀ (w:List Int) {q:Int},q<0→a.acc q w=false
 | [],q,h=>by rw[acc_nil,fin,zAz h]
 | c::w,q,h=>by rw[acc_cons,a.nx_neg h c];exact a.acc_neg w (by decide)
def okA:Option Arc→List Arc→Prop
 | _,[]=>True
 | p,x::l=>x.1≤x.2.1∧0≤x.2.2∧(∀ y,p=some y→y.2.1<x.1∧¬ (y.2.1+1=x.1∧y.2.2=x.2.2))∧okA (some x) l
theorem zb6:∀ {l:List Arc} {y:Arc},okA (some y) l→∀ c,c≤y.2.1→nxt l c=-1
 | [],_,_,_,_=>rfl
 | x::l,y,h,c,hc=>by
  have h1:=(h.2.2.1 y rfl).1
  rw[nxt,zAy (by omega)]
  exact zb6 h.2.2.2 c (by have:=h.1;omega)
theorem zg7 {x:Arc} {l:List Arc} {p:Option Arc} (h:okA p (x::l)) {c:Int} (hc:c<x.1):nxt (x::l) c=-1:=by
 rw[nxt,zAy (by omega)]
 exact zb6 h.2.2.2 c (by have:=h.1;omega)
theorem z8n {x:Arc} {l:List Arc} {c:Int} (h1:x.1≤c) (h2:c≤x.2.1):nxt (x::l) c=x.2.2:=by rw[nxt,zAz ⟨h1,h2⟩]
theorem zml {l:List Arc} {y:Arc} (h:okA (some y) l):nxt l (y.2.1+1)≠y.2.2∨y.2.2<0:=by
 cases l with
 | nil=>simp only[nxt];omega
 | cons x l =>
  have h1:=h.2.2.1 y rfl
  by_cases hc:x.1=y.2.1+1
  · left
    rw[z8n (by omega) (by have:=h.1;omega)]
    exact fun e=>h1.2 ⟨hc.symm,e.symm⟩
  · rw[zg7 h (by omega)]
    omega
theorem zs8:∀ {l m:List Arc} {p:Option Arc},okA p l→okA p m→(∀ c,nxt l c=nxt m c)→l=m
 | [],[],_,_,_,_=>rfl
 | [],y::m,p,_,h2,h=>by
  have:=h y.1
  rw[z8n (Int.le_refl _) h2.1] at this
  have:=h2.2.1
  simp only[nxt] at *;omega
 | x::l,[],p,h1,_,h=>by
  have:=h x.1
  rw[z8n (Int.le_refl _) h1.1] at this
  have:=h1.2.1
  simp only[nxt] at *;omega
 | x::l,y::m,p,h1,h2,h=>by
  have e1:x.1=y.1:=by
   rcases Int.lt_trichotomy x.1 y.1 with g|g|g
   · have:=h x.1
     rw[z8n (Int.le_refl _) h1.1,zg7 h2 g] at this
     have:=h1.2.1;omega
   · exact g
   · have:=h y.1
     rw[z8n (Int.le_refl _) h2.1,zg7 h1 g] at this
     have:=h2.2.1;omega
  have e2:x.2.2=y.2.2:=by
   have:=h x.1
   rw[z8n (Int.le_refl _) h1.1,z8n (by omega) (by have:=h2.1;omega)] at this
   exact this
  have e3:x.2.1=y.2.1:=by
   rcases Int.lt_trichotomy x.2.1 y.2.1 with g|g|g
   · have:=h (x.2.1+1)
     rw[z8n (x:=y) (by have:=h1.1;omega) (by omega),nxt,zAy (by omega)] at this
     rcases zml h1.2.2.2 with g2|g2
     · exact absurd (this.trans e2.symm) g2
     · have:=h1.2.1;omega
   · exact g
   · have:=h (y.2.1+1)
     rw[z8n (x:=x) (by have:=h2.1;omega) (by omega),nxt,zAy (by omega)] at this
     rcases zml h2.2.2.2 with g2|g2
     · exact absurd (this.symm.trans e2) g2
     · have:=h2.2.1;omega
  have e:x=y:=by
   obtain⟨a,b,c⟩:=x;obtain⟨a',b',c'⟩:=y
   simp only at e1 e2 e3;rw[e1,e2,e3]
  subst e
  congr 1
  refine zs8 h1.2.2.2 h2.2.2.2 fun c=>?_
  by_cases hc:c≤x.2.1
  · rw[zb6 h1.2.2.2 c hc,zb6 h2.2.2.2 c hc]
  · have:=h c
    rw[nxt,nxt,zAy (by omega),zAy (by omega)] at this
    exact this
def before (i c j d:Int):Prop:=i<j∨i=j∧c<d
structure Can (a:Au):Prop where
 pos:0<a.F.length
 len:a.A.length=a.F.length
 ok:∀ l∈a.A,okA none l
 rng:∀ q c,a.nx q c<a.F.length
 bfs:∀ j:Int,1≤j→j<a.F.length→∃ i c,0≤i∧i<j∧a.nx i c=j∧∀ i' c',0≤i'→before i' c' i c→a.nx i' c'<j
 dif:∀ i j:Int,0≤i→i<a.F.length→0≤j→j<a.F.length→(∀ w,a.acc i w=a.acc j w)→i=j
 live:∀ i:Int,0≤i→i<a.F.length→∃ w,a.acc i w=true
theorem zkw {p:Option Arc}:∀ {l:List Arc} {p:Option Arc},okA p l→∀ c,-1≤nxt l c
 | [],_,_,_=>Int.le_refl _
 | x::l,p,h,c=>by
  rw[nxt]
  split
  · have:=h.2.1;omega
  · exact zkw (p:=none) h.2.2.2 c
theorem Can.nx_ge {a:Au} (h:Can a) (q c:Int):-1≤a.nx q c:=by
 rw[Au.nx,Au.arcs]
 split
 · exact Int.le_refl _
 · by_cases hq:q.toNat<a.A.length
   · rw[List.getD,zA0 hq]
     exact zkw (p:=none) (h.ok _ (List.getElem_mem hq)) c
   · rw[List.getD,zAv (by omega)];exact Int.le_refl _
theorem Can.arcs_ok {a:Au} (h:Can a) (q:Int):okA none (a.arcs q):=by
 rw[Au.arcs]
 split
 · trivial
 · by_cases hq:q.toNat<a.A.length
   · rw[List.getD,zA0 hq];exact h.ok _ (List.getElem_mem hq)
   · rw[List.getD,zAv (by omega)];trivial
section
variable {a b:Au} (ha:Can a) (hb:Can b) (h0:∀ w,a.acc 0 w=b.acc 0 w)
include ha hb
def zhc (a b:Au) (m:Int):Prop:=∀ j:Int,0≤j→j<m→j<a.F.length∧j<b.F.length∧∀ w,a.acc j w=b.acc j w
theorem ziu {i:Int} (h:∀ w,a.acc i w=b.acc i w) (c:Int):(∀ w,a.acc (a.nx i c) w=b.acc (b.nx i c) w)∧(a.nx i c<0↔b.nx i c<0):=by
 have h1:∀ w,a.acc (a.nx i c) w=b.acc (b.nx i c) w:=fun w=>h (c::w)
 refine⟨h1,?_,?_⟩
 · intro g
   false_or_by_contra
   rename_i g2
   obtain⟨w,hw⟩:=hb.live (b.nx i c) (by omega) (hb.rng i c)
   rw[← h1,a.acc_neg w g] at hw;cases hw
 · intro g
   false_or_by_contra
   rename_i g2
   obtain⟨w,hw⟩:=ha.live (a.nx i c) (by omega) (ha.rng i c)
   rw[h1,b.acc_neg w g] at hw;cases hw
theorem zf5 {m i c:Int} (hm:zhc a b m) (hi:∀ w,a.acc i w=b.acc i w) (h:a.nx i c<m):b.nx i c=a.nx i c:=by
 obtain⟨h1,h2⟩:=ziu ha hb hi c
 by_cases hn:a.nx i c<0
 · have e1:=h2.1 hn
   have:=ha.nx_ge i c
   have:=hb.nx_ge i c
   omega
 · obtain⟨k1,k2,k3⟩:=hm (a.nx i c) (by omega) h
   have hbn:¬ b.nx i c<0:=fun g=>hn (h2.2 g)
   exact hb.dif _ _ (by omega) (hb.rng i c) (by omega) k2 fun w=>by rw[← h1,k3]
theorem zrd {m:Int} (h1:1≤m) (hm:zhc a b m) (hlt:m<a.F.length):zhc a b (m+1):=by
 obtain⟨i,c,i0,im,hic,hbef⟩:=ha.bfs m h1 hlt
 obtain⟨l1,l2,hi⟩:=hm i i0 im
 obtain⟨s1,s2⟩:=ziu ha hb hi c
 -- what b meets there
 have hn:¬ b.nx i c<0:=fun g=>by have:=s2.2 g;omega
 have hge:m≤b.nx i c:=by
  false_or_by_contra
  rename_i g
  obtain⟨k1,k2,k3⟩:=hm (b.nx i c) (by omega) (by omega)
  have:=ha.dif (a.nx i c) (b.nx i c) (by omega) (ha.rng i c) (by omega) k1 fun w=>by rw[s1,k3]
  omega
 have heq:b.nx i c=m:=by
  have hbm:m<b.F.length:=by have:=hb.rng i c;omega
  obtain⟨i1,c1,j0,jm,hjc,hbef2⟩:=hb.bfs m h1 hbm
  by_cases g:before i1 c1 i c
  · -- b meets m earlier than a does
    have g1:=hbef i1 c1 j0 g
    obtain⟨_,_,hi1⟩:=hm i1 j0 jm
    have:=zf5 ha hb hm hi1 g1
    omega
  · by_cases g2:before i c i1 c1
    · have:=hbef2 i c i0 g2
      omega
    · have:i=i1∧c=c1:=by
       unfold before at g g2;omega
      rw[this.1,this.2];exact hjc
 intro j j0 jm
 by_cases hj:j<m
 · exact hm j j0 hj
 · obtain rfl:j=m:=by omega
   refine⟨hlt,by have:=hb.rng i c;omega,fun w=>?_⟩
   have:=s1 w
   rw[hic,heq] at this;exact this
include h0 in
theorem zmc:zhc a b a.F.length:=by
 have key:∀ k:Nat,k+1≤a.F.length→zhc a b ((k:Int)+1):=fun k=>by
  induction k with
  | zero =>
   intro _ j j0 j1
   obtain rfl:j=0:=by omega
   exact⟨by have:=ha.pos;omega,by have:=hb.pos;omega,h0⟩
  | succ k ih =>
   intro hk
   have:=zrd ha hb (by omega) (ih (by omega)) (by omega)
   intro j j0 j1
   exact this j j0 (by omega)
 have hp:=ha.pos
 have:=key (a.F.length-1) (by omega)
 intro j j0 j1
 exact this j j0 (by omega)
end
theorem zp6 {a b:Au} (ha:Can a) (hb:Can b) (h0:∀ w,a.acc 0 w=b.acc 0 w):a.F.length≤b.F.length:=by
 have h:=zmc ha hb h0
 have hp:=ha.pos
 have:=(h ((a.F.length:Int)-1) (by omega) (by omega)).2.1
 omega
theorem y3g {a b:Au} (ha:Can a) (hb:Can b) (h0:∀ w,a.acc 0 w=b.acc 0 w):a=b:=by
 have h:=zmc ha hb h0
 have hl:a.F.length=b.F.length:=Nat.le_antisymm (zp6 ha hb h0) (zp6 hb ha fun w=>(h0 w).symm)
 have hF:a.F=b.F:=by
  refine List.ext_getElem hl fun i h1 h2=>?_
  have:=(h (i:Nat) (by omega) (by omega)).2.2 []
  rw[Au.acc_nil,Au.acc_nil,Au.fin,Au.fin,zAy (by omega),zAy (by omega),zA9,List.getD,List.getD,zA0 h1,zA0 h2] at this
  exact this
 have hA:a.A=b.A:=by
  refine List.ext_getElem (by rw[ha.len,hb.len,hl]) fun i h1 h2=>?_
  have hi:=(h (i:Nat) (by omega) (by rw[ha.len] at h1;omega)).2.2
  have e1:a.arcs (i:Nat)=a.A[i]:=by rw[Au.arcs,zAy (by omega),zA9,List.getD,zA0 h1];rfl
  have e2:b.arcs (i:Nat)=b.A[i]:=by rw[Au.arcs,zAy (by omega),zA9,List.getD,zA0 h2];rfl
  rw[← e1,← e2]
  refine zs8 (ha.arcs_ok _) (hb.arcs_ok _) fun c=>?_
  have:=zf5 ha hb h hi (ha.rng (i:Nat) c)
  exact this.symm
 obtain⟨F,A⟩:=a
 obtain⟨F',A'⟩:=b
 simp only at hF hA
 rw[hF,hA]
def z94:Option Arc→List Arc→Option Arc
 | p,[]=>p
 | _,x::l=>z94 (some x) l
theorem z3l:∀ (l:List Arc) (p:Option Arc) (x:Arc),z94 p (l++[x])=some x
 | [],_,_=>rfl
 | y::l,p,x=>by rw[List.cons_append,z94,z3l l]
theorem zfq:∀ {l:List Arc} {p:Option Arc} {x:Arc},okA p l→x.1≤x.2.1→0≤x.2.2→(∀ y,z94 p l=some y→y.2.1<x.1∧¬ (y.2.1+1=x.1∧y.2.2=x.2.2))→okA p (l++[x])
 | [],p,x,_,h1,h2,h3=>⟨h1,h2,h3,trivial⟩
 | z::l,p,x,h,h1,h2,h3=>⟨h.1,h.2.1,h.2.2.1,zfq h.2.2.2 h1 h2 h3⟩
theorem zlf:∀ {l:List Arc} {p:Option Arc} {x:Arc},okA p (l++[x])→okA p l∧x.1≤x.2.1∧0≤x.2.2∧∀ y,z94 p l=some y→y.2.1<x.1∧¬ (y.2.1+1=x.1∧y.2.2=x.2.2)
 | [],p,x,h=>⟨trivial,h.1,h.2.1,h.2.2.1⟩
 | z::l,p,x,h=>by
  obtain⟨h1,h2⟩:=zlf (l:=l) (p:=some z) h.2.2.2
  exact⟨⟨h.1,h.2.1,h.2.2.1,h1⟩,h2⟩
theorem zfd:∀ {l:List Arc} {p:Option Arc},okA p l→∀ (m:List Arc) (c:Int),nxt (l++m) c=if nxt l c=-1 then nxt m c else nxt l c
 | [],_,_,m,c=>by simp[nxt]
 | x::l,p,h,m,c=>by
  rw[List.cons_append,nxt,nxt]
  by_cases hc:x.1≤c∧c≤x.2.1
  · rw[zAz hc,zAz hc,zAy (by have:=h.2.1;omega)]
  · rw[zAy hc,zAy hc]
    exact zfd h.2.2.2 m c
theorem zmj:∀ {l:List Arc} {p:Option Arc} {y:Arc},okA p l→z94 p l=some y→(∀ z,p=some z→z=y∨z.2.1<y.1∨True)→∀ c,y.2.1<c→nxt l c=-1
 | [],_,_,_,_,_,_,_=>rfl
 | x::l,p,y,h,hl,_,c,hc=>by
  have h1:nxt l c=-1:=zmj h.2.2.2 hl (fun _ _=>.inr (.inr trivial)) c hc
  have h2:x.2.1≤y.2.1:=by
   have key:∀ (l:List Arc) (x y:Arc),okA (some x) l→z94 (some x) l=some y→x.2.1≤y.2.1:=fun l=>by
    induction l with
    | nil=>intro x y _ h;rw[z94] at h;cases h;exact Int.le_refl _
    | cons z l ih =>
     intro x y h hl
     have:=ih z y h.2.2.2 hl
     have:=(h.2.2.1 x rfl).1
     have:=h.1
     omega
   exact key l x y h.2.2.2 hl
  rw[nxt,zAy (by omega)];exact h1
def ext (l:List Arc) (f t q:Int):List Arc:=match l.getLast? with
 | some y=>if y.2.1+1=f∧y.2.2=q then l.dropLast++[(y.1,t,q)] else l++[(f,t,q)]
 | none=>[(f,t,q)]
theorem ext_nil (f t q:Int):ext [] f t q=[(f,t,q)]:=rfl
theorem z4k (l:List Arc) (y:Arc) (f t q:Int):ext (l++[y]) f t q=if y.2.1+1=f∧y.2.2=q then l++[(y.1,t,q)] else l++[y]++[(f,t,q)]:=by
 rw[ext,List.getLast?_append]
 simp
theorem zjn {α:Type} (l:List α):l=[]∨∃ m x,l=m++[x]:=by
 rcases List.eq_nil_or_concat l with h|⟨m,x,h⟩
 · exact .inl h
 · exact .inr ⟨m,x,by rw[h,List.concat_eq_append]⟩
theorem zws {l:List Arc} {f t q:Int} (h:okA none l) (hft:f≤t) (hq:0≤q) (hl:∀ y,z94 none l=some y→y.2.1<f):okA none (ext l f t q)∧z94 none (ext l f t q)≠none∧(∀ y,z94 none (ext l f t q)=some y→y.2.1=t) ∧
 ∀ c,nxt (ext l f t q) c=if f≤c∧c≤t then q else nxt l c:=by
 rcases zjn l with rfl|⟨m,y,rfl⟩
 · rw[ext_nil]
   refine⟨⟨hft,hq,(fun y hy=>by cases hy),trivial⟩,by simp[z94],fun y hy=>?_,fun c=>?_⟩
   · simp only[z94,zAh] at hy;rw[← hy]
   · simp only[nxt]
 · have hy:=hl y (z3l _ _ _)
   obtain⟨h1,h2,h3,h4⟩:=zlf h
   rw[z4k]
   have hm:∀ c,y.1≤c→nxt m c=-1:=fun c hc=>by
    rcases zjn m with rfl|⟨m',z,rfl⟩
    · rfl
    · have:=(h4 z (z3l _ _ _)).1
      exact zmj h1 (z3l _ _ _) (fun _ _=>.inr (.inr trivial)) c (by omega)
   by_cases hj:y.2.1+1=f∧y.2.2=q
   · rw[zAz hj]
     refine⟨zfq h1 (by simp only;omega) (by simp only;omega) (fun z hz=>?_),by rw[z3l];simp,fun z hz=>?_,fun c=>?_⟩
     · have:=h4 z hz
       simp only
       exact⟨this.1,fun g=>this.2 ⟨g.1,by rw[g.2,hj.2]⟩⟩
     · rw[z3l] at hz;cases hz;rfl
     · rw[zfd h1,zfd h1]
       simp only[nxt]
       by_cases hc:f≤c∧c≤t
       · rw[zAz hc,zAz (hm c (by omega)),zAz (by omega)]
       · rw[zAy hc]
         by_cases hmc:nxt m c=-1
         · rw[zAz hmc,zAz hmc]
           by_cases hc2:y.1≤c∧c≤y.2.1
           · rw[zAz hc2,zAz (by omega),hj.2]
           · rw[zAy hc2,zAy (by omega)]
         · rw[zAy hmc,zAy hmc]
   · rw[zAy hj]
     refine⟨zfq h (by simpa using hft) (by simpa using hq) (fun z hz=>?_),by rw[z3l];simp,fun z hz=>?_,fun c=>?_⟩
     · rw[z3l] at hz
       cases hz
       exact⟨hy,hj⟩
     · rw[z3l] at hz;cases hz;rfl
     · rw[zfd h]
       simp only[nxt]
       by_cases hc:f≤c∧c≤t
       · have:nxt (m++[y]) c=-1:=zmj h (z3l _ _ _) (fun _ _=>.inr (.inr trivial)) c (by omega)
         rw[zAz hc,zAz this,zAz hc]
       · rw[zAy hc,zAy hc]
         split
         · rename_i h5;rw[h5]
         · rfl
abbrev Edge (K:Type):=Int × Int × K
def kx {K:Type}:List (Edge K)→Int→Option K
 | [],_=>none
 | e::l,c=>if e.1≤c∧c≤e.2.1 then some e.2.2 else kx l c
def okE {K:Type}:Int→List (Edge K)→Prop
 | _,[]=>True
 | a,e::l=>a≤e.1∧e.1≤e.2.1∧e.2.1≤1114111∧okE (e.2.1+1) l
theorem zs6 {K:Type}:∀ {l:List (Edge K)} {a:Int},okE a l→∀ c,c<a→kx l c=none
 | [],_,_,_,_=>rfl
 | e::l,a,h,c,hc=>by
  rw[kx,zAy (by have:=h.1;omega)]
  exact zs6 h.2.2.2 c (by have:=h.1;have:=h.2.1;omega)
section
variable {K:Type} [DecidableEq K]
def z4l (k:K):List K→Nat
 | []=>0
 | x::l=>if x=k then 0 else z4l k l+1
theorem z43 {k:K}:∀ {l:List K},k∈l→z4l k l<l.length∧l[z4l k l]? =some k
 | [],h=>by simp at h
 | x::l,h=>by
  rw[z4l]
  by_cases hx:x=k
  · rw[zAz hx];exact⟨by simp,by simp[hx]⟩
  · rw[zAy hx]
    rw[zAc] at h
    have:=z43 (h.resolve_left fun g=>hx g.symm)
    exact⟨by rw[zAk];omega,by rw[List.getElem?_cons_succ];exact this.2⟩
theorem z4i {k:K}:∀ {l:List K},k∉l→z4l k l=l.length
 | [],_=>rfl
 | x::l,h=>by
  rw[zAc,not_or] at h
  rw[z4l,zAy (fun g=>h.1 g.symm),z4i h.2];rfl
theorem zcf {k:K}:∀ {l m:List K},k∈l→z4l k (l++m)=z4l k l
 | [],m,h=>by simp at h
 | x::l,m,h=>by
  rw[List.cons_append,z4l,z4l]
  by_cases hx:x=k
  · rw[zAz hx,zAz hx]
  · rw[zAy hx,zAy hx,zcf ((zAc.1 h).resolve_left fun g=>hx g.symm)]
def z7c (ks:List K) (k:K):List K:=if k∈ks then ks else ks++[k]
theorem za7 (ks:List K) (k:K):k∈z7c ks k:=by rw[z7c];split <;> simp[*]
theorem zgb (ks:List K) (k:K):z4l k (z7c ks k)=z4l k ks:=by
 rw[z7c];split
 · rfl
 · rename_i h
   rw[z4i h]
   have key:∀ l:List K,k∉l→z4l k (l++[k])=l.length:=fun l=>by
    induction l with
    | nil=>intro _;simp[z4l]
    | cons x l ih =>
     intro h
     rw[zAc,not_or] at h
     rw[List.cons_append,z4l,zAy (fun g=>h.1 g.symm),ih h.2];rfl
   exact key ks h
theorem z7l (ks:List K) (k:K):∃ r,z7c ks k=ks++r:=by
 rw[z7c];split
 · exact⟨[],by simp⟩
 · exact⟨[k],rfl⟩
theorem zax {ks:List K} {k:K} (h:ks.Nodup):(z7c ks k).Nodup:=by
 rw[z7c];split
 · exact h
 · rename_i hk
   rw[List.nodup_append]
   exact⟨h,by simp,fun a ha b hb=>by rw[zAq] at hb;subst hb;exact fun g=>hk (g▸ha)⟩
def z6o (s:List K × List Arc) (e:Edge K):List K × List Arc:=(z7c s.1 e.2.2,ext s.2 e.1 e.2.1 (z4l e.2.2 s.1:Nat))
def exL (fin:K→Bool) (edg:K→List (Edge K)) (lim:Nat):Nat→Nat→List K→Au→Option Au
 | 0,_,_,_=>none
 | n+1,i,ks,a=>match ks[i]? with
  | none=>some a
  | some k=>if lim<((edg k).foldl z6o (ks,[])).1.length then none else exL fin edg lim n (i+1) ((edg k).foldl z6o (ks,[])).1 ⟨a.F++[fin k],a.A++[((edg k).foldl z6o (ks,[])).2]⟩
end
section
variable {K:Type} [DecidableEq K]
theorem zgh {l:List K} (h:l.Nodup) {i:Nat} {k:K} (hi:l[i]? =some k):z4l k l=i:=by
 have hm:k∈l:=zA2 hi
 obtain⟨h1,h2⟩:=z43 hm
 obtain⟨h3,h4⟩:=zA1.1 hi
 obtain⟨h5,h6⟩:=zA1.1 h2
 exact(List.getElem_inj (h₀:=h5) (h₁:=h3) h).1 (h6.trans h4.symm)
structure Fold (es:List (Edge K)) (a:Int) (ks:List K) (l:List Arc) (r:List K × List Arc):Prop where
 pre:∃ e,r.1=ks++e
 nod:ks.Nodup→r.1.Nodup
 ok:okA none r.2
 nx:∀ c,nxt r.2 c=match kx es c with|some k=>((z4l k r.1:Nat):Int)|none=>nxt l c
 mem:∀ c k,kx es c=some k→k∈r.1
 bfs:∀ j k,ks.length≤j→r.1[j]? =some k→∃ c,a≤c∧kx es c=some k∧∀ c' k',c'<c→kx es c'=some k'→z4l k' r.1<j
theorem y19 {es:List (Edge K)} {c:Int} {k:K} (h:kx es c=some k):∃ e∈es,e.1≤c∧c≤e.2.1∧e.2.2=k:=by
 induction es with
 | nil=>simp[kx] at h
 | cons e es ih =>
  rw[kx] at h
  split at h
  · rename_i hc;simp only[zAh] at h;exact⟨e,by simp,hc.1,hc.2,h⟩
  · obtain⟨x,hx,h2⟩:=ih h;exact⟨x,by simp[hx],h2⟩
theorem zqb:∀ (es:List (Edge K)) (a:Int) (ks:List K) (l:List Arc),okE a es→okA none l→(∀ y,z94 none l=some y→y.2.1<a)→Fold es a ks l (es.foldl z6o (ks,l))
 | [],a,ks,l,_,h2,_=>⟨⟨[],by simp⟩,fun h=>h,h2,fun c=>rfl,fun c k h=>by simp[kx] at h,fun j k h1 h2=>by
     rw[List.foldl_nil] at h2
     have:=(zA1.1 h2).1
     simp only at this;omega⟩
 | e::es,a,ks,l,h1,h2,h3=>by
  have hx:=zws (q:=(z4l e.2.2 ks:Nat)) h2 h1.2.1 (by omega) (fun y hy=>by have:=h3 y hy;have:=h1.1;omega)
  obtain⟨x1,x2,x3,x4⟩:=hx
  have ih:=zqb es (e.2.1+1) (z7c ks e.2.2) (ext l e.1 e.2.1 (z4l e.2.2 ks:Nat)) h1.2.2.2 x1 (fun y hy=>by rw[x3 y hy];omega)
  rw[List.foldl_cons]
  change Fold (e::es) a ks l (es.foldl z6o (z7c ks e.2.2,ext l e.1 e.2.1 (z4l e.2.2 ks:Nat)))
  obtain⟨g1,g2,g3,g4,g5,g6⟩:=ih
  generalize es.foldl z6o (z7c ks e.2.2,ext l e.1 e.2.1 (z4l e.2.2 ks:Nat))=r at *
  obtain⟨q1,hq1⟩:=g1
  obtain⟨q2,hq2⟩:=z7l ks e.2.2
  have hix:z4l e.2.2 r.1=z4l e.2.2 ks:=by rw[hq1,zcf (za7 ks e.2.2),zgb]
  have hem:e.2.2∈r.1:=by rw[hq1];exact List.mem_append_left _ (za7 _ _)
  refine⟨⟨q2++q1,by rw[hq1,hq2,zAl]⟩,fun h=>g2 (zax h),g3,fun c=>?_,fun c k h=>?_,fun j k hj hk=>?_⟩
  · rw[g4 c,kx]
    by_cases hc:e.1≤c∧c≤e.2.1
    · rw[zAz hc,zs6 h1.2.2.2 c (by omega)]
      simp only
      rw[x4 c,zAz hc,hix]
    · rw[zAy hc]
      cases kx es c with
      | some k=>rfl
      | none=>simp only;rw[x4 c,zAy hc]
  · rw[kx] at h
    split at h
    · simp only[zAh] at h;rw[← h];exact hem
    · exact g5 c k h
  · by_cases hj2:(z7c ks e.2.2).length≤j
    · obtain⟨c,c1,c2,c3⟩:=g6 j k hj2 hk
      refine⟨c,by have:=h1.1;have:=h1.2.1;omega,by rw[kx,zAy (by omega)];exact c2,fun c' k' hc' hk'=>?_⟩
      rw[kx] at hk'
      split at hk'
      · simp only[zAh] at hk'
        subst hk'
        have:=(z43 (za7 ks e.2.2)).1
        rw[zgb] at this
        rw[hix];omega
      · exact c3 c' k' hc' hk'
    · -- the new key of this edge
      have hnew:e.2.2∉ks:=fun g=>hj2 (by rw[z7c,zAz g];exact hj)
      have hadd:z7c ks e.2.2=ks++[e.2.2]:=by rw[z7c,zAy hnew]
      rw[hadd,zAa,zAn] at hj2
      obtain rfl:j=ks.length:=by omega
      have hke:k=e.2.2:=by
       rw[hq1,hadd,zAl,zAg (zAj _),Nat.sub_self] at hk
       simpa using hk.symm
      refine⟨e.1,h1.1,by rw[kx,zAz ⟨Int.le_refl _,h1.2.1⟩,hke],fun c' k' hc' hk'=>?_⟩
      rw[kx,zAy (by omega),zs6 h1.2.2.2 c' (by have:=h1.2.1;omega)] at hk'
      cases hk'
def zc4 (fin:K→Bool) (edg:K→List (Edge K)):Option K→List Int→Bool
 | none,_=>false
 | some k,[]=>fin k
 | some k,c::w=>zc4 fin edg (kx (edg k) c) w
structure Ex (fin:K→Bool) (edg:K→List (Edge K)) (first:K) (i:Nat) (ks:List K) (a:Au):Prop where
 le:i≤ks.length
 fl:a.F.length=i
 al:a.A.length=i
 hd:ks[0]? =some first
 nod:ks.Nodup
 fin_:∀ q k,q<i→ks[q]? =some k→a.F[q]? =some (fin k)
 arc:∀ q k,q<i→ks[q]? =some k→∃ l,a.A[q]? =some l∧okA none l∧(∀ c,nxt l c=match kx (edg k) c with|some k'=>((z4l k' ks:Nat):Int)|none=> -1)∧∀ c k',kx (edg k) c=some k'→k'∈ks
 bfs:∀ j:Nat,1≤j→j<ks.length→∃ q k c,q<i∧q<j∧ks[q]? =some k∧(∃ k',kx (edg k) c=some k'∧ks[j]? =some k') ∧
  ∀ q' k0 c' k',(q'<q∨q'=q∧c'<c)→ks[q']? =some k0→kx (edg k0) c'=some k'→z4l k' ks<j
theorem zrs {fin:K→Bool} {edg:K→List (Edge K)} {first:K} {i:Nat} {ks:List K} {a:Au} (h:Ex fin edg first i ks a) {k:K} (hk:ks[i]? =some k) (he:okE 0 (edg k)) :
 Ex fin edg first (i+1) ((edg k).foldl z6o (ks,[])).1 ⟨a.F++[fin k],a.A++[((edg k).foldl z6o (ks,[])).2]⟩:=by
 have hf:=zqb (edg k) 0 ks [] he trivial (fun y hy=>by cases hy)
 generalize (edg k).foldl z6o (ks,[])=r at *
 obtain⟨⟨e,hp⟩,g2,g3,g4,g5,g6⟩:=hf
 obtain⟨hi,_⟩:=zA1.1 hk
 have hget:∀ {q:Nat} {x:K},q<ks.length→r.1[q]? =some x→ks[q]? =some x:=fun {q x} hq hx=>by
  rw[hp,zAb hq] at hx;exact hx
 have hget2:∀ {q:Nat} {x:K},ks[q]? =some x→r.1[q]? =some x:=fun {q x} hx=>by
  rw[hp,zAb (zA1.1 hx).1];exact hx
 have hix:∀ {x:K},x∈ks→z4l x r.1=z4l x ks:=fun {x} hx=>by rw[hp,zcf hx]
 have hmem:∀ {x:K},x∈ks→x∈r.1:=fun {x} hx=>by rw[hp];exact List.mem_append_left _ hx
 have hkr:=hget2 hk
 refine⟨?_,by simp[h.fl],by simp[h.al],hget2 h.hd,g2 h.nod,fun q x hq hx=>?_,fun q x hq hx=>?_,fun j hj1 hj2=>?_⟩
 · rw[hp,zAa];omega
 · by_cases hqi:q<i
   · have:=h.fin_ q x hqi (hget (by omega) hx)
     simp only
     rw[zAb (by rw[h.fl];omega)];exact this
   · obtain rfl:q=i:=by omega
     rw[hkr] at hx;cases hx
     simp only
     rw[zAg (by rw[h.fl];omega),h.fl,Nat.sub_self];rfl
 · by_cases hqi:q<i
   · obtain⟨l,l1,l2,l3,l4⟩:=h.arc q x hqi (hget (by omega) hx)
     refine⟨l,?_,l2,fun c=>?_,fun c k' hk'=>hmem (l4 c k' hk')⟩
     · simp only
       rw[zAb (by rw[h.al];omega)];exact l1
     · rw[l3 c]
       cases hc:kx (edg x) c with
       | none=>rfl
       | some k'=>simp only;rw[hix (l4 c k' hc)]
   · obtain rfl:q=i:=by omega
     rw[hkr] at hx;cases hx
     refine⟨r.2,?_,g3,fun c=>?_,fun c k' hk'=>g5 c k' hk'⟩
     · simp only
       rw[zAg (by rw[h.al];omega),h.al,Nat.sub_self];rfl
     · rw[g4 c];rfl
 · by_cases hjk:j<ks.length
   · obtain⟨q,x,c,q1,q2,q3,⟨k',k1,k2⟩,q4⟩:=h.bfs j hj1 hjk
     refine⟨q,x,c,by omega,q2,hget2 q3,⟨k',k1,hget2 k2⟩,fun q' k0 c' k2' hb h0 h1=>?_⟩
     have hq':q'<ks.length:=by have:=(zA1.1 q3).1;omega
     have h0':=hget hq' h0
     have hm:k2'∈ks:=by
      obtain⟨l,_,_,_,l4⟩:=h.arc q' k0 (by omega) h0'
      exact l4 c' k2' h1
     rw[hix hm]
     exact q4 q' k0 c' k2' hb h0' h1
   · obtain⟨k',hk'⟩:∃ k',r.1[j]? =some k':=⟨_,zA0 hj2⟩
     obtain⟨c,c1,c2,c3⟩:=g6 j k' (by omega) hk'
     refine⟨i,k,c,by omega,by omega,hkr,⟨k',c2,hk'⟩,fun q' k0 c' k2' hb h0 h1=>?_⟩
     rcases hb with hb|⟨rfl,hb⟩
     · have h0':=hget (by omega) h0
       obtain⟨l,_,_,_,l4⟩:=h.arc q' k0 hb h0'
       have hm:=l4 c' k2' h1
       rw[hix hm]
       have:=(z43 hm).1
       omega
     · rw[hkr] at h0;cases h0
       exact c3 c' k2' hb h1
theorem zin {fin:K→Bool} {edg:K→List (Edge K)} {first:K} {lim:Nat} (he:∀ k,okE 0 (edg k)):∀ (n i:Nat) (ks:List K) (a b:Au),Ex fin edg first i ks a→exL fin edg lim n i ks a=some b→∃ ks',Ex fin edg first ks'.length ks' b
 | 0,i,ks,a,b,_,h=>by rw[exL] at h;cases h
 | n+1,i,ks,a,b,hx,h=>by
  rw[exL] at h
  split at h
  · rename_i hn
    simp only[zAh] at h
    subst h
    have:ks.length≤i:=by simpa using hn
    have:=hx.le
    obtain rfl:i=ks.length:=by omega
    exact⟨ks,hx⟩
  · rename_i k hk
    split at h
    · cases h
    · exact zin he n _ _ _ b (zrs hx hk (he k)) h
theorem y0i (fin:K→Bool) (edg:K→List (Edge K)) (first:K):Ex fin edg first 0 [first] ⟨[],[]⟩ :=
 ⟨zAf _,rfl,rfl,rfl,by simp,fun q k h=>absurd h (Nat.not_lt_zero _),fun q k h=>absurd h (Nat.not_lt_zero _),fun j h1 h2=>by simp at h2;omega⟩
theorem zbe {fin:K→Bool} {edg:K→List (Edge K)} {first:K} {ks:List K} {a:Au} (h:Ex fin edg first ks.length ks a):∀ (w:List Int) (q:Nat) (k:K),ks[q]? =some k→a.acc (q:Nat) w=zc4 fin edg (some k) w
 | [],q,k,hk=>by
  have hq:=(zA1.1 hk).1
  rw[Au.acc_nil,Au.fin,zAy (by omega),zA9,List.getD,h.fin_ q k hq hk,zc4];rfl
 | c::w,q,k,hk=>by
  have hq:=(zA1.1 hk).1
  obtain⟨l,l1,l2,l3,l4⟩:=h.arc q k hq hk
  have e1:a.nx (q:Nat) c=nxt l c:=by rw[Au.nx,Au.arcs,zAy (by omega),zA9,List.getD,l1];rfl
  rw[Au.acc_cons,zc4,e1,l3 c]
  cases hc:kx (edg k) c with
  | none=>simp only;rw[a.acc_neg w (by decide),zc4]
  | some k'=>simp only;exact zbe h w _ k' (z43 (l4 c k' hc)).2
theorem y21 {fin:K→Bool} {edg:K→List (Edge K)} {first:K} {ks:List K} {a:Au} (h:Ex fin edg first ks.length ks a)
 (hd:∀ x∈ks,∀ y∈ks,(∀ w,zc4 fin edg (some x) w=zc4 fin edg (some y) w)→x=y) (hl:∀ x∈ks,∃ w,zc4 fin edg (some x) w=true):Can a:=by
 have hpos:0<ks.length:=(zA1.1 h.hd).1
 have hnx:∀ (q:Nat) (k:K) (c:Int),ks[q]? =some k→a.nx (q:Nat) c=match kx (edg k) c with|some k'=>((z4l k' ks:Nat):Int)|none=> -1:=fun q k c hk=>by
  obtain⟨l,l1,l2,l3,l4⟩:=h.arc q k (zA1.1 hk).1 hk
  rw[Au.nx,Au.arcs,zAy (by omega),zA9,List.getD,l1]
  exact l3 c
 have hout:∀ (q c:Int),q<0∨(ks.length:Int)≤q→a.nx q c=-1:=fun q c hq=>by
  rw[Au.nx,Au.arcs]
  split
  · rfl
  · rw[List.getD,zAv (by rw[h.al];omega)];rfl
 have hget:∀ q:Int,0≤q→q<ks.length→∃ k,ks[q.toNat]? =some k:=fun q h0 h1=>⟨_,zA0 (by omega)⟩
 refine⟨by rw[h.fl];exact hpos,by rw[h.al,h.fl],fun l hl'=>?_,fun q c=>?_,fun j j1 j2=>?_,fun i j i0 i1 j0 j1 hw=>?_,fun i i0 i1=>?_⟩
 · obtain⟨q,hq⟩:=List.mem_iff_getElem?.1 hl'
   have hq1:q<ks.length:=by have:=(zA1.1 hq).1;rw[h.al] at this;exact this
   obtain⟨k,hk⟩:∃ k,ks[q]? =some k:=⟨_,zA0 hq1⟩
   obtain⟨l',l1,l2,_,_⟩:=h.arc q k hq1 hk
   rw[hq] at l1;cases l1;exact l2
 · rw[h.fl]
   by_cases hq:q<0∨(ks.length:Int)≤q
   · rw[hout q c hq];omega
   · obtain⟨k,hk⟩:=hget q (by omega) (by omega)
     have:=hnx q.toNat k c hk
     rw[show ((q.toNat:Nat):Int)=q by omega] at this
     rw[this]
     obtain⟨l,_,_,_,l4⟩:=h.arc q.toNat k (zA1.1 hk).1 hk
     cases hc:kx (edg k) c with
     | none=>simp only;omega
     | some k'=>simp only;have:=(z43 (l4 c k' hc)).1;omega
 · rw[h.fl] at j2
   obtain⟨q,k,c,q1,q2,q3,⟨k',k1,k2⟩,q4⟩:=h.bfs j.toNat (by omega) (by omega)
   refine⟨(q:Nat),c,by omega,by omega,?_,fun i' c' hi' hb=>?_⟩
   · rw[hnx q k c q3,k1]
     simp only
     rw[zgh h.nod k2];omega
   · by_cases hi2:(ks.length:Int)≤i'
     · rw[hout i' c' (.inr hi2)];omega
     · obtain⟨k0,hk0⟩:=hget i' hi' (by omega)
       have:=hnx i'.toNat k0 c' hk0
       rw[show ((i'.toNat:Nat):Int)=i' by omega] at this
       rw[this]
       cases hc:kx (edg k0) c' with
       | none=>simp only;omega
       | some k2' =>
        simp only
        have:=q4 i'.toNat k0 c' k2' (by unfold before at hb;omega) hk0 hc
        omega
 · rw[h.fl] at i1 j1
   obtain⟨x,hx⟩:=hget i i0 i1
   obtain⟨y,hy⟩:=hget j j0 j1
   have hxy:=hd x (zA2 hx) y (zA2 hy) fun w=>by
    have e1:=zbe h w i.toNat x hx
    have e2:=zbe h w j.toNat y hy
    rw[show ((i.toNat:Nat):Int)=i by omega] at e1
    rw[show ((j.toNat:Nat):Int)=j by omega] at e2
    rw[← e1,← e2,hw w]
   have e1:=zgh h.nod hx
   have e2:=zgh h.nod hy
   rw[hxy] at e1
   omega
 · rw[h.fl] at i1
   obtain⟨x,hx⟩:=hget i i0 i1
   obtain⟨w,hw⟩:=hl x (zA2 hx)
   refine⟨w,?_⟩
   have e1:=zbe h w i.toNat x hx
   rw[show ((i.toNat:Nat):Int)=i by omega] at e1
   rw[e1,hw]
end
def zwp (n:Int) (x:Arc):Bool:=decide (x.1<0)||decide (x.1>x.2.1)||decide (x.2.1>1114111)||decide (x.2.2<0)||decide (x.2.2≥n)
def zwv (p x:Arc):Bool:=decide (x.1≤p.2.1)||(decide (x.1=p.2.1+1)&&decide (x.2.2=p.2.2))
def zkc (n:Int):Option Arc→List Arc→Int
 | _,[]=>0
 | p,x::l=>if zwp n x=true then 8 else match p with
  | some y=>if zwv y x=true then 6 else zkc n (some x) l
  | none=>zkc n (some x) l
theorem zcp (n:Int) (p:Option Arc) (x:Arc) (l:List Arc):zkc n p (x::l)=if zwp n x=true then 8 else match p with
 | some y=>if zwv y x=true then 6 else zkc n (some x) l
 | none=>zkc n (some x) l:=by cases p <;> rfl
def zef (n:Int):List (List Arc)→Int
 | []=>0
 | l::A=>if zkc n none l≠0 then zkc n none l else zef n A
def vAu (a:Au):Int:=if 256<a.F.length then 2 else if a.F.length=0∨a.A.length≠a.F.length then 15 else zef a.F.length a.A
theorem zg4:∀ {n:Int} {l:List Arc} {p:Option Arc},zkc n p l=0→okA p l∧∀ x∈l,0≤x.1∧x.1≤x.2.1∧x.2.1≤1114111∧0≤x.2.2∧x.2.2<n
 | n,[],p,_=>⟨trivial,by simp⟩
 | n,x::l,p,h=>by
  rw[zcp] at h
  split at h
  · cases h
  rename_i hb
  simp only[zwp,zAu,zA3,not_or] at hb
  have hx:0≤x.1∧x.1≤x.2.1∧x.2.1≤1114111∧0≤x.2.2∧x.2.2<n:=by omega
  have fin:zkc n (some x) l=0→∀ y∈x::l,0≤y.1∧y.1≤y.2.1∧y.2.1≤1114111∧0≤y.2.2∧y.2.2<n:=fun h y hy=>by
   rw[zAc] at hy
   rcases hy with rfl|hy
   · exact hx
   · exact(zg4 h).2 y hy
  cases p with
  | none =>
   simp only at h
   exact⟨⟨hx.2.1,hx.2.2.2.1,(fun y hy=>by cases hy),(zg4 h).1⟩,fin h⟩
  | some y =>
   simp only at h
   split at h
   · cases h
   · rename_i ho
     simp only[zwv,zAu,zA7,zA3,not_or,not_and] at ho
     refine⟨⟨hx.2.1,hx.2.2.2.1,fun z hz=>?_,(zg4 h).1⟩,fin h⟩
     cases hz
     refine⟨by omega,fun g=>?_⟩
     exact ho.2 (by omega) g.2.symm
theorem zmy:∀ {n:Int} {A:List (List Arc)},zef n A=0→∀ l∈A,zkc n none l=0
 | n,[],_,l,hl=>by simp at hl
 | n,m::A,h,l,hl=>by
  rw[zef] at h
  split at h
  · rename_i h1;exact absurd h h1
  · rename_i h1
    rw[zAc] at hl
    rcases hl with rfl|hl
    · exact Classical.not_not.1 h1
    · exact zmy h l hl
structure y69 (a:Au):Prop where
 few:a.F.length≤256
 pos:0<a.F.length
 len:a.A.length=a.F.length
 arc:∀ l∈a.A,okA none l∧∀ x∈l,0≤x.1∧x.1≤x.2.1∧x.2.1≤1114111∧0≤x.2.2∧x.2.2<a.F.length
theorem zd1 {a:Au} (h:vAu a=0):y69 a:=by
 rw[vAu] at h
 split at h
 · cases h
 split at h
 · cases h
 · exact⟨by omega,by omega,by omega,fun l hl=>zg4 (zmy h l hl)⟩
def zgv (c:Int):List Arc→Nat
 | []=>0
 | x::l=>if x.2.1<c then zgv c l+1 else 0
theorem zrw (c:Int):∀ l:List Arc,zgv c l≤l.length
 | []=>zAj _
 | x::l=>by rw[zgv];split <;> simp[zrw c l]
theorem zwu {c:Int}:∀ {l:List Arc} {p:Nat} {x:Arc},p<zgv c l→l[p]? =some x→x.2.1<c
 | [],p,x,h,_=>absurd h (Nat.not_lt_zero _)
 | y::l,p,x,h,hx=>by
  rw[zgv] at h
  split at h
  · rename_i hy
    cases p with
    | zero=>simp only[List.getElem?_cons_zero,zAh] at hx;rw[← hx];exact hy
    | succ p=>exact zwu (l:=l) (p:=p) (by omega) (by rw[List.getElem?_cons_succ] at hx;exact hx)
  · exact absurd h (Nat.not_lt_zero _)
theorem zw0 {c:Int}:∀ {l:List Arc} {x:Arc},l[zgv c l]? =some x→¬ x.2.1<c
 | [],x,h=>by simp at h
 | y::l,x,h=>by
  rw[zgv] at h
  split at h
  · rw[List.getElem?_cons_succ] at h;exact zw0 h
  · rename_i hy
    simp only[List.getElem?_cons_zero,zAh] at h;rw[← h];exact hy
theorem zkz:∀ {l:List Arc} {p:Option Arc},okA p l→∀ (i j:Nat) (x y:Arc),i≤j→l[i]? =some x→l[j]? =some y→x.2.1≤y.2.1
 | [],_,_,i,j,x,y,_,h,_=>by simp at h
 | z::l,p,h,i,j,x,y,hij,hx,hy=>by
  have low:∀ (l:List Arc) (z:Arc),okA (some z) l→∀ (j:Nat) (y:Arc),l[j]? =some y→z.2.1≤y.2.1:=fun l=>by
   induction l with
   | nil=>intro z _ j y h;simp at h
   | cons w l ih =>
    intro z h j y hy
    have h1:=(h.2.2.1 z rfl).1
    have h2:=h.1
    cases j with
    | zero=>simp only[List.getElem?_cons_zero,zAh] at hy;rw[← hy];omega
    | succ j=>rw[List.getElem?_cons_succ] at hy;have:=ih w h.2.2.2 j y hy;omega
  cases i with
  | zero =>
   simp only[List.getElem?_cons_zero,zAh] at hx
   subst hx
   cases j with
   | zero=>simp only[List.getElem?_cons_zero,zAh] at hy;rw[hy];exact Int.le_refl _
   | succ j=>rw[List.getElem?_cons_succ] at hy;exact low l _ h.2.2.2 j y hy
  | succ i =>
   obtain⟨j,rfl⟩:∃ j',j=j'+1:=⟨j-1,by omega⟩
   rw[List.getElem?_cons_succ] at hx hy
   exact zkz h.2.2.2 i j x y (by omega) hx hy
theorem y1j {c:Int} {l:List Arc} {i:Nat} (hi:i≤l.length) (h1:∀ p x,p<i→l[p]? =some x→x.2.1<c) (h2:∀ x,l[i]? =some x→¬ x.2.1<c):i=zgv c l:=by
 have hl:=zrw c l
 rcases Nat.lt_trichotomy i (zgv c l) with h|h|h
 · obtain⟨x,hx⟩:∃ x,l[i]? =some x:=⟨_,zA0 (by omega)⟩
   exact absurd (zwu h hx) (h2 x hx)
 · exact h
 · obtain⟨x,hx⟩:∃ x,l[zgv c l]? =some x:=⟨_,zA0 (by omega)⟩
   exact absurd (h1 _ x h hx) (zw0 hx)
theorem zq6 {c:Int}:∀ {l:List Arc} {p:Option Arc},okA p l→nxt l c=match l[zgv c l]? with|none=> -1|some x=>if c<x.1 then -1 else x.2.2
 | [],_,_=>rfl
 | x::l,p,h=>by
  rw[zgv,nxt]
  by_cases hx:x.2.1<c
  · rw[zAz hx,zAy (by omega),List.getElem?_cons_succ]
    exact zq6 h.2.2.2
  · rw[zAy hx,List.getElem?_cons_zero]
    simp only
    by_cases hc:c<x.1
    · rw[zAy (by omega),zAz hc,zb6 h.2.2.2 c (by omega)]
    · rw[zAz (by omega),zAy hc]
def clA (cl:List Int) (q:Int):Int:=if q<0 then -1 else cl.getD q.toNat 0
def zb8 (cl:List Int) (out:List Arc) (x:Arc):List Arc:=if clA cl x.2.2<0 then out else ext out x.1 x.2.1 (clA cl x.2.2)
def byC (cl:List Int) (l:List Arc):List Arc:=l.foldl (zb8 cl) []
theorem zb7 (l:List Arc) (f t q:Int):(ext l f t q).length≤l.length+1:=by
 rcases zjn l with rfl|⟨m,y,rfl⟩
 · simp[ext_nil]
 · rw[z4k];split <;> simp
theorem ext_mem {l:List Arc} {f t q:Int} {y:Arc} (h:y∈ext l f t q):y.2.1=t∨y∈l:=by
 rcases zjn l with rfl|⟨m,z,rfl⟩
 · rw[ext_nil,zAq] at h;exact .inl (by rw[h])
 · rw[z4k] at h
   split at h
   · rw[zAt,zAq] at h
     rcases h with h|h
     · exact .inr (List.mem_append_left _ h)
     · exact .inl (by rw[h])
   · rw[zAt,zAq] at h
     rcases h with h|h
     · exact .inr h
     · exact .inl (by rw[h])
end Go.Ax
namespace Go.Ax
def zt0 (i:Nat) (xss:List (List Int)) (x:Arc):List (List Int):=xss.set x.2.2.toNat (xss.getD x.2.2.toNat []++[(i:Int)])
def zwc:Nat→List (List Arc)→List (List Int)→List (List Int)
 | _,[],xss=>xss
 | i,l::A,xss=>zwc (i+1) A (l.foldl (zt0 i) xss)
theorem zlx (i:Nat) (xss:List (List Int)) (x:Arc):(zt0 i xss x).length=xss.length:=by simp[zt0]
theorem zm9 (i:Nat):∀ (l:List Arc) (xss:List (List Int)),(l.foldl (zt0 i) xss).length=xss.length
 | [],_=>rfl
 | x::l,xss=>by rw[List.foldl_cons,zm9 i l,zlx]
theorem zuz {i:Nat} {xss:List (List Int)} {x:Arc} {s:Nat} (hx:x.2.2.toNat<xss.length) (p:Int):p∈(zt0 i xss x).getD s []↔p∈xss.getD s []∨(x.2.2.toNat=s∧p=i):=by
 rw[zt0,List.getD,List.getD]
 by_cases h:x.2.2.toNat=s
 · subst h
   rw[zAp hx]
   simp[List.getD]
 · rw[List.getElem?_set_ne h]
   simp[h]
theorem zmd {i s:Nat} {p:Int}:∀ {l:List Arc} {xss:List (List Int)},(∀ x∈l,x.2.2.toNat<xss.length)→(p∈(l.foldl (zt0 i) xss).getD s []↔p∈xss.getD s []∨(∃ x∈l,x.2.2.toNat=s)∧p=i)
 | [],xss,_=>by simp
 | x::l,xss,h=>by
  rw[List.foldl_cons,zmd (fun y hy=>by rw[zlx];exact h y (by simp[hy])),zuz (h x (by simp))]
  constructor
  · rintro((h1|⟨h1,h2⟩)|⟨⟨y,hy,h1⟩,h2⟩)
    · exact .inl h1
    · exact .inr ⟨⟨x,by simp,h1⟩,h2⟩
    · exact .inr ⟨⟨y,by simp[hy],h1⟩,h2⟩
  · rintro(h1|⟨⟨y,hy,h1⟩,h2⟩)
    · exact .inl (.inl h1)
    · rw[zAc] at hy
      rcases hy with rfl|hy
      · exact .inl (.inr ⟨h1,h2⟩)
      · exact .inr ⟨⟨y,hy,h1⟩,h2⟩
theorem zlz {s:Nat} {p:Int}:∀ {A:List (List Arc)} {i:Nat} {xss:List (List Int)},(∀ l∈A,∀ x∈l,x.2.2.toNat<xss.length)→(p∈(zwc i A xss).getD s []↔p∈xss.getD s []∨∃ k l x,A[k]? =some l∧x∈l∧x.2.2.toNat=s∧p=((i+k:Nat):Int))
 | [],i,xss,_=>by simp[zwc]
 | l::A,i,xss,h=>by
  rw[zwc,zlz (fun m hm x hx=>by rw[zm9];exact h m (by simp[hm]) x hx),zmd (h l (by simp))]
  constructor
  · rintro((h1|⟨⟨x,hx,h1⟩,h2⟩)|⟨k,m,x,h1,h2,h3,h4⟩)
    · exact .inl h1
    · exact .inr ⟨0,l,x,rfl,hx,h1,by simpa using h2⟩
    · exact .inr ⟨k+1,m,x,by simpa using h1,h2,h3,by rw[h4,show i+1+k=i+(k+1) by omega]⟩
  · rintro(h1|⟨k,m,x,h1,h2,h3,h4⟩)
    · exact .inl (.inl h1)
    · cases k with
      | zero =>
       simp at h1;subst h1
       exact .inl (.inr ⟨⟨x,h2,h3⟩,by simpa using h4⟩)
      | succ k=>exact .inr ⟨k,m,x,by simpa using h1,h2,h3,by rw[h4,show i+1+k=i+(k+1) by omega]⟩
inductive z6n (F:List Bool) (A:List (List Arc)):Nat→Prop
 | fin (q:Nat) (h:F[q]? =some true):z6n F A q
 | arc (q:Nat) (l:List Arc) (x:Arc) (h:A[q]? =some l) (hx:x∈l) (h2:z6n F A x.2.2.toNat):z6n F A q
end Go.Ax
namespace Go.Ax
theorem count_set {l:List Bool} {i:Nat} (h:l[i]? =some false):(l.set i true).count false+1=l.count false:=by
 induction l generalizing i with
 | nil=>simp at h
 | cons x l ih =>
  cases i with
  | zero=>simp at h;subst h;simp
  | succ i =>
   have:=ih (i:=i) (by simpa using h)
   simp only[List.set_cons_succ,List.count_cons];omega
structure Reach (F:List Bool) (A:List (List Arc)) (X:List (List Int)) (out:List Bool) (stk:List Int) (skip:Nat→Prop):Prop where
 len:out.length=F.length
 onS:∀ z∈stk,∃ s:Nat,z=(s:Int)∧out[s]? =some true
 sound:∀ s:Nat,out[s]? =some true→z6n F A s
 fin:∀ s:Nat,F[s]? =some true→out[s]? =some true
 clos:∀ s:Nat,out[s]? =some true→(s:Int)∈stk∨skip s∨∀ p∈X.getD s [],out[p.toNat]? =some true
 few:stk.length+out.count false≤F.length
theorem Reach.done {F:List Bool} {A:List (List Arc)} {X:List (List Int)} {out:List Bool} (h:Reach F A X out [] fun _=>False)
 (hX:∀ (s:Nat) (p:Int),p∈X.getD s []↔∃ (k:Nat) (l:List Arc) (x:Arc),A[k]? =some l∧x∈l∧x.2.2.toNat=s∧p=k) (q:Nat):out[q]? =some true↔z6n F A q:=by
 refine⟨h.sound q,fun hq=>?_⟩
 induction hq with
 | fin q h1=>exact h.fin q h1
 | arc q l x h1 h2 h3 ih =>
  rcases h.clos _ ih with h4|h4|h4
  · simp at h4
  · exact h4.elim
  · have:=h4 (q:Int) ((hX _ _).2 ⟨q,l,x,h1,h2,rfl,rfl⟩)
    rwa [zA9] at this
theorem Reach.push {F:List Bool} {A:List (List Arc)} {X:List (List Int)} {out:List Bool} {stk:List Int} {skip:Nat→Prop} (h:Reach F A X out stk skip) {p:Nat} (hp:out[p]? =some false) (hl:z6n F A p):Reach F A X (out.set p true) (stk++[(p:Int)]) skip:=by
 have hpl:=(zA1.1 hp).1
 have hc:=count_set hp
 have up:∀ s:Nat,out[s]? =some true→(out.set p true)[s]? =some true:=fun s hs=>by
  by_cases e:p=s
  · subst e;exact zAp hpl
  · rw[List.getElem?_set_ne e];exact hs
 have down:∀ s:Nat,(out.set p true)[s]? =some true→s=p∨out[s]? =some true:=fun s hs=>by
  by_cases e:p=s
  · exact .inl e.symm
  · rw[List.getElem?_set_ne e] at hs;exact .inr hs
 refine⟨by rw[List.length_set];exact h.len,fun z hz=>?_,fun s hs=>?_,fun s hs=>up s (h.fin s hs),fun s hs=>?_,?_⟩
 · rw[zAt,zAq] at hz
   rcases hz with hz|rfl
   · obtain⟨s,h1,h2⟩:=h.onS z hz;exact⟨s,h1,up s h2⟩
   · exact⟨p,rfl,zAp hpl⟩
 · rcases down s hs with rfl|hs
   · exact hl
   · exact h.sound s hs
 · rcases down s hs with rfl|hs
   · exact .inl (by simp)
   · rcases h.clos s hs with h1|h1|h1
     · exact .inl (by simp[h1])
     · exact .inr (.inl h1)
     · exact .inr (.inr fun q hq=>up _ (h1 q hq))
 · rw[zAa,zAn]
   have:=h.few;omega
theorem Reach.pop {F:List Bool} {A:List (List Arc)} {X:List (List Int)} {out:List Bool} {stk:List Int} {s0:Nat} (h:Reach F A X out (stk++[(s0:Int)]) fun _=>False):Reach F A X out stk fun s=>s=s0:=by
 refine⟨h.len,fun z hz=>h.onS z (by simp[hz]),h.sound,h.fin,fun s hs=>?_,?_⟩
 · rcases h.clos s hs with h1|h1|h1
   · rw[zAt,zAq] at h1
     rcases h1 with h1|h1
     · exact .inl h1
     · exact .inr (.inl (by omega))
   · exact h1.elim
   · exact .inr (.inr h1)
 · have:=h.few;rw[zAa,zAn] at this;omega
theorem Reach.shut {F:List Bool} {A:List (List Arc)} {X:List (List Int)} {out:List Bool} {stk:List Int} {s0:Nat} (h:Reach F A X out stk fun s=>s=s0) (hc:∀ p∈X.getD s0 [],out[p.toNat]? =some true):Reach F A X out stk fun _=>False :=
 ⟨h.len,h.onS,h.sound,h.fin,fun s hs=>by
   rcases h.clos s hs with h1|rfl|h1
   · exact .inl h1
   · exact .inr (.inr hc)
   · exact .inr (.inr h1),h.few⟩
noncomputable def z56 (F:List Bool) (A:List (List Arc)):List Bool:=(List.range F.length).map fun q=>@decide (z6n F A q) (Classical.propDecidable _)
theorem zt7 {F:List Bool} {A:List (List Arc)} {out:List Bool} (hl:out.length=F.length) (h:∀ q:Nat,out[q]? =some true↔z6n F A q):out=z56 F A:=by
 refine List.ext_getElem (by simp[z56,hl]) fun i h1 h2=>?_
 simp only[z56,List.getElem_map,List.getElem_range]
 have:=h i
 rw[zA0 h1] at this
 by_cases hq:z6n F A i
 · simp only[hq,iff_true,zAh] at this
   rw[this];simp[hq]
 · simp only[hq,iff_false,zAh] at this
   cases ho:out[i] with
   | true=>exact absurd ho this
   | false=>simp[hq]
end Go.Ax
namespace Go.Ax
theorem zpi {cl:List Int} (hc:∀ q,-1≤clA cl q):∀ {l:List Arc} {p:Option Arc} {out:List Arc},okA p l→okA none out→(∀ y z,z94 none out=some y→l.head? =some z→y.2.1<z.1) →
 okA none (l.foldl (zb8 cl) out)∧∀ c,nxt (l.foldl (zb8 cl) out) c=if nxt l c=-1 then nxt out c else if nxt out c=-1 then clA cl (nxt l c) else nxt (l.foldl (zb8 cl) out) c
 | [],p,out,_,h2,_=>⟨h2,fun c=>by simp[nxt]⟩
 | x::l,p,out,h1,h2,h3=>by
  have hx:=h1.2.2.2
  have hlow:∀ c,c≤x.2.1→nxt l c=-1:=fun c hc=>zb6 hx c hc
  rw[List.foldl_cons]
  have hnext:∀ z,l.head? =some z→x.2.1<z.1:=fun z hz=>by
   cases l with
   | nil=>simp at hz
   | cons w l=>simp at hz;subst hz;exact(hx.2.2.1 x rfl).1
  rw[zb8]
  by_cases hneg:clA cl x.2.2<0
  · rw[zAz hneg]
    obtain⟨i1,i2⟩:=zpi hc (out:=out) hx h2 (fun y z hy hz=>by
     have:=h3 y x hy rfl
     have:=hnext z hz
     have:=h1.1
     omega)
    refine⟨i1,fun c=>?_⟩
    rw[i2 c,nxt]
    by_cases hcx:x.1≤c∧c≤x.2.1
    · rw[zAz hcx,zAz (hlow c hcx.2),zAy (by have:=h1.2.1;omega)]
      have:=hc x.2.2
      by_cases h0:nxt out c=-1
      · rw[zAz h0,h0];omega
      · rw[zAy h0]
    · rw[zAy hcx]
      by_cases g1:nxt l c=-1
      · rw[zAz g1,zAz g1]
      · rw[zAy g1,zAy g1]
        by_cases g2:nxt out c=-1 <;> simp[g2]
  · rw[zAy hneg]
    obtain⟨e1,e2,e3,e4⟩:=zws (q:=clA cl x.2.2) h2 h1.1 (by omega) (fun y hy=>h3 y x hy rfl)
    obtain⟨i1,i2⟩:=zpi hc (out:=ext out x.1 x.2.1 (clA cl x.2.2)) hx e1 (fun y z hy hz=>by rw[e3 y hy];exact hnext z hz)
    refine⟨i1,fun c=>?_⟩
    by_cases hcx:x.1≤c∧c≤x.2.1
    · rw[i2 c,zAz (hlow c hcx.2),e4 c,zAz hcx,nxt,zAz hcx,zAy (by have:=h1.2.1;omega)]
      have hout:nxt out c=-1:=by
       rcases zjn out with rfl|⟨m,y,rfl⟩
       · rfl
       · exact zmj h2 (z3l _ _ _) (fun _ _=>.inr (.inr trivial)) c (by have:=h3 y x (z3l _ _ _) rfl;omega)
      rw[zAz hout]
    · have e5:=e4 c
      rw[zAy hcx] at e5
      have e6:=i2 c
      rw[e5] at e6
      rw[nxt,zAy hcx]
      exact e6
theorem zbr {cl:List Int} (hc:∀ q,-1≤clA cl q) {l:List Arc} (h:okA none l):okA none (byC cl l)∧∀ c,nxt (byC cl l) c=clA cl (nxt l c):=by
 obtain⟨h1,h2⟩:=zpi hc (out:=[]) h trivial (fun y z hy=>by simp[z94] at hy)
 refine⟨h1,fun c=>?_⟩
 have:=h2 c
 rw[byC,this]
 simp only[nxt,if_true]
 split
 · rename_i g;rw[g,clA,zAz (by decide)]
 · rfl
def toB (xs:List Int):ByteArray:=⟨(xs.map fun n=>UInt8.ofNat n.toNat).toArray⟩
def z74 (n:Int):List Int:=[n / 16777216 % 256,n / 65536 % 256,n / 256 % 256,n % 256]
def zw5 (cl:List Int) (k:Int) (l:List Arc):List Int:=z74 k++(byC cl l).flatMap fun x=>z74 x.1++z74 x.2.1++z74 x.2.2
def isB (b:List Int):Prop:=∀ c∈b,0≤c∧c<256
theorem y0g:∀ {a b:List Int},isB a→isB b→toB a=toB b→a=b:=by
 intro a b ha hb h
 have h1:=congrArg (fun t:ByteArray=>t.data.toList) h
 simp only[toB] at h1
 induction a generalizing b with
 | nil=>cases b with|nil=>rfl|cons y b=>simp at h1
 | cons x a ih =>
  cases b with
  | nil=>simp at h1
  | cons y b =>
   simp only[List.map_cons,List.cons.injEq] at h1
   obtain⟨e1,e2⟩:=h1
   have hx:=ha x (by simp)
   have hy:=hb y (by simp)
   have e3:=congrArg UInt8.toNat e1
   simp only[UInt8.toNat_ofNat'] at e3
   have:x=y:=by omega
   rw[this,ih (fun c hc=>ha c (by simp[hc])) (fun c hc=>hb c (by simp[hc])) (by
    have:(a.map fun n=>UInt8.ofNat n.toNat)=b.map fun n=>UInt8.ofNat n.toNat:=e2
    simp only[toB,this]) e2]
theorem zcn (n:Int):isB (z74 n):=fun c hc=>by
 simp only[z74,zAc,List.not_mem_nil,or_false] at hc
 omega
theorem zje {a b:List Int} (ha:isB a) (hb:isB b):isB (a++b):=fun c hc=>by
 rw[zAt] at hc
 exact hc.elim (ha c) (hb c)
theorem zmb (cl:List Int) (k:Int) (l:List Arc):isB (zw5 cl k l):=by
 refine zje (zcn k) fun c hc=>?_
 rw[List.mem_flatMap] at hc
 obtain⟨x,_,hx⟩:=hc
 exact zje (zje (zcn _) (zcn _)) (zcn _) c hx
theorem zca {a b:Int} (ha:0≤a∧a<4294967296) (hb:0≤b∧b<4294967296) {x y:List Int} (h:z74 a++x=z74 b++y):a=b∧x=y:=by
 simp only[z74,List.cons_append,List.nil_append,List.cons.injEq] at h
 obtain⟨h1,h2,h3,h4,h5⟩:=h
 exact⟨by omega,h5⟩
def zbu (l:List Arc):Prop:=∀ x∈l,(0≤x.1∧x.1<4294967296)∧(0≤x.2.1∧x.2.1<4294967296)∧(0≤x.2.2∧x.2.2<4294967296)
theorem zmq:∀ {l m:List Arc},zbu l→zbu m→(l.flatMap fun x=>z74 x.1++z74 x.2.1++z74 x.2.2)=(m.flatMap fun x=>z74 x.1++z74 x.2.1++z74 x.2.2)→l=m
 | [],[],_,_,_=>rfl
 | [],y::m,_,_,h=>by simp[z74] at h
 | x::l,[],_,_,h=>by simp[z74] at h
 | x::l,y::m,hl,hm,h=>by
  rw[List.flatMap_cons,List.flatMap_cons,zAl,zAl,zAl,zAl] at h
  obtain⟨x1,x2,x3⟩:=hl x (by simp)
  obtain⟨y1,y2,y3⟩:=hm y (by simp)
  obtain⟨e1,h⟩:=zca x1 y1 h
  obtain⟨e2,h⟩:=zca x2 y2 h
  obtain⟨e3,h⟩:=zca x3 y3 h
  rw[zmq (fun z hz=>hl z (by simp[hz])) (fun z hz=>hm z (by simp[hz])) h]
  congr 1
  obtain⟨a,b,c⟩:=x;obtain⟨a',b',c'⟩:=y
  simp only at e1 e2 e3;rw[e1,e2,e3]
theorem zjc {cl:List Int} {k k':Int} {l m:List Arc} (hk:0≤k∧k<4294967296) (hk':0≤k'∧k'<4294967296) (hl:zbu (byC cl l)) (hm:zbu (byC cl m)) (h:toB (zw5 cl k l)=toB (zw5 cl k' m)):k=k'∧byC cl l=byC cl m:=by
 have:=y0g (zmb _ _ _) (zmb _ _ _) h
 obtain⟨e1,e2⟩:=zca hk hk' this
 exact⟨e1,zmq hl hm e2⟩
def sgA (A:List (List Arc)) (cl:List Int) (q:Nat):ByteArray:=toB (zw5 cl (cl.getD q 0) (A.getD q []))
def z9i (A:List (List Arc)) (cl:List Int) (s:List ByteArray × List Int) (q:Nat):List ByteArray × List Int :=
 if cl.getD q 0<0 then (s.1,s.2++[-1]) else (z7c s.1 (sgA A cl q),s.2++[((z4l (sgA A cl q) s.1:Nat):Int)])
def rnd (A:List (List Arc)) (cl:List Int):List ByteArray × List Int:=(List.range cl.length).foldl (z9i A cl) ([],[])
def zkm (A:List (List Arc)) (lim:Nat):Nat→Nat→List Int→Option (List Int)
 | 0,_,_=>none
 | f+1,c,cl=>if lim<(rnd A cl).1.length then none else if (rnd A cl).1.length=c then some (rnd A cl).2 else zkm A lim f (rnd A cl).1.length (rnd A cl).2
structure RnS (A:List (List Arc)) (cl:List Int) (q:Nat) (s:List ByteArray × List Int):Prop where
 len:s.2.length=q
 nod:s.1.Nodup
 few:s.1.length≤q
 at_:∀ p,p<q→(cl.getD p 0<0→s.2[p]? =some (-1))∧(0≤cl.getD p 0→sgA A cl p∈s.1∧s.2[p]? =some ((z4l (sgA A cl p) s.1:Nat):Int))
 src:∀ g∈s.1,∃ p,p<q∧0≤cl.getD p 0∧sgA A cl p=g
theorem RnS.step {A:List (List Arc)} {cl:List Int} {q:Nat} {s:List ByteArray × List Int} (h:RnS A cl q s):RnS A cl (q+1) (z9i A cl s q):=by
 rw[z9i]
 by_cases hn:cl.getD q 0<0
 · rw[zAz hn]
   refine⟨by simp[h.len],h.nod,by have:=h.few;simp only;omega,fun p hp=>?_,fun g hg=>?_⟩
   · by_cases hpq:p<q
     · obtain⟨h1,h2⟩:=h.at_ p hpq
       rw[zAb (by rw[h.len];exact hpq)]
       exact⟨h1,h2⟩
     · obtain rfl:p=q:=by omega
       refine⟨fun _=>?_,fun g=>by omega⟩
       simp only
       rw[zAg (by rw[h.len];omega),h.len,Nat.sub_self];rfl
   · obtain⟨p,p1,p2⟩:=h.src g hg;exact⟨p,by omega,p2⟩
 · rw[zAy hn]
   obtain⟨r,hr⟩:=z7l s.1 (sgA A cl q)
   refine⟨by simp[h.len],zax h.nod,?_,fun p hp=>?_,fun g hg=>?_⟩
   · have:=h.few;simp only[z7c];split <;> simp <;> omega
   · by_cases hpq:p<q
     · obtain⟨h1,h2⟩:=h.at_ p hpq
       rw[zAb (by rw[h.len];exact hpq)]
       refine⟨h1,fun g=>?_⟩
       obtain⟨h3,h4⟩:=h2 g
       simp only
       rw[hr]
       exact⟨List.mem_append_left _ h3,by rw[zcf h3];exact h4⟩
     · obtain rfl:p=q:=by omega
       refine⟨fun g=>absurd g hn,fun _=>⟨za7 _ _,?_⟩⟩
       simp only
       rw[zAg (by rw[h.len];omega),h.len,Nat.sub_self,zgb];rfl
   · simp only[z7c] at hg
     split at hg
     · obtain⟨p,p1,p2⟩:=h.src g hg;exact⟨p,by omega,p2⟩
     · rw[zAt,zAq] at hg
       rcases hg with hg|rfl
       · obtain⟨p,p1,p2⟩:=h.src g hg;exact⟨p,by omega,p2⟩
       · exact⟨q,by omega,by omega,rfl⟩
theorem rnS (A:List (List Arc)) (cl:List Int):∀ q,RnS A cl q ((List.range q).foldl (z9i A cl) ([],[]))
 | 0=>⟨rfl,by simp,by simp,fun p hp=>absurd hp (Nat.not_lt_zero _),by simp⟩
 | q+1=>by rw[List.range_succ,List.foldl_append,List.foldl_cons,List.foldl_nil];exact(rnS A cl q).step
theorem y0r (A:List (List Arc)) (cl:List Int):RnS A cl cl.length (rnd A cl):=rnS A cl _
def Full (c:Nat) (cl:List Int):Prop:=∀ k:Nat,k<c→∃ q,q<cl.length∧cl.getD q 0=(k:Int)
theorem z47 {l:List Int} {i:Nat} {x:Int} (h:l[i]? =some x):l.getD i 0=x:=by rw[List.getD,h];rfl
theorem zvf (A:List (List Arc)) (cl:List Int):Full (rnd A cl).1.length (rnd A cl).2:=fun k hk=>by
 have hR:=y0r A cl
 obtain⟨g,hg⟩:∃ g,(rnd A cl).1[k]? =some g:=⟨_,zA0 hk⟩
 obtain⟨p,p1,p2,p3⟩:=hR.src g (zA2 hg)
 obtain⟨h1,h2⟩:=(hR.at_ p p1).2 p2
 refine⟨p,by rw[hR.len];exact p1,?_⟩
 rw[z47 h2,p3]
 have hm:=zA2 hg
 obtain⟨i1,i2⟩:=z43 hm
 have:z4l g (rnd A cl).1=k:=by
  obtain⟨a1,a2⟩:=zA1.1 i2
  obtain⟨b1,b2⟩:=zA1.1 hg
  exact(List.getElem_inj (h₀:=a1) (h₁:=b1) hR.nod).1 (a2.trans b2.symm)
 rw[this]
theorem z9s {α:Type} [DecidableEq α]:∀ {l m:List α},l.Nodup→(∀ x∈l,x∈m)→l.length≤m.length
 | [],m,_,_=>zAf _
 | x::l,m,h,hs=>by
  have h1:=List.nodup_cons.1 h
  have hx:=hs x (by simp)
  have:=z9s (l:=l) (m:=m.erase x) h1.2 fun y hy=>by
   rw[List.mem_erase_of_ne (fun e:y=x=>h1.1 (by rw[← e];exact hy))]
   exact hs y (by simp[hy])
  have h3:=List.length_erase_of_mem hx
  have h4:=List.length_pos_of_mem hx
  rw[zAk];omega
theorem zn6 {A:List (List Arc)} {cl:List Int} {c:Nat} (hF:Full c cl) (hs:∀ q,q<cl.length→cl.getD q 0<4294967296) (hsm:∀ q,q<cl.length→zbu (byC cl (A.getD q []))):c≤(rnd A cl).1.length ∧
 (c=(rnd A cl).1.length→∀ p r,p<cl.length→r<cl.length→0≤cl.getD p 0→cl.getD p 0<c→cl.getD p 0=cl.getD r 0→sgA A cl p=sgA A cl r):=by
 have hR:=y0r A cl
 -- a signature for each class
 have hw:∀ k:Nat,∃ q,k<c→q<cl.length∧cl.getD q 0=(k:Int):=fun k=>by
  by_cases hk:k<c
  · obtain⟨q,h1,h2⟩:=hF k hk;exact⟨q,fun _=>⟨h1,h2⟩⟩
  · exact⟨0,fun h=>absurd h hk⟩
 obtain⟨f,hf⟩:∃ f:Nat→Nat,∀ k,k<c→f k<cl.length∧cl.getD (f k) 0=(k:Int):=⟨fun k=>Classical.choose (hw k),fun k=>Classical.choose_spec (hw k)⟩
 have hinj:∀ p r,p<cl.length→r<cl.length→0≤cl.getD p 0→0≤cl.getD r 0→sgA A cl p=sgA A cl r→cl.getD p 0=cl.getD r 0:=fun p r hp hr h1 h2 h=>(zjc ⟨h1,hs p hp⟩ ⟨h2,hs r hr⟩ (hsm p hp) (hsm r hr) h).1
 let L:=(List.range c).map fun k=>sgA A cl (f k)
 have hLn:L.Nodup:=by
  show List.Pairwise (· ≠·) _
  rw[List.pairwise_map]
  refine List.Pairwise.imp_of_mem ?_ (List.nodup_range (n:=c))
  intro a b ha hb hab e
  rw[List.mem_range] at ha hb
  obtain⟨a1,a2⟩:=hf a ha
  obtain⟨b1,b2⟩:=hf b hb
  have:=hinj _ _ a1 b1 (by omega) (by omega) e
  omega
 have hLs:∀ x∈L,x∈(rnd A cl).1:=fun x hx=>by
  simp only[L,List.mem_map,List.mem_range] at hx
  obtain⟨k,hk,rfl⟩:=hx
  obtain⟨k1,k2⟩:=hf k hk
  exact((hR.at_ (f k) k1).2 (by omega)).1
 have hLl:L.length=c:=by simp[L]
 refine⟨by have:=z9s hLn hLs;omega,fun hc p r hp hr h0 h1 hpr=>?_⟩
 -- then the signatures of the choice are all
 have hall:∀ x∈(rnd A cl).1,x∈L:=fun x hx=>by
  false_or_by_contra
  rename_i hn
  have:=z9s (l:=x::L) (m:=(rnd A cl).1) (List.nodup_cons.2 ⟨hn,hLn⟩) (fun y hy=>by
   rw[zAc] at hy
   rcases hy with rfl|hy
   · exact hx
   · exact hLs y hy)
  rw[zAk] at this;omega
 have one:∀ q,q<cl.length→0≤cl.getD q 0→sgA A cl q=sgA A cl (f (cl.getD q 0).toNat):=fun q hq h0=>by
  have:=hall _ ((hR.at_ q hq).2 h0).1
  simp only[L,List.mem_map,List.mem_range] at this
  obtain⟨k,hk,he⟩:=this
  obtain⟨k1,k2⟩:=hf k hk
  have e:=hinj _ _ k1 hq (by omega) h0 he
  rw[k2] at e
  rw[← e,zA9,he]
 rw[one p hp h0,one r hr (by omega),hpr]
end Go.Ax
namespace Go.Ax
theorem zuw {l:List Arc} {f t q:Int} {y:Arc} (h:y∈ext l f t q):y∈l∨(y.2.1=t∧y.2.2=q∧(y.1=f∨∃ z∈l,y.1=z.1)):=by
 rcases zjn l with rfl|⟨m,z,rfl⟩
 · rw[ext_nil,zAq] at h;subst h;exact .inr ⟨rfl,rfl,.inl rfl⟩
 · rw[z4k] at h
   split at h
   · rw[zAt,zAq] at h
     rcases h with h|h
     · exact .inl (List.mem_append_left _ h)
     · subst h;exact .inr ⟨rfl,rfl,.inr ⟨z,by simp,rfl⟩⟩
   · rw[zAt,zAq] at h
     rcases h with h|h
     · exact .inl h
     · subst h;exact .inr ⟨rfl,rfl,.inl rfl⟩
theorem zq8 {cl:List Int} {B:Int} (hc:∀ q,clA cl q≤B):∀ {l out:List Arc},(∀ x∈l,0≤x.1∧x.1≤x.2.1∧x.2.1≤1114111)→(∀ y∈out,0≤y.1∧y.1≤1114111∧0≤y.2.1∧y.2.1≤1114111∧0≤y.2.2∧y.2.2≤B)→∀ y∈l.foldl (zb8 cl) out,0≤y.1∧y.1≤1114111∧0≤y.2.1∧y.2.1≤1114111∧0≤y.2.2∧y.2.2≤B
 | [],out,_,h2=>h2
 | x::l,out,h1,h2=>by
  rw[List.foldl_cons]
  refine zq8 hc (fun z hz=>h1 z (by simp[hz])) fun y hy=>?_
  rw[zb8] at hy
  split at hy
  · exact h2 y hy
  · rename_i hn
    obtain⟨x1,x2,x3⟩:=h1 x (by simp)
    rcases zuw hy with h|⟨e1,e2,e3⟩
    · exact h2 y h
    · have:=hc x.2.2
      rcases e3 with e3|⟨z,hz,e3⟩
      · omega
      · have:=h2 z hz;omega
theorem zfk {cl:List Int} {B:Int} (hc:∀ q,clA cl q≤B) {l:List Arc} (h1:∀ x∈l,0≤x.1∧x.1≤x.2.1∧x.2.1≤1114111):∀ y∈byC cl l,0≤y.1∧y.1≤1114111∧0≤y.2.1∧y.2.1≤1114111∧0≤y.2.2∧y.2.2≤B:=zq8 hc h1 (by simp)
theorem zpf {cl:List Int}:∀ {l out:List Arc},(l.foldl (zb8 cl) out).length≤out.length+l.length
 | [],out=>by simp
 | x::l,out=>by
  rw[List.foldl_cons]
  have:=zpf (cl:=cl) (l:=l) (out:=zb8 cl out x)
  have h2:(zb8 cl out x).length≤out.length+1:=by
   rw[zb8];split
   · omega
   · exact zb7 _ _ _ _
  simp only[zAk];omega
theorem zql {cl:List Int} {l:List Arc}:(byC cl l).length≤l.length:=by have:=zpf (cl:=cl) (l:=l) (out:=[]);simpa[byC] using this
structure ClW (n c:Nat) (cl:List Int):Prop where
 len:cl.length=n
 full:Full c cl
 rng:∀ x∈cl,-1≤x∧x≤4000000
 few:c≤n
theorem zah {cl:List Int} (h:∀ x∈cl,-1≤x∧x≤4000000) (q:Int):-1≤clA cl q∧clA cl q≤4000000:=by
 rw[clA]
 split
 · omega
 · cases hq:cl[q.toNat]? with
   | none=>rw[List.getD,hq];simp
   | some x=>rw[z47 hq];exact h x (zA2 hq)
theorem z5u {cl:List Int} (h:∀ x∈cl,-1≤x∧x≤4000000) (q:Nat):-1≤cl.getD q 0∧cl.getD q 0≤4000000:=by
 cases hq:cl[q]? with
 | none=>rw[List.getD,hq];simp
 | some x=>rw[z47 hq];exact h x (zA2 hq)
theorem za2 {cl:List Int} (h:∀ x∈cl,-1≤x∧x≤4000000) {l:List Arc} (h1:∀ x∈l,0≤x.1∧x.1≤x.2.1∧x.2.1≤1114111):zbu (byC cl l):=fun y hy=>by
 have:=zfk (B:=4000000) (fun q=>(zah h q).2) h1 y hy
 omega
theorem zqp {A:List (List Arc)} {cl:List Int} {n c:Nat} (hn:n≤4000000) (h:ClW n c cl) (hA:∀ l∈A,∀ x∈l,0≤x.1∧x.1≤x.2.1∧x.2.1≤1114111):c≤(rnd A cl).1.length∧ClW n (rnd A cl).1.length (rnd A cl).2:=by
 have hR:=y0r A cl
 have hfew:=hR.few
 have hl:=hR.len
 have hcl:=h.len
 refine⟨(zn6 h.full (fun q _=>by have:=z5u h.rng q;omega) (fun q _=>za2 h.rng ?_)).1,by omega,zvf A cl,fun x hx=>?_,by omega⟩
 · cases hq:A[q]? with
   | none=>rw[List.getD,hq];simp
   | some l=>rw[List.getD,hq];exact hA l (zA2 hq)
 · obtain⟨p,hp⟩:=List.mem_iff_getElem?.1 hx
   have hpl:p<cl.length:=by have:=(zA1.1 hp).1;omega
   obtain⟨h1,h2⟩:=hR.at_ p hpl
   by_cases hn0:cl.getD p 0<0
   · rw[h1 hn0] at hp;cases hp;omega
   · obtain⟨h3,h4⟩:=h2 (by omega)
     rw[h4] at hp;cases hp
     have:=(z43 h3).1
     omega
noncomputable def cl0 (F:List Bool) (A:List (List Arc)):List Int:=(List.range F.length).map fun q=>if (z56 F A).getD q false=true then (if F.getD q false=true then 1 else 0) else -1
theorem zp7 (F:List Bool) (A:List (List Arc)):ClW F.length 0 (cl0 F A) :=
 ⟨by simp[cl0],fun k hk=>absurd hk (Nat.not_lt_zero _),fun x hx=>by
   simp only[cl0,List.mem_map] at hx
   obtain⟨q,_,rfl⟩:=hx
   split
   · split <;> omega
   · omega,zAf _⟩
noncomputable def zwz (F:List Bool) (A:List (List Arc)) (lim:Nat):Option (List Int):=zkm A lim (F.length+1) 0 (cl0 F A)
end Go.Ax
namespace Go.Ax
theorem zr9:∀ {l:List Arc} {p:Option Arc},okA p l→∀ e∈l,e.1≤e.2.1
 | [],_,_,e,he=>by simp at he
 | x::l,p,h,e,he=>by
  rw[zAc] at he
  rcases he with rfl|he
  · exact h.1
  · exact zr9 h.2.2.2 e he
theorem zi1:∀ {l:List Arc} {y:Arc},okA (some y) l→∀ e∈l,y.2.1<e.1
 | [],_,_,e,he=>by simp at he
 | x::l,y,h,e,he=>by
  have h1:=(h.2.2.1 y rfl).1
  rw[zAc] at he
  rcases he with rfl|he
  · exact h1
  · have:=zi1 h.2.2.2 e he
    have:=h.1;omega
theorem zjl:∀ {l:List Arc} {p:Option Arc},okA p l→∀ {e:Arc},e∈l→nxt l e.1=e.2.2
 | [],_,_,e,he=>by simp at he
 | x::l,p,h,e,he=>by
  rw[zAc] at he
  rcases he with rfl|he
  · exact z8n (Int.le_refl _) h.1
  · have:=zi1 h.2.2.2 e he
    rw[nxt,zAy (by omega)]
    exact zjl h.2.2.2 he
theorem zim {c:Int}:∀ {l:List Arc},nxt l c≠-1→∃ y∈l,y.2.2=nxt l c
 | [],h=>absurd rfl h
 | x::l,h=>by
  rw[nxt] at h ⊢
  split
  · exact⟨x,by simp,rfl⟩
  · rename_i hc
    rw[zAy hc] at h
    obtain⟨y,hy,e⟩:=zim h
    exact⟨y,by simp[hy],e⟩
end Go.Ax
namespace Go.Ax
theorem zji {l:List Int} {B:Nat} (h:l.Pairwise (· <·)) (hr:∀ z∈l,0≤z∧z≤B):l.length≤B+1:=by
 have h1:l.Nodup:=h.imp fun {a b} hab e=>by omega
 have:=z9s (m:=(List.range (B+1)).map fun k:Nat=>(k:Int)) h1 fun x hx=>by
  have:=hr x hx
  rw[List.mem_map]
  exact⟨x.toNat,by rw[List.mem_range];omega,by omega⟩
 simpa using this
end Go.Ax
namespace Go.Ax
def srt (l:List Int):List Int:=l.mergeSort fun x y=>decide (x≤y)
theorem z7j (l:List Int):(srt l).Perm l:=List.mergeSort_perm l _
theorem z9f (l:List Int):(srt l).Pairwise (· ≤·):=by
 have:=List.pairwise_mergeSort (le:=fun x y:Int=>decide (x≤y)) (fun a b c h1 h2=>by simp only[zA3] at *;omega) (fun a b=>by simp only[zAu,zA3];omega) l
 exact this.imp fun h=>by simpa using h
theorem zx2 {l m:List Int} (h:l.Perm m) (hm:m.Pairwise (· ≤·)):srt l=m :=
 List.Perm.eq_of_pairwise (fun a b _ _ h1 h2=>Int.le_antisymm h1 h2) (z9f l) hm ((z7j l).trans h)
theorem zkg (l:List Int):(srt l).length=l.length:=(z7j l).length_eq
theorem y2n {A B:List Int} {x:Int} (h:(A++B).Pairwise (· ≤·)) (h1:∀ y∈A,y≤x) (h2:∀ y∈B,x≤y):(A++x::B).Pairwise (· ≤·):=by
 rw[List.pairwise_append] at h ⊢
 refine⟨h.1,List.pairwise_cons.2 ⟨h2,h.2.1⟩,fun a ha b hb=>?_⟩
 rw[zAc] at hb
 rcases hb with rfl|hb
 · exact h1 a ha
 · exact h.2.2 a ha b hb
theorem zur {A:List Int} {y:Int} (h:(A++[y]).Pairwise (· ≤·)):∀ z∈A++[y],z≤y:=fun z hz=>by
 rw[List.pairwise_append] at h
 rw[zAt,zAq] at hz
 rcases hz with hz|rfl
 · exact h.2.2 z hz y (by simp)
 · exact Int.le_refl _
end Go.Ax
namespace Go.Ax
def cq:Int→List Int→List Int
 | _,[]=>[]
 | x,y::l=>if x=y then cq y l else y::cq y l
def cpt:List Int→List Int
 | []=>[]
 | x::l=>x::cq x l
theorem zxe:∀ (l:List Int) (x:Int),(x::l).Pairwise (· ≤·)→(x::cq x l).Pairwise (· <·)∧∀ z,z∈x::cq x l↔z∈x::l
 | [],x,_=>by simp[cq]
 | y::l,x,h=>by
  have h1:=List.pairwise_cons.1 h
  have hxy:=h1.1 y (by simp)
  obtain⟨i1,i2⟩:=zxe l y h1.2
  rw[cq]
  split
  · rename_i e
    subst e
    exact⟨i1,fun z=>by rw[i2 z];simp⟩
  · rename_i e
    refine⟨List.pairwise_cons.2 ⟨fun z hz=>?_,i1⟩,fun z=>?_⟩
    · have hyz:y≤z:=by
       have:=(i2 z).1 hz
       rw[zAc] at this
       rcases this with rfl|this
       · exact Int.le_refl _
       · exact(List.pairwise_cons.1 h1.2).1 z this
      omega
    · rw[zAc,i2 z];simp only[zAc]
theorem zdg {l:List Int} (h:l.Pairwise (· ≤·)):(cpt l).Pairwise (· <·)∧∀ z,z∈cpt l↔z∈l:=by
 cases l with
 | nil=>simp[cpt]
 | cons x l=>exact zxe l x h
theorem zvz:∀ (l:List Int) (x:Int),(cq x l).length≤l.length
 | [],_=>zAj _
 | y::l,x=>by rw[cq];split <;> simp only[zAk] <;> have:=zvz l y <;> omega
theorem zq0 (l:List Int):(cpt l).length≤l.length:=by
 cases l with
 | nil=>simp[cpt]
 | cons x l=>rw[cpt];have:=zvz l x;simp only[zAk];omega
end Go.Ax
namespace Go.Ax
theorem zoh:∀ {l:List Arc} {p:Option Arc} {a:Int},okA p l→(∀ x∈l,x.2.1≤1114111)→(∀ x∈l,a≤x.1)→okE (K:=Int) a l
 | [],_,_,_,_,_=>trivial
 | x::l,p,a,h,h1,h2=>⟨h2 x (by simp),h.1,h1 x (by simp),zoh h.2.2.2 (fun y hy=>h1 y (by simp[hy])) fun y hy=>by have:=zi1 h.2.2.2 y hy;omega⟩
theorem zf4:∀ {l:List Arc} {p:Option Arc},okA p l→∀ c,kx (K:=Int) l c=if nxt l c=-1 then none else some (nxt l c)
 | [],_,_,c=>rfl
 | x::l,p,h,c=>by
  rw[kx,nxt]
  split
  · have:=h.2.1
    rw[zAy (by omega)]
  · exact zf4 h.2.2.2 c
theorem zsh {a:Au} (h:∀ q,okA none (a.arcs q)):∀ (w:List Int) (q:Int),zc4 a.fin a.arcs (some q) w=a.acc q w
 | [],q=>rfl
 | c::w,q=>by
  rw[zc4,zf4 (h q),Au.acc_cons,Au.nx]
  by_cases e:nxt (a.arcs q) c=-1
  · rw[zAz e,e,a.acc_neg w (by decide)];cases w <;> rfl
  · rw[zAy e];exact zsh h w _
section
variable {K:Type} [DecidableEq K]
theorem zuk {fin:K→Bool} {edg:K→List (Edge K)} {first:K} {i:Nat} {ks:List K} {a:Au} (h:Ex fin edg first i ks a) {ok:K→Prop} (h0:ok first)
 (hc:∀ k,ok k→∀ c k',kx (edg k) c=some k'→ok k'):∀ (j:Nat) (k:K),ks[j]? =some k→ok k:=by
 intro j
 induction j using Nat.strongRecOn with
 | _ j ih =>
  intro k hk
  by_cases hj:j=0
  · subst hj;rw[h.hd] at hk;cases hk;exact h0
  · obtain⟨q,k0,c,_,hq,hk0,⟨k',e1,e2⟩,_⟩:=h.bfs j (by omega) (zA1.1 hk).1
    rw[hk] at e2;cases e2
    exact hc k0 (ih q hq k0 hk0) c k e1
theorem zcl {fin:K→Bool} {edg:K→List (Edge K)} {first:K} {lim:Nat} (he:∀ k,okE 0 (edg k)) {ok:K→Prop} (h0:ok first) (hc:∀ k,ok k→∀ c k',kx (edg k) c=some k'→ok k')
 (hfew:∀ l:List K,l.Nodup→(∀ x∈l,ok x)→l.length≤lim):∀ (n i:Nat) (ks:List K) (a:Au),Ex fin edg first i ks a→lim+1≤n+i→∃ b,exL fin edg lim n i ks a=some b
 | 0,i,ks,a,h,hn=>by
  have h1:=h.le
  have h2:=hfew ks h.nod fun x hx=>by
   obtain⟨j,hj⟩:=zAw hx
   exact zuk h h0 hc j x hj
  omega
 | n+1,i,ks,a,h,hn=>by
  rw[exL]
  cases hk:ks[i]? with
  | none=>exact⟨a,rfl⟩
  | some k =>
   have hs:=zrs h hk (he k)
   have h2:=hfew _ hs.nod fun x hx=>by
    obtain⟨j,hj⟩:=zAw hx
    exact zuk hs h0 hc j x hj
   simp only
   rw[zAy (by omega)]
   exact zcl he h0 hc hfew n (i+1) _ _ hs (by omega)
theorem zre {fin:K→Bool} {edg:K→List (Edge K)} {first:K} {ks:List K} {a:Au} (h:Ex fin edg first ks.length ks a) {ok:K→Prop} (h0:ok first) (hc:∀ k,ok k→∀ c k',kx (edg k) c=some k'→ok k') {lim:Nat}
 (hfew:∀ l:List K,l.Nodup→(∀ x∈l,ok x)→l.length≤lim):a.F.length≤lim:=by
 rw[h.fl]
 exact hfew ks h.nod fun x hx=>by
  obtain⟨j,hj⟩:=zAw hx
  exact zuk h h0 hc j x hj
end
theorem zdm {n:Nat} {l:List Int} (h:l.Nodup) (hr:∀ x∈l,0≤x∧x<n):l.length≤n:=by
 have:=z9s (m:=(List.range n).map fun k:Nat=>(k:Int)) h fun x hx=>by
  have:=hr x hx
  exact List.mem_map.2 ⟨x.toNat,List.mem_range.2 (by omega),by omega⟩
 simpa using this
structure AuW (a:Au):Prop where
 len:a.A.length=a.F.length
 arc:∀ l∈a.A,okA none l∧∀ x∈l,0≤x.1∧x.1≤x.2.1∧x.2.1≤1114111∧0≤x.2.2∧x.2.2<a.F.length
 pos:0<a.F.length
theorem AuW.arcs {a:Au} (h:AuW a) (q:Int):okA none (a.arcs q)∧∀ x∈a.arcs q,0≤x.1∧x.1≤x.2.1∧x.2.1≤1114111∧0≤x.2.2∧x.2.2<a.F.length:=by
 rw[Au.arcs]
 split
 · exact⟨trivial,by simp⟩
 · cases hq:a.A[q.toNat]? with
   | none=>rw[List.getD,hq];exact⟨trivial,by simp⟩
   | some l=>rw[List.getD,hq];exact h.arc l (zA2 hq)
theorem AuW.okE {a:Au} (h:AuW a) (q:Int):okE (K:=Int) 0 (a.arcs q) :=
 zoh (h.arcs q).1 (fun x hx=>((h.arcs q).2 x hx).2.2.1) fun x hx=>((h.arcs q).2 x hx).1
theorem AuW.nx {a:Au} (h:AuW a) (q c:Int):-1≤a.nx q c∧a.nx q c<a.F.length:=by
 rw[Au.nx]
 have h1:=(h.arcs q).2
 by_cases e:nxt (a.arcs q) c=-1
 · rw[e];omega
 · obtain⟨y,hy,e2⟩:=zim e
   have:=h1 y hy
   omega
theorem zqt {a:Au} (h:AuW a) {q:Nat} (hl:z6n a.F a.A q):∃ w,a.acc (q:Nat) w=true:=by
 induction hl with
 | fin q hq=>exact⟨[],by rw[Au.acc_nil,Au.fin,zAy (by omega),zA9,List.getD,hq];rfl⟩
 | arc q l x hq hx _ ih =>
  obtain⟨w,hw⟩:=ih
  have h1:=(h.arc l (zA2 hq))
  have h2:=h1.2 x hx
  refine⟨x.1::w,?_⟩
  have e:a.nx (q:Nat) x.1=x.2.2:=by rw[Au.nx,Au.arcs,zAy (by omega),zA9,List.getD,hq];exact zjl h1.1 hx
  rw[Au.acc_cons,e,show x.2.2=((x.2.2.toNat:Nat):Int) by omega]
  exact hw
theorem zhe {a:Au} (h:AuW a):∀ (w:List Int) (q:Nat),a.acc (q:Nat) w=true→z6n a.F a.A q
 | [],q,hw=>by
  rw[Au.acc_nil,Au.fin,zAy (by omega),zA9,List.getD] at hw
  refine .fin q ?_
  cases hq:a.F[q]? with
  | none=>rw[hq] at hw;cases hw
  | some b=>rw[hq] at hw;simp at hw;rw[hw]
 | c::w,q,hw=>by
  rw[Au.acc_cons] at hw
  by_cases e:a.nx (q:Nat) c=-1
  · rw[e,a.acc_neg w (by decide)] at hw;cases hw
  · have e1:=e
    rw[Au.nx] at e1
    obtain⟨y,hy,e2⟩:=zim e1
    have hy0:=hy
    rw[Au.arcs,zAy (by omega),zA9] at hy
    cases hq:a.A[q]? with
    | none=>rw[List.getD,hq] at hy;simp at hy
    | some l =>
     rw[List.getD,hq] at hy
     have h2:=((h.arcs (q:Nat)).2 y hy0)
     refine .arc q l y hq hy (zhe h w _ ?_)
     rw[show ((y.2.2.toNat:Nat):Int)=y.2.2 by omega,e2]
     exact hw
structure zt2 (a:Au) (cl:List Int):Prop where
 len:cl.length=a.F.length
 rng:∀ x∈cl,-1≤x∧x≤4000000
 dead:∀ q:Nat,q<a.F.length→(cl.getD q 0<0↔∀ w,a.acc (q:Nat) w=false)
 same:∀ p q:Nat,p<a.F.length→q<a.F.length→(∀ w,a.acc (p:Nat) w=a.acc (q:Nat) w)→cl.getD p 0=cl.getD q 0
 fin_:∀ p q:Nat,p<a.F.length→q<a.F.length→cl.getD p 0=cl.getD q 0→a.fin (p:Nat)=a.fin (q:Nat)
theorem z4o (cl:List Int) (q:Nat):clA cl (q:Nat)=cl.getD q 0:=by rw[clA,zAy (by omega),zA9]
theorem z7q (cl:List Int):clA cl (-1)=-1:=by rw[clA,zAz (by decide)]
theorem zt2.to {a:Au} {cl:List Int} (h:zt2 a cl) {p q:Int} (hp:-1≤p∧p<a.F.length) (hq:-1≤q∧q<a.F.length) (hs:∀ w,a.acc p w=a.acc q w):clA cl p=clA cl q:=by
 have one:∀ {p:Int},-1≤p∧p<a.F.length→(∀ w,a.acc p w=false)→clA cl p=-1:=fun {p} hp hd=>by
  by_cases e:p=-1
  · rw[e,z7q]
  · obtain⟨p,rfl⟩:∃ k:Nat,p=k:=⟨p.toNat,by omega⟩
    rw[z4o]
    have h1:=(h.dead p (by omega)).2 hd
    have h2:=(z5u h.rng p).1
    omega
 by_cases e:p=-1
 · have hd:∀ w,a.acc q w=false:=fun w=>by rw[← hs w,e];exact a.acc_neg w (by decide)
   rw[one hq hd,e,z7q]
 by_cases e2:q=-1
 · have hd:∀ w,a.acc p w=false:=fun w=>by rw[hs w,e2];exact a.acc_neg w (by decide)
   rw[one hp hd,e2,z7q]
 obtain⟨p,rfl⟩:∃ k:Nat,p=k:=⟨p.toNat,by omega⟩
 obtain⟨q,rfl⟩:∃ k:Nat,q=k:=⟨q.toNat,by omega⟩
 rw[z4o,z4o]
 exact h.same p q (by omega) (by omega) hs
theorem z8s {F:List Bool} {A:List (List Arc)} {q:Nat} (hq:q<F.length):(z56 F A).getD q false=true↔z6n F A q:=by
 rw[z56,List.getD,zAd,List.getElem?_range hq]
 simp
theorem zhl {F:List Bool} {A:List (List Arc)} {q:Nat} (hq:q<F.length):(cl0 F A).getD q 0=if (z56 F A).getD q false=true then (if F.getD q false=true then 1 else 0) else -1:=by
 rw[cl0,List.getD,zAd,List.getElem?_range hq];rfl
theorem zck {a:Au} (h:AuW a) (q:Nat):¬ z6n a.F a.A q↔∀ w,a.acc (q:Nat) w=false:=by
 constructor
 · intro hn w
   cases hw:a.acc (q:Nat) w with
   | false=>rfl
   | true=>exact absurd (zhe h w q hw) hn
 · intro hd hl
   obtain⟨w,hw⟩:=zqt h hl
   rw[hd w] at hw;cases hw
theorem zfi (a:Au) (q:Nat):a.fin (q:Nat)=a.F.getD q false:=by rw[Au.fin,zAy (by omega),zA9]
theorem zy1 {a:Au} (h:AuW a):zt2 a (cl0 a.F a.A):=by
 have hW:=zp7 a.F a.A
 have dd:∀ q:Nat,q<a.F.length→((cl0 a.F a.A).getD q 0<0↔∀ w,a.acc (q:Nat) w=false):=fun q hq=>by
  rw[← zck h q,zhl hq]
  by_cases hl:(z56 a.F a.A).getD q false=true
  · rw[zAz hl]
    have:=(z8s hq).1 hl
    constructor
    · intro h2;split at h2 <;> omega
    · intro h2;exact absurd this h2
  · rw[zAy hl]
    exact⟨fun _ h2=>hl ((z8s hq).2 h2),fun _=>by decide⟩
 refine⟨hW.len,hW.rng,dd,fun p q hp hq hs=>?_,fun p q hp hq e=>?_⟩
 · have e1:a.F.getD p false=a.F.getD q false:=by have:=hs [];rwa [Au.acc_nil,Au.acc_nil,zfi,zfi] at this
   have e2:(z56 a.F a.A).getD p false=true↔(z56 a.F a.A).getD q false=true:=by
    rw[z8s hp,z8s hq]
    have h1:=zck h p
    have h2:=zck h q
    have h3:(∀ w,a.acc (p:Nat) w=false)↔(∀ w,a.acc (q:Nat) w=false):=⟨fun g w=>by rw[← hs w];exact g w,fun g w=>by rw[hs w];exact g w⟩
    have h4:=h1.trans (h3.trans h2.symm)
    constructor
    · intro x;exact Classical.byContradiction fun y=>h4.2 y x
    · intro x;exact Classical.byContradiction fun y=>h4.1 y x
   rw[zhl hp,zhl hq,e1]
   simp only[e2]
 · rw[zfi,zfi]
   rw[zhl hp,zhl hq] at e
   have nl:∀ q:Nat,q<a.F.length→¬ (z56 a.F a.A).getD q false=true→a.F.getD q false=false:=fun q hq hn=>by
    cases hf:a.F.getD q false with
    | false=>rfl
    | true =>
     refine absurd ((z8s hq).2 (.fin q ?_)) hn
     rw[List.getD,zA0 hq] at hf
     rw[zA0 hq];simp at hf;rw[hf]
   by_cases h1:(z56 a.F a.A).getD p false=true <;> by_cases h2:(z56 a.F a.A).getD q false=true
   · rw[zAz h1,zAz h2] at e
     generalize a.F.getD p false=x at *
     generalize a.F.getD q false=y at *
     cases x <;> cases y <;> simp at e ⊢
   · rw[zAz h1,zAy h2] at e
     split at e <;> omega
   · rw[zAy h1,zAz h2] at e
     split at e <;> omega
   · rw[nl p hp h1,nl q hq h2]
theorem z7v {A:List (List Arc)} {cl:List Int} {p:Nat} (hp:p<cl.length):(cl.getD p 0<0→(rnd A cl).2.getD p 0=-1)∧(0≤cl.getD p 0→(rnd A cl).2.getD p 0=((z4l (sgA A cl p) (rnd A cl).1:Nat):Int)∧sgA A cl p∈(rnd A cl).1):=by
 have hR:=(y0r A cl).at_ p hp
 exact⟨fun h=>z47 (hR.1 h),fun h=>⟨z47 (hR.2 h).2,(hR.2 h).1⟩⟩
theorem zcu {a:Au} {cl:List Int} (h:zt2 a cl) (q:Int):-1≤clA cl q:=(zah h.rng q).1
theorem zyg {a:Au} (h:AuW a) (hn:a.F.length≤4000000) {cl:List Int} {c:Nat} (hW:ClW a.F.length c cl) (hI:zt2 a cl):zt2 a (rnd a.A cl).2:=by
 have hA:∀ l∈a.A,∀ x∈l,0≤x.1∧x.1≤x.2.1∧x.2.1≤1114111:=fun l hl x hx=>by have:=(h.arc l hl).2 x hx;omega
 have hW2:=(zqp hn hW hA).2
 have hlen:=hI.len
 have arcA:∀ p:Nat,p<a.F.length→a.arcs (p:Nat)=a.A.getD p []:=fun p _=>by rw[Au.arcs,zAy (by omega),zA9]
 have neg:∀ p:Nat,p<a.F.length→((rnd a.A cl).2.getD p 0<0↔cl.getD p 0<0):=fun p hp=>by
  have h1:=z7v (A:=a.A) (cl:=cl) (p:=p) (by omega)
  constructor
  · intro h2
    by_cases h3:cl.getD p 0<0
    · exact h3
    · rw[(h1.2 (by omega)).1] at h2;omega
  · intro h2;rw[h1.1 h2];decide
 refine⟨hW2.len,hW2.rng,fun q hq=>(neg q hq).trans (hI.dead q hq),fun p q hp hq hs=>?_,fun p q hp hq e=>?_⟩
 · have e1:=hI.same p q hp hq hs
   have h1:=z7v (A:=a.A) (cl:=cl) (p:=p) (by omega)
   have h2:=z7v (A:=a.A) (cl:=cl) (p:=q) (by omega)
   by_cases h3:cl.getD p 0<0
   · rw[h1.1 h3,h2.1 (by omega)]
   · rw[(h1.2 (by omega)).1,(h2.2 (by omega)).1]
     have hb:byC cl (a.A.getD p [])=byC cl (a.A.getD q []):=by
      rw[← arcA p hp,← arcA q hq]
      obtain⟨p1,p2⟩:=zbr (zcu hI) (h.arcs (p:Nat)).1
      obtain⟨q1,q2⟩:=zbr (zcu hI) (h.arcs (q:Nat)).1
      refine zs8 p1 q1 fun c=>?_
      rw[p2,q2]
      exact hI.to (h.nx (p:Nat) c) (h.nx (q:Nat) c) fun w=>hs (c::w)
     rw[sgA,sgA,zw5,zw5,hb,e1]
 · have h1:=z7v (A:=a.A) (cl:=cl) (p:=p) (by omega)
   have h2:=z7v (A:=a.A) (cl:=cl) (p:=q) (by omega)
   by_cases h3:cl.getD p 0<0
   · have h4:cl.getD q 0<0:=(neg q hq).1 (by rw[← e];exact(neg p hp).2 h3)
     have d1:=(hI.dead p hp).1 h3 []
     have d2:=(hI.dead q hq).1 h4 []
     rw[Au.acc_nil] at d1 d2
     rw[d1,d2]
   · have h4:¬ cl.getD q 0<0:=fun h5=>h3 ((neg p hp).1 (by rw[e];exact(neg q hq).2 h5))
     obtain⟨g1,g2⟩:=h1.2 (by omega)
     obtain⟨g3,g4⟩:=h2.2 (by omega)
     rw[g1,g3] at e
     have m1:=(z43 g2).2
     have m2:=(z43 g4).2
     rw[show z4l (sgA a.A cl p) (rnd a.A cl).1=z4l (sgA a.A cl q) (rnd a.A cl).1 by omega,m2] at m1
     have hs:sgA a.A cl p=sgA a.A cl q:=by simpa using m1.symm
     have sm:∀ p:Nat,p<a.F.length→zbu (byC cl (a.A.getD p [])):=fun p hp=>by
      rw[← arcA p hp]
      exact za2 hI.rng fun x hx=>by have:=(h.arcs (p:Nat)).2 x hx;omega
     have r1:=z5u hI.rng p
     have r2:=z5u hI.rng q
     exact hI.fin_ p q hp hq (zjc ⟨by omega,by omega⟩ ⟨by omega,by omega⟩ (sm p hp) (sm q hq) hs).1
structure Cls (a:Au) (lim:Nat) (r:List Int):Prop where
 inv:zt2 a r
 lang:∀ p q:Nat,p<a.F.length→q<a.F.length→r.getD p 0=r.getD q 0→∀ w,a.acc (p:Nat) w=a.acc (q:Nat) w
 few:∃ c:Nat,(c≤lim∧c≤a.F.length)∧∀ q,q<a.F.length→r.getD q 0<c
theorem y3d {A:List (List Arc)} {cl:List Int} {p:Nat} (hp:p<cl.length):(rnd A cl).2.getD p 0<(rnd A cl).1.length:=by
 have h:=z7v (A:=A) hp
 by_cases h1:cl.getD p 0<0
 · rw[h.1 h1];omega
 · obtain⟨g1,g2⟩:=h.2 (by omega)
   rw[g1]
   have:=(z43 g2).1
   omega
theorem zut {a:Au} (h:AuW a) {cl:List Int} (hI:zt2 a cl) {p q:Nat} (hp:p<a.F.length) (hq:q<a.F.length) (e:(rnd a.A cl).2.getD p 0=(rnd a.A cl).2.getD q 0) (h3:¬ cl.getD p 0<0) :
 ∀ c,clA cl (a.nx (p:Nat) c)=clA cl (a.nx (q:Nat) c):=by
 have hlen:=hI.len
 have arcA:∀ p:Nat,p<a.F.length→a.arcs (p:Nat)=a.A.getD p []:=fun p _=>by rw[Au.arcs,zAy (by omega),zA9]
 have h1:=z7v (A:=a.A) (cl:=cl) (p:=p) (by omega)
 have h2:=z7v (A:=a.A) (cl:=cl) (p:=q) (by omega)
 obtain⟨g1,g2⟩:=h1.2 (by omega)
 have h4:¬ cl.getD q 0<0:=fun h5=>by rw[g1,h2.1 h5] at e;omega
 obtain⟨g3,g4⟩:=h2.2 (by omega)
 rw[g1,g3] at e
 have m1:=(z43 g2).2
 have m2:=(z43 g4).2
 rw[show z4l (sgA a.A cl p) (rnd a.A cl).1=z4l (sgA a.A cl q) (rnd a.A cl).1 by omega,m2] at m1
 have hs:sgA a.A cl p=sgA a.A cl q:=by simpa using m1.symm
 have sm:∀ p:Nat,p<a.F.length→zbu (byC cl (a.A.getD p [])):=fun p hp=>by
  rw[← arcA p hp]
  exact za2 hI.rng fun x hx=>by have:=(h.arcs (p:Nat)).2 x hx;omega
 have r1:=z5u hI.rng p
 have r2:=z5u hI.rng q
 have hb:=(zjc ⟨by omega,by omega⟩ ⟨by omega,by omega⟩ (sm p hp) (sm q hq) hs).2
 intro c
 rw[← arcA p hp,← arcA q hq] at hb
 have p2:=(zbr (zcu hI) (h.arcs (p:Nat)).1).2 c
 have q2:=(zbr (zcu hI) (h.arcs (q:Nat)).1).2 c
 rw[Au.nx,Au.nx,← p2,← q2,hb]
theorem zjt {a:Au} (h:AuW a) {r:List Int} (hI:zt2 a r) (hst:∀ p q:Nat,p<a.F.length→q<a.F.length→r.getD p 0=r.getD q 0→∀ c,clA r (a.nx (p:Nat) c)=clA r (a.nx (q:Nat) c)) :
 ∀ (w:List Int) (p q:Int),-1≤p→p<a.F.length→-1≤q→q<a.F.length→clA r p=clA r q→a.acc p w=a.acc q w:=by
 have dd:∀ q:Int,-1≤q→q<a.F.length→clA r q=-1→∀ w,a.acc q w=false:=fun q h1 h2 e w=>by
  by_cases e2:q=-1
  · rw[e2];exact a.acc_neg w (by decide)
  · obtain⟨q,rfl⟩:∃ k:Nat,q=k:=⟨q.toNat,by omega⟩
    rw[z4o] at e
    exact(hI.dead q (by omega)).1 (by omega) w
 intro w
 induction w with
 | nil =>
  intro p q p1 p2 q1 q2 e
  by_cases e1:clA r p=-1
  · rw[dd p p1 p2 e1,dd q q1 q2 (e▸e1)]
  · have hp:p≠-1:=by rintro rfl;exact e1 (z7q r)
    have hq:q≠-1:=by rintro rfl;exact e1 (e.trans (z7q r))
    obtain⟨p,rfl⟩:∃ k:Nat,p=k:=⟨p.toNat,by omega⟩
    obtain⟨q,rfl⟩:∃ k:Nat,q=k:=⟨q.toNat,by omega⟩
    rw[z4o,z4o] at e
    rw[Au.acc_nil,Au.acc_nil]
    exact hI.fin_ p q (by omega) (by omega) e
 | cons c w ih =>
  intro p q p1 p2 q1 q2 e
  by_cases e1:clA r p=-1
  · rw[dd p p1 p2 e1,dd q q1 q2 (e▸e1)]
  · have hp:p≠-1:=by rintro rfl;exact e1 (z7q r)
    have hq:q≠-1:=by rintro rfl;exact e1 (e.trans (z7q r))
    obtain⟨p,rfl⟩:∃ k:Nat,p=k:=⟨p.toNat,by omega⟩
    obtain⟨q,rfl⟩:∃ k:Nat,q=k:=⟨q.toNat,by omega⟩
    rw[z4o,z4o] at e
    rw[Au.acc_cons,Au.acc_cons]
    have n1:=h.nx (p:Nat) c
    have n2:=h.nx (q:Nat) c
    exact ih _ _ n1.1 n1.2 n2.1 n2.2 (hst p q (by omega) (by omega) e c)
theorem zl5 {a:Au} (h:AuW a) (hn:a.F.length≤4000000) {lim:Nat}:∀ {f c:Nat} {cl r:List Int},ClW a.F.length c cl→zt2 a cl→(c=0∨∀ q,q<a.F.length→cl.getD q 0<c)→zkm a.A lim f c cl=some r→Cls a lim r
 | 0,_,_,_,_,_,_,e=>by rw[zkm] at e;cases e
 | f+1,c,cl,r,hW,hI,hb,e=>by
  have hA:∀ l∈a.A,∀ x∈l,0≤x.1∧x.1≤x.2.1∧x.2.1≤1114111:=fun l hl x hx=>by have:=(h.arc l hl).2 x hx;omega
  have hlen:=hI.len
  have hW2:=(zqp hn hW hA).2
  have hI2:=zyg h hn hW hI
  have hlt:∀ q,q<a.F.length→(rnd a.A cl).2.getD q 0<(rnd a.A cl).1.length:=fun q hq=>y3d (by omega)
  rw[zkm] at e
  split at e
  · cases e
  rename_i hl
  split at e
  · rename_i hc
    simp only[zAh] at e
    subst e
    have arcA:∀ p:Nat,p<a.F.length→a.arcs (p:Nat)=a.A.getD p []:=fun p _=>by rw[Au.arcs,zAy (by omega),zA9]
    have hm:=(zn6 (A:=a.A) hW.full (fun q hq=>by have:=z5u hI.rng q;omega) (fun q hq=>by
     rw[← arcA q (by omega)]
     exact za2 hI.rng fun x hx=>by have:=(h.arcs (q:Nat)).2 x hx;omega)).2 hc.symm
    -- old classes are new classes
    have hQ:∀ p q:Nat,p<a.F.length→q<a.F.length→cl.getD p 0=cl.getD q 0→(rnd a.A cl).2.getD p 0=(rnd a.A cl).2.getD q 0:=fun p q hp hq e=>by
     have h1:=z7v (A:=a.A) (cl:=cl) (p:=p) (by omega)
     have h2:=z7v (A:=a.A) (cl:=cl) (p:=q) (by omega)
     by_cases h3:cl.getD p 0<0
     · rw[h1.1 h3,h2.1 (by omega)]
     · have g1:=h1.2 (by omega)
       have g2:=h2.2 (by omega)
       have hlt2:cl.getD p 0<c:=by
        rcases hb with rfl|hb
        · have:=List.length_pos_of_mem g1.2;omega
        · exact hb p hp
       rw[g1.1,g2.1,hm p q (by omega) (by omega) (by omega) hlt2 e]
    have hQ2:∀ p q:Int,-1≤p→p<a.F.length→-1≤q→q<a.F.length→clA cl p=clA cl q→clA (rnd a.A cl).2 p=clA (rnd a.A cl).2 q:=fun p q p1 p2 q1 q2 e=>by
     have one:∀ q:Int,-1≤q→q<a.F.length→clA cl q=-1→clA (rnd a.A cl).2 q=-1:=fun q h1 h2 e=>by
      by_cases e2:q=-1
      · rw[e2,z7q]
      · obtain⟨q,rfl⟩:∃ k:Nat,q=k:=⟨q.toNat,by omega⟩
        rw[z4o] at e ⊢
        exact(z7v (A:=a.A) (cl:=cl) (p:=q) (by omega)).1 (by omega)
     by_cases e1:clA cl p=-1
     · rw[one p p1 p2 e1,one q q1 q2 (e▸e1)]
     · have hp:p≠-1:=by rintro rfl;exact e1 (z7q cl)
       have hq:q≠-1:=by rintro rfl;exact e1 (e.trans (z7q cl))
       obtain⟨p,rfl⟩:∃ k:Nat,p=k:=⟨p.toNat,by omega⟩
       obtain⟨q,rfl⟩:∃ k:Nat,q=k:=⟨q.toNat,by omega⟩
       rw[z4o,z4o] at e ⊢
       exact hQ p q (by omega) (by omega) e
    have hst:∀ p q:Nat,p<a.F.length→q<a.F.length→(rnd a.A cl).2.getD p 0=(rnd a.A cl).2.getD q 0→∀ c,clA (rnd a.A cl).2 (a.nx (p:Nat) c)=clA (rnd a.A cl).2 (a.nx (q:Nat) c):=fun p q hp hq e c=>by
     have n1:=h.nx (p:Nat) c
     have n2:=h.nx (q:Nat) c
     by_cases h3:(rnd a.A cl).2.getD p 0<0
     · have d1:=(hI2.dead p hp).1 h3
       have d2:=(hI2.dead q hq).1 (by rw[← e];exact h3)
       exact hI2.to n1 n2 fun w=>by
        have x1:=d1 (c::w)
        have x2:=d2 (c::w)
        rw[Au.acc_cons] at x1 x2
        rw[x1,x2]
     · have h4:¬ cl.getD p 0<0:=fun h5=>h3 (by rw[(z7v (A:=a.A) (cl:=cl) (p:=p) (by omega)).1 h5];decide)
       exact hQ2 _ _ n1.1 n1.2 n2.1 n2.2 (zut h hI hp hq e h4 c)
    refine⟨hI2,fun p q hp hq e w=>?_,_,⟨by omega,by have:=(y0r a.A cl).few;omega⟩,hlt⟩
    exact zjt h hI2 hst w (p:Nat) (q:Nat) (by omega) (by omega) (by omega) (by omega) (by rw[z4o,z4o];exact e)
  · exact zl5 h hn hW2 hI2 (.inr hlt) e
theorem zhu {a:Au} (h:AuW a) (hn:a.F.length≤4000000) {lim:Nat} (hl:a.F.length≤lim):∀ {f c:Nat} {cl:List Int},ClW a.F.length c cl→a.F.length<f+c→∃ r,zkm a.A lim f c cl=some r
 | 0,c,cl,hW,hf=>by have:=hW.few;omega
 | f+1,c,cl,hW,hf=>by
  have hA:∀ l∈a.A,∀ x∈l,0≤x.1∧x.1≤x.2.1∧x.2.1≤1114111:=fun l hl x hx=>by have:=(h.arc l hl).2 x hx;omega
  obtain⟨h1,hW2⟩:=zqp hn hW hA
  have h2:=(y0r a.A cl).few
  have h3:=hW.len
  rw[zkm,zAy (by omega)]
  split
  · exact⟨_,rfl⟩
  · exact zhu h hn hl hW2 (by omega)
theorem zv2 {a:Au} (h:AuW a) (hn:a.F.length≤4000000) {lim:Nat} {r:List Int} (e:zwz a.F a.A lim=some r):Cls a lim r :=
 zl5 h hn (zp7 a.F a.A) (zy1 h) (.inl rfl) e
theorem zq3:∀ {l:List Arc} {p:Option Arc},okA p l→∀ {e:Arc} {c:Int},e∈l→e.1≤c→c≤e.2.1→nxt l c=e.2.2
 | [],_,_,e,c,he,_,_=>by simp at he
 | x::l,p,h,e,c,he,h1,h2=>by
  rcases zAc.1 he with rfl|he
  · exact z8n h1 h2
  · have:=zi1 h.2.2.2 e he
    rw[nxt,zAy (by omega)]
    exact zq3 h.2.2.2 he h1 h2
theorem ziz {K:Type}:∀ {es:List (Edge K)} {a c:Int} {k:K},okE a es→kx es c=some k→a≤c∧c≤1114111
 | [],_,_,_,_,h=>by cases h
 | e::es,a,c,k,h,hk=>by
  rw[kx] at hk
  have h1:=h.1
  have h2:=h.2.1
  have h3:=h.2.2.1
  split at hk
  · omega
  · have:=ziz h.2.2.2 hk;omega
section
variable {K:Type} [DecidableEq K]
theorem y3s {fin:K→Bool} {edg:K→List (Edge K)} {first:K} {ks:List K} {a:Au} (h:Ex fin edg first ks.length ks a) (he:∀ k,okE 0 (edg k)):AuW a:=by
 have hpos:0<ks.length:=(zA1.1 h.hd).1
 refine⟨by rw[h.al,h.fl],fun l hl=>?_,by rw[h.fl];exact hpos⟩
 obtain⟨q,hq⟩:=zAw hl
 have hql:q<ks.length:=by have:=(zA1.1 hq).1;rw[h.al] at this;exact this
 obtain⟨l',e1,e2,e3,e4⟩:=h.arc q _ hql (zA0 hql)
 rw[hq] at e1;cases e1
 refine⟨e2,fun x hx=>?_⟩
 have h1:=zr9 e2 x hx
 have a1:=zq3 e2 hx (Int.le_refl _) h1
 have a2:=zq3 e2 hx h1 (Int.le_refl _)
 have p0:0≤x.2.2:=by
  have:∀ {l:List Arc} {p:Option Arc},okA p l→∀ x∈l,0≤x.2.2:=fun {l}=>by
   induction l with
   | nil=>intro p _ x hx;simp at hx
   | cons y l ih =>
    intro p h x hx
    rcases zAc.1 hx with rfl|hx
    · exact h.2.1
    · exact ih h.2.2.2 x hx
  exact this e2 x hx
 have b1:=e3 x.1
 have b2:=e3 x.2.1
 rw[a1] at b1
 rw[a2] at b2
 cases k1:kx (edg ks[q]) x.1 with
 | none=>rw[k1] at b1;simp only at b1;omega
 | some y1 =>
  cases k2:kx (edg ks[q]) x.2.1 with
  | none=>rw[k2] at b2;simp only at b2;omega
  | some y2 =>
   rw[k1] at b1;simp only at b1
   have r1:=ziz (he _) k1
   have r2:=ziz (he _) k2
   have:=(z43 (e4 _ _ k1)).1
   rw[h.fl]
   omega
end
theorem y5z {a:Au} (h:AuW a) (q c:Int) (k':Int) (e:kx (K:=Int) (a.arcs q) c=some k'):0≤k'∧k'<a.F.length:=by
 rw[zf4 (h.arcs q).1] at e
 split at e
 · cases e
 · rename_i hn
   simp only[zAh] at e
   have:=h.nx q c
   rw[Au.nx] at this
   omega
theorem zo5 {a:Au} (h:AuW a):∃ b,exL a.fin a.arcs a.F.length (a.F.length+1) 0 [(0:Int)] ⟨[],[]⟩=some b∧AuW b∧b.F.length≤a.F.length∧∀ w,b.acc 0 w=a.acc 0 w:=by
 have hpos:=h.pos
 have hc:∀ k:Int,(0≤k∧k<a.F.length)→∀ c k',kx (K:=Int) (a.arcs k) c=some k'→0≤k'∧k'<a.F.length:=fun k _ c k' e=>y5z h k c k' e
 have hfew:∀ l:List Int,l.Nodup→(∀ x∈l,0≤x∧x<a.F.length)→l.length≤a.F.length:=fun l h1 h2=>zdm h1 h2
 obtain⟨b,hb⟩:=zcl (fin:=a.fin) (first:=(0:Int)) (lim:=a.F.length) (ok:=fun k:Int=>0≤k∧k<a.F.length) h.okE ⟨by omega,by omega⟩ hc hfew (a.F.length+1) 0 _ _ (y0i _ _ _) (by omega)
 obtain⟨ks,hx⟩:=zin h.okE _ _ _ _ b (y0i _ _ _) hb
 refine⟨b,hb,y3s hx h.okE,zre hx (ok:=fun k:Int=>0≤k∧k<a.F.length) ⟨by omega,by omega⟩ hc hfew,fun w=>?_⟩
 have:=zbe hx w 0 0 hx.hd
 rw[zsh (fun q=>(h.arcs q).1)] at this
 exact this
section
variable {a:Au} (h:AuW a) {lim:Nat} {cl:List Int} (hc:Cls a lim cl) {st:Int→Nat} (hst:∀ q,q<a.F.length→st (cl.getD q 0)<a.F.length∧cl.getD (st (cl.getD q 0)) 0=cl.getD q 0)
include h hc hst
theorem zcr:∀ (w:List Int) (q:Nat),q<a.F.length→0≤cl.getD q 0→zc4 (fun k=>a.fin (st k:Nat)) (fun k=>byC cl (a.arcs (st k:Nat))) (some (cl.getD q 0)) w=a.acc (q:Nat) w
 | [],q,hq,h0=>by
  obtain⟨s1,s2⟩:=hst q hq
  rw[zc4,← hc.lang _ _ s1 hq s2 []];rfl
 | c::w,q,hq,h0=>by
  obtain⟨s1,s2⟩:=hst q hq
  obtain⟨b1,b2⟩:=zbr (zcu hc.inv) (h.arcs (st (cl.getD q 0):Nat)).1
  have n1:=h.nx (st (cl.getD q 0):Nat) c
  rw[zc4,zf4 b1,b2,← hc.lang _ _ s1 hq s2 (c::w),Au.acc_cons]
  change zc4 _ _ (if clA cl (a.nx (st (cl.getD q 0):Nat) c)=-1 then none else some (clA cl (a.nx (st (cl.getD q 0):Nat) c))) w=_
  generalize a.nx (st (cl.getD q 0):Nat) c=t at *
  by_cases e:clA cl t=-1
  · rw[zAz e]
    have hd:a.acc t w=false:=by
     by_cases e2:t=-1
     · rw[e2];exact a.acc_neg w (by decide)
     · obtain⟨t,rfl⟩:∃ k:Nat,t=k:=⟨t.toNat,by omega⟩
       rw[z4o] at e
       exact(hc.inv.dead t (by omega)).1 (by omega) w
    rw[hd];cases w <;> rfl
  · rw[zAy e]
    have e2:t≠-1:=by rintro rfl;exact e (z7q cl)
    obtain⟨t,rfl⟩:∃ k:Nat,t=k:=⟨t.toNat,by omega⟩
    rw[z4o] at e ⊢
    have:=z5u hc.inv.rng t
    exact zcr w t (by omega) (by omega)
theorem zz9 (h0:0≤cl.getD 0 0):∃ b,exL (fun k=>a.fin (st k:Nat)) (fun k=>byC cl (a.arcs (st k:Nat))) lim (lim+1) 0 [cl.getD 0 0] ⟨[],[]⟩=some b∧Can b∧AuW b∧b.F.length≤a.F.length∧∀ w,b.acc 0 w=a.acc 0 w:=by
 have hpos:=h.pos
 have he:∀ k:Int,okE (K:=Int) 0 (byC cl (a.arcs (st k:Nat))):=fun k=>by
  have h1:=zfk (cl:=cl) (B:=4000000) (fun q=>(zah hc.inv.rng q).2) (l:=a.arcs (st k:Nat)) fun x hx=>by have:=(h.arcs (st k:Nat)).2 x hx;omega
  exact zoh (zbr (zcu hc.inv) (h.arcs (st k:Nat)).1).1 (fun x hx=>by have:=h1 x hx;omega) fun x hx=>by have:=h1 x hx;omega
 obtain⟨c,⟨hcl,hcn⟩,hcb⟩:=hc.few
 have hok0:∃ q,q<a.F.length∧cl.getD q 0=cl.getD 0 0∧0≤cl.getD 0 0:=⟨0,hpos,rfl,h0⟩
 have hcc:∀ k:Int,(∃ q,q<a.F.length∧cl.getD q 0=k∧0≤k)→∀ d k',kx (K:=Int) (byC cl (a.arcs (st k:Nat))) d=some k'→∃ q,q<a.F.length∧cl.getD q 0=k'∧0≤k':=fun k hk d k' e=>by
  obtain⟨b1,b2⟩:=zbr (zcu hc.inv) (h.arcs (st k:Nat)).1
  have n1:=h.nx (st k:Nat) d
  rw[Au.nx] at n1
  rw[zf4 b1,b2] at e
  generalize nxt (a.arcs (st k:Nat)) d=t at *
  split at e
  · cases e
  · rename_i hn
    simp only[zAh] at e
    have e2:t≠-1:=by rintro rfl;exact hn (z7q cl)
    obtain⟨t,rfl⟩:∃ k:Nat,t=k:=⟨t.toNat,by omega⟩
    rw[z4o] at e hn
    have:=z5u hc.inv.rng t
    exact⟨t,by omega,e,by omega⟩
 have hfew:∀ l:List Int,l.Nodup→(∀ x∈l,∃ q,q<a.F.length∧cl.getD q 0=x∧0≤x)→l.length≤c:=fun l h1 h2 =>
  zdm (n:=c) h1 fun x hx=>by obtain⟨q,q1,q2,q3⟩:=h2 x hx;have:=hcb q q1;omega
 obtain⟨b,hb⟩:=zcl (fin:=fun k=>a.fin (st k:Nat)) (lim:=lim) (ok:=fun k:Int=>∃ q,q<a.F.length∧cl.getD q 0=k∧0≤k) he hok0 hcc (fun l h1 h2=>Nat.le_trans (hfew l h1 h2) hcl) (lim+1) 0 _ _ (y0i _ _ _) (by omega)
 obtain⟨ks,hx⟩:=zin he _ _ _ _ b (y0i _ _ _) hb
 have hks:∀ x∈ks,∃ q,q<a.F.length∧cl.getD q 0=x∧0≤x:=fun x hxx=>by
  obtain⟨j,hj⟩:=zAw hxx
  exact zuk hx (ok:=fun k:Int=>∃ q,q<a.F.length∧cl.getD q 0=k∧0≤k) hok0 hcc j x hj
 refine⟨b,hb,y21 hx (fun x hxx y hyy hw=>?_) (fun x hxx=>?_),y3s hx he,zre hx (ok:=fun k:Int=>∃ q,q<a.F.length∧cl.getD q 0=k∧0≤k) hok0 hcc (fun l h1 h2=>Nat.le_trans (hfew l h1 h2) hcn),fun w=>?_⟩
 · obtain⟨p,p1,rfl,p3⟩:=hks x hxx
   obtain⟨q,q1,rfl,q3⟩:=hks y hyy
   exact hc.inv.same p q p1 q1 fun w=>by rw[← zcr h hc hst w p p1 p3,← zcr h hc hst w q q1 q3];exact hw w
 · obtain⟨p,p1,rfl,p3⟩:=hks x hxx
   have hd:¬ ∀ w,a.acc (p:Nat) w=false:=fun hd=>by have:=(hc.inv.dead p p1).2 hd;omega
   obtain⟨w,hw⟩:=Classical.not_forall.1 hd
   exact⟨w,by rw[zcr h hc hst w p p1 p3];simpa using hw⟩
 · have:=zbe hx w 0 _ hx.hd
   rw[zcr h hc hst w 0 hpos h0] at this
   exact this
end
def zhs:Au:=⟨[false],[[]]⟩
theorem zg5:∀ w,zhs.acc 0 w=false
 | []=>rfl
 | c::w=>by rw[Au.acc_cons];exact zhs.acc_neg w (show zhs.nx 0 c<0 from (by decide:(-1:Int)<0))
theorem y1v:AuW zhs:=⟨rfl,fun l hl=>by simp[zhs] at hl;subst hl;exact⟨trivial,by simp⟩,by decide⟩
def Nrm (m:Au):Prop:=Can m∨m=zhs
theorem y3j {a b:Au} (ha:Nrm a) (hb:Nrm b) (h:∀ w,a.acc 0 w=b.acc 0 w):a=b:=by
 rcases ha with ha|rfl <;> rcases hb with hb|rfl
 · exact y3g ha hb h
 · obtain⟨w,hw⟩:=ha.live 0 (by decide) (by have:=ha.pos;omega)
   rw[h w,zg5] at hw;cases hw
 · obtain⟨w,hw⟩:=hb.live 0 (by decide) (by have:=hb.pos;omega)
   rw[← h w,zg5] at hw;cases hw
 · rfl
theorem zui {a:Au} (h:AuW a) (hn:a.F.length≤256) {st:List Int→Int→Nat} (hst:∀ cl:List Int,cl.length=a.F.length→∀ q,q<a.F.length→st cl (cl.getD q 0)<a.F.length∧cl.getD (st cl (cl.getD q 0)) 0=cl.getD q 0) :
 ∃ cl,zwz a.F a.A 256=some cl∧∃ m,(if cl.getD 0 0<0 then some zhs else exL (fun k=>a.fin (st cl k:Nat)) (fun k=>byC cl (a.arcs (st cl k:Nat))) 256 257 0 [cl.getD 0 0] ⟨[],[]⟩)=some m∧Nrm m∧AuW m∧m.F.length≤a.F.length∧∀ w,m.acc 0 w=a.acc 0 w:=by
 have hpos:=h.pos
 obtain⟨cl,hcl⟩:=zhu h (by omega) (lim:=256) hn (f:=a.F.length+1) (zp7 a.F a.A) (by omega)
 have hc:=zv2 h (by omega) (lim:=256) hcl
 refine⟨cl,hcl,?_⟩
 by_cases h0:cl.getD 0 0<0
 · rw[zAz h0]
   refine⟨zhs,rfl,.inr rfl,y1v,hpos,fun w=>?_⟩
   rw[zg5]
   exact((hc.inv.dead 0 hpos).1 h0 w).symm
 · rw[zAy h0]
   obtain⟨b,b1,b2,b3,b4,b5⟩:=zz9 h hc (st:=st cl) (hst cl hc.inv.len) (by omega)
   exact⟨b,b1,.inl b2,b3,b4,b5⟩
structure Tbl where
 P:List Int
 F:List Bool
 N:List (List Int)
def nxE:List Int→Int
 | q::_=>q-1
 | []=>1114111
def y65:List Int→List Int→List (Edge Int)
 | [],_=>[]
 | _::_,[]=>[]
 | p::P,n::N=>(p,nxE P,n)::y65 P N
theorem y2a {K:Type} {l:List (Edge K)} {a b:Int} (h:okE b l) (hab:a≤b):okE a l:=by
 cases l with
 | nil=>trivial
 | cons e l=>exact⟨by have:=h.1;omega,h.2⟩
structure y0v (t:Tbl):Prop where
 hd:t.P[0]? =some 0
 asc:t.P.Pairwise (· <·)
 rng:∀ z∈t.P,0≤z∧z≤1114111
 pos:0<t.F.length
 len:t.N.length=t.F.length
 row:∀ r∈t.N,r.length=t.P.length∧∀ n∈r,0≤n∧n<t.F.length
def Tbl.row (t:Tbl) (s:Nat):List Int:=t.N.getD s []
def Tbl.edg (t:Tbl) (s:Nat):List (Edge Int):=y65 t.P (t.row s)
def Tbl.acc (t:Tbl):List Int→Nat→Bool
 | [],s=>t.F.getD s false
 | c::w,s=>match kx (t.edg s) c with|none=>false|some n=>t.acc w n.toNat
section
variable {t:Tbl} (h:y0v t) {cl:List Int} {lv:List Bool} {st:Int→Nat}
 (hc:∀ i k,i<t.F.length→k<t.F.length→(cl.getD i 0=cl.getD k 0↔∀ w,t.acc w i=t.acc w k))
 (hr:∀ i,i<t.F.length→0≤cl.getD i 0∧cl.getD i 0<t.F.length)
 (hl:∀ i,i<t.F.length→(lv.getD i false=true↔∃ w,t.acc w i=true))
 (hst:∀ i,i<t.F.length→st (cl.getD i 0)<t.F.length∧cl.getD (st (cl.getD i 0)) 0=cl.getD i 0)
include h hc hl hst
include hr
end
def zwl (p:Nat→Bool):Nat→Nat→Option Nat
 | 0,_=>none
 | m+1,k=>if p k=true then some k else zwl p m (k+1)
theorem zh2 {p:Nat→Bool}:∀ {m k r:Nat},zwl p m k=some r→p r=true∧k≤r∧r<k+m
 | 0,k,r,h=>by rw[zwl] at h;cases h
 | m+1,k,r,h=>by
  rw[zwl] at h
  split at h
  · rename_i hp;cases h;exact⟨hp,by omega,by omega⟩
  · obtain⟨h1,h2,h3⟩:=zh2 h;exact⟨h1,by omega,by omega⟩
theorem ziy {p:Nat→Bool}:∀ {m k:Nat},zwl p m k=none→∀ r,k≤r→r<k+m→p r=false
 | 0,k,_,r,h1,h2=>by omega
 | m+1,k,h,r,h1,h2=>by
  rw[zwl] at h
  split at h
  · cases h
  · rename_i hp
    by_cases hr:r=k
    · rw[hr];simpa using hp
    · exact ziy h r (by omega) (by omega)
def y5b (p:Nat→Bool):Nat→Nat→Bool
 | 0,_=>false
 | m+1,k=>p k||y5b p m (k+1)
abbrev cAt (c:List Int) (n:Int):Int:=c.getD n.toNat 0
def y2d (c:List Int):List Int→List Int→Bool
 | a::r,b::s=>decide (cAt c a=cAt c b)&&y2d c r s
 | _,_=>true
theorem zlo {c:List Int}:∀ {r s:List Int},r.length=s.length→(y2d c r s=true↔r.map (cAt c)=s.map (cAt c))
 | [],[],_=>by simp[y2d]
 | a::r,[],h=>by simp at h
 | [],b::s,h=>by simp at h
 | a::r,b::s,h=>by
  rw[y2d,zA7,zA3,zlo (by simpa using h),List.map_cons,List.map_cons,List.cons.injEq]
def Tbl.alk (t:Tbl) (c:List Int) (i k:Nat):Bool:=decide (c.getD i 0=c.getD k 0)&&y2d c (t.row i) (t.row k)
def Tbl.dOne (t:Tbl) (c:List Int) (s:List Int × Int) (i:Nat):List Int × Int:=match zwl (t.alk c i) i 0 with
 | some k=>(s.1++[s.1.getD k 0],s.2)
 | none=>(s.1++[s.2],s.2+1)
def y6y (c d:List Int) (i k:Nat):Bool:=decide (c.getD i 0=c.getD k 0)&&decide (d.getD i 0≠d.getD k 0)
def spl (c d:List Int) (n:Nat):Bool:=y5b (fun i=>y5b (y6y c d i) i 0) n 0
theorem y0v.row_len {t:Tbl} (h:y0v t) {i:Nat} (hi:i<t.F.length):(t.row i).length=t.P.length:=by
 obtain⟨r,hr⟩:∃ r,t.N[i]? =some r:=⟨_,zA0 (by rw[h.len];exact hi)⟩
 rw[Tbl.row,List.getD,hr];exact(h.row r (zA2 hr)).1
theorem y0v.alk_iff {t:Tbl} (h:y0v t) {c:List Int} {i k:Nat} (hi:i<t.F.length) (hk:k<t.F.length):t.alk c i k=true↔c.getD i 0=c.getD k 0∧(t.row i).map (cAt c)=(t.row k).map (cAt c):=by
 rw[Tbl.alk,zA7,zA3,zlo (by rw[h.row_len hi,h.row_len hk])]
structure DS (t:Tbl) (c:List Int) (q:Nat) (s:List Int × Int):Prop where
 len:s.1.length=q
 cnt:0≤s.2∧s.2≤q
 rng:∀ i,i<q→0≤s.1.getD i 0∧s.1.getD i 0<s.2
 eqv:∀ i k,i<q→k<q→(s.1.getD i 0=s.1.getD k 0↔t.alk c i k=true)
theorem zj8 {l:List Int} {x:Int} {i:Nat} (h:i<l.length):(l++[x]).getD i 0=l.getD i 0:=by
 rw[List.getD,List.getD,zAb h]
theorem zk7 {l:List Int} {x:Int}:(l++[x]).getD l.length 0=x:=by
 rw[List.getD,zAg (zAj _)];simp
theorem DS.step {t:Tbl} (h:y0v t) {c:List Int} {q:Nat} {s:List Int × Int} (hs:DS t c q s) (hq:q<t.F.length):DS t c (q+1) (t.dOne c s q):=by
 obtain⟨l,m⟩:=s
 obtain⟨h1,h2,h3,h4⟩:=hs
 simp only at h1 h2 h3 h4
 have key:∀ (v:Int) (m':Int),m≤m'→m'≤(q:Int)+1→0≤v→v<m'→(∀ i,i<q→(l.getD i 0=v↔t.alk c i q=true))→DS t c (q+1) (l++[v],m'):=fun v m' m1 m2 v0 v1 hv=>by
  have hg:∀ i,i<q→(l++[v]).getD i 0=l.getD i 0:=fun i hi=>zj8 (by omega)
  have hgq:(l++[v]).getD q 0=v:=by rw[← h1];exact zk7
  have hsy:∀ i,i<q→(t.alk c q i=true↔t.alk c i q=true):=fun i hi=>by
   rw[h.alk_iff hq (by omega),h.alk_iff (by omega) hq]
   exact⟨fun h=>⟨h.1.symm,h.2.symm⟩,fun h=>⟨h.1.symm,h.2.symm⟩⟩
  refine⟨by simp[h1],by simp only;omega,fun i hi=>?_,fun i k hi hk=>?_⟩
  · simp only
    by_cases hiq:i=q
    · rw[hiq,hgq];exact⟨v0,v1⟩
    · rw[hg i (by omega)];have:=h3 i (by omega);omega
  · simp only
    by_cases hiq:i=q
    · by_cases hkq:k=q
      · rw[hiq,hkq,h.alk_iff hq hq];exact⟨fun _=>⟨rfl,rfl⟩,fun _=>rfl⟩
      · rw[hiq,hgq,hg k (by omega),hsy k (by omega),← hv k (by omega)];exact eq_comm
    · by_cases hkq:k=q
      · rw[hkq,hgq,hg i (by omega)];exact hv i (by omega)
      · rw[hg i (by omega),hg k (by omega)];exact h4 i k (by omega) (by omega)
 rw[Tbl.dOne]
 cases hf:zwl (t.alk c q) q 0 with
 | some k =>
  obtain⟨k1,k2,k3⟩:=zh2 hf
  have hk:=h3 k (by omega)
  refine key _ m (Int.le_refl _) (by omega) hk.1 hk.2 fun i hi=>?_
  rw[h4 i k hi (by omega),h.alk_iff (by omega) (by omega),h.alk_iff (by omega) hq]
  rw[h.alk_iff hq (by omega)] at k1
  exact⟨fun g=>⟨g.1.trans k1.1.symm,g.2.trans k1.2.symm⟩,fun g=>⟨g.1.trans k1.1,g.2.trans k1.2⟩⟩
 | none =>
  have hn:=ziy hf
  refine key m (m+1) (by omega) (by omega) h2.1 (by omega) fun i hi=>⟨fun e=>?_,fun e=>?_⟩
  · have:=h3 i hi;omega
  · have:=hn i (by omega) (by omega)
    rw[h.alk_iff (by omega) hq] at e
    rw[(h.alk_iff hq (by omega)).2 ⟨e.1.symm,e.2.symm⟩] at this
    cases this
def lvS (i:Nat) (l:List Bool) (n:Int):List Bool:=l.set i (l.getD i false||l.getD n.toNat false)
def Tbl.lvRow (t:Tbl) (l:List Bool) (i:Nat):List Bool:=(t.row i).foldl (lvS i) l
def Tbl.lvRnd (t:Tbl):Nat→Nat→List Bool→List Bool
 | 0,_,l=>l
 | m+1,i,l=>t.lvRnd m (i+1) (t.lvRow l i)
def Tbl.lvT (t:Tbl):Nat→List Bool→List Bool
 | 0,l=>l
 | m+1,l=>t.lvT m (t.lvRnd t.F.length 0 l)
def Tbl.live (t:Tbl):List Bool:=t.lvT t.F.length t.F
structure Pts (l:List Int):Prop where
 hd:l[0]? =some 0
 asc:l.Pairwise (· <·)
 rng:∀ z∈l,0≤z∧z≤1114111
theorem Pts.get {l:List Int} (h:Pts l) {i j:Nat} (hi:i<l.length) (hj:j<l.length) (hij:i≤j):l.getD i 0≤l.getD j 0:=by
 rw[List.getD,List.getD,zA0 hi,zA0 hj,Option.getD_some,Option.getD_some]
 rcases Nat.lt_or_eq_of_le hij with hlt|rfl
 · have:=List.pairwise_iff_getElem.1 h.asc i j hi hj hlt;omega
 · omega
theorem zds {P:List Int}:∀ {l:List Arc},(∀ x∈l,x.2.1≤1114111∧x.1∈P∧(x.2.1+1≤1114111→x.2.1+1∈P))→∀ {p c:Int},p≤c→c≤1114111→(∀ y∈P,y≤c→y≤p)→nxt l c=nxt l p
 | [],_,_,_,_,_,_=>rfl
 | x::l,h,p,c,hp,hc,hy=>by
  obtain⟨h1,h2,h3⟩:=h x (by simp)
  have ih:=zds (l:=l) (fun y hy=>h y (List.mem_cons_of_mem _ hy)) hp hc hy
  rw[nxt,nxt,ih]
  have e1:x.1≤c↔x.1≤p:=⟨fun g=>hy _ h2 g,fun g=>by omega⟩
  have e2:c≤x.2.1↔p≤x.2.1:=⟨fun g=>by omega,fun g=>by
   refine Decidable.byContradiction fun hn=>?_
   have:=hy _ (h3 (by omega)) (by omega)
   omega⟩
  simp only[e1,e2]
def znk (a b:Au) (p:Int × Int) (s:List (Int × Int) × List Int) (c:Int):List (Int × Int) × List Int:=(z7c s.1 (a.nx p.1 c,b.nx p.2 c),s.2++[((z4l (a.nx p.1 c,b.nx p.2 c) s.1:Nat):Int)])
def zud (a b:Au) (p:Int × Int):Prop:=-1≤p.1∧p.1<a.F.length∧-1≤p.2∧p.2<b.F.length
structure PrS (a b:Au) (p:Int × Int) (L:List (Int × Int)) (Q:List Int) (s:List (Int × Int) × List Int):Prop where
 pre:∃ e,s.1=L++e
 nod:s.1.Nodup
 ok:∀ p∈s.1,zud a b p
 len:s.2.length=Q.length
 at_:∀ (x:Nat) (c:Int),Q[x]? =some c→∃ k:Nat,s.2[x]? =some (k:Int)∧s.1[k]? =some (a.nx p.1 c,b.nx p.2 c)
theorem PrS.step {a b:Au} (ha:AuW a) (hb:AuW b) {p:Int × Int} {L:List (Int × Int)} {Q:List Int} {s:List (Int × Int) × List Int} (h:PrS a b p L Q s) (c:Int):PrS a b p L (Q++[c]) (znk a b p s c):=by
 obtain⟨s1,s2⟩:=s
 obtain⟨⟨e,he⟩,h2,h3,h4,h5⟩:=h
 simp only at he h2 h3 h4 h5
 rw[znk]
 have hmem:=za7 s1 (a.nx p.1 c,b.nx p.2 c)
 obtain⟨r,hr⟩:=z7l s1 (a.nx p.1 c,b.nx p.2 c)
 refine⟨⟨e++r,by simp only;rw[hr,he,zAl]⟩,zax h2,fun q hq=>?_,by simp[h4],fun x c' hx=>?_⟩
 · simp only[z7c] at hq
   split at hq
   · exact h3 q hq
   · rw[zAt,zAq] at hq
     rcases hq with hq|rfl
     · exact h3 q hq
     · have:=ha.nx p.1 c;have:=hb.nx p.2 c;exact⟨by omega,by omega,by omega,by omega⟩
 · simp only
   by_cases hlt:x<Q.length
   · rw[zAb hlt] at hx
     obtain⟨k,k1,k2⟩:=h5 x c' hx
     refine⟨k,by rw[zAb (by omega)];exact k1,by rw[hr,zAb (zA1.1 k2).1];exact k2⟩
   · have hx1:=(zA1.1 hx).1
     rw[zAa,zAn] at hx1
     obtain rfl:x=Q.length:=by omega
     rw[zAg (zAj _)] at hx
     simp at hx
     subst hx
     refine⟨z4l (a.nx p.1 c,b.nx p.2 c) s1,by rw[← h4,zAg (zAj _)];simp,?_⟩
     have:=(z43 hmem).2
     rwa [zgb] at this
theorem zlw {a b:Au} (ha:AuW a) (hb:AuW b) {p:Int × Int} {L:List (Int × Int)}:∀ (P Q:List Int) (s:List (Int × Int) × List Int),PrS a b p L Q s→PrS a b p L (Q++P) (P.foldl (znk a b p) s)
 | [],Q,s,h=>by rw[List.append_nil];exact h
 | c::P,Q,s,h=>by
  rw[List.foldl_cons,show Q++c::P=(Q++[c])++P by simp]
  exact zlw ha hb P _ _ (h.step ha hb c)
structure PrI (a b:Au) (dec:Bool→Bool→Bool) (P:List Int) (i:Nat) (L:List (Int × Int)) (F:List Bool) (N:List (List Int)):Prop where
 le:i≤L.length
 fl:F.length=i
 nl:N.length=i
 hd:L[0]? =some (0,0)
 nod:L.Nodup
 ok:∀ p∈L,zud a b p
 fin_:∀ q p,q<i→L[q]? =some p→F[q]? =some (dec (a.fin p.1) (b.fin p.2))
 row:∀ q p,q<i→L[q]? =some p→∃ r,N[q]? =some r∧r.length=P.length∧∀ (x:Nat) (c:Int),P[x]? =some c→∃ k:Nat,r[x]? =some (k:Int)∧L[k]? =some (a.nx p.1 c,b.nx p.2 c)
theorem PrI.step {a b:Au} (ha:AuW a) (hb:AuW b) {dec:Bool→Bool→Bool} {P:List Int} {i:Nat} {L:List (Int × Int)} {F:List Bool} {N:List (List Int)} (h:PrI a b dec P i L F N) {p:Int × Int} (hp:L[i]? =some p) :
 PrI a b dec P (i+1) (P.foldl (znk a b p) (L,[])).1 (F++[dec (a.fin p.1) (b.fin p.2)]) (N++[(P.foldl (znk a b p) (L,[])).2]):=by
 have hi:=(zA1.1 hp).1
 have hs:=zlw ha hb (p:=p) (L:=L) P [] (L,[]) ⟨⟨[],by simp⟩,h.nod,h.ok,rfl,by simp⟩
 rw[List.nil_append] at hs
 generalize P.foldl (znk a b p) (L,[])=s at *
 obtain⟨⟨e,he⟩,h2,h3,h4,h5⟩:=hs
 have hget:∀ {q:Nat},q<L.length→s.1[q]? =L[q]?:=fun hq=>by rw[he,zAb hq]
 have hle:=h.le
 have hfl:=h.fl
 have hnl:=h.nl
 refine⟨by rw[he,zAa];omega,by simp[hfl],by simp[hnl],by rw[hget (by omega)];exact h.hd,h2,h3,fun q p' hq hp'=>?_,fun q p' hq hp'=>?_⟩
 · rw[hget (by omega)] at hp'
   by_cases hqi:q=i
   · subst hqi
     rw[hp] at hp';cases hp'
     rw[zAg (by omega),hfl];simp
   · rw[zAb (by omega)]
     exact h.fin_ q p' (by omega) hp'
 · rw[hget (by omega)] at hp'
   by_cases hqi:q=i
   · subst hqi
     rw[hp] at hp';cases hp'
     exact⟨s.2,by rw[zAg (by omega),hnl];simp,h4,h5⟩
   · obtain⟨r,r1,r2,r3⟩:=h.row q p' (by omega) hp'
     refine⟨r,by rw[zAb (by omega)];exact r1,r2,fun x c hx=>?_⟩
     obtain⟨k,k1,k2⟩:=r3 x c hx
     exact⟨k,k1,by rw[hget (zA1.1 k2).1];exact k2⟩
theorem y1x {a b:Au} {L:List (Int × Int)} (hn:L.Nodup) (hok:∀ p∈L,zud a b p):L.length≤(a.F.length+1)*(b.F.length+1):=by
 have h1:(L.map fun p=>(p.1+1)*((b.F.length+1:Nat):Int)+(p.2+1)).Nodup:=by
  rw[List.nodup_iff_pairwise_ne] at hn
  rw[List.nodup_iff_pairwise_ne,List.pairwise_map]
  refine hn.imp_of_mem fun {p q} hp hq hpq e=>hpq ?_
  have o1:=hok p hp
  have o2:=hok q hq
  unfold zud at o1 o2
  have hq1:p.1=q.1:=by
   rcases Int.lt_trichotomy p.1 q.1 with hlt|hlt|hlt
   · have:(p.1+1+1)*((b.F.length+1:Nat):Int)≤(q.1+1)*((b.F.length+1:Nat):Int):=Int.mul_le_mul_of_nonneg_right (by omega) (by omega)
     rw[Int.add_mul,Int.one_mul] at this
     omega
   · exact hlt
   · have:(q.1+1+1)*((b.F.length+1:Nat):Int)≤(p.1+1)*((b.F.length+1:Nat):Int):=Int.mul_le_mul_of_nonneg_right (by omega) (by omega)
     rw[Int.add_mul,Int.one_mul] at this
     omega
  rw[hq1] at e
  exact Prod.ext hq1 (by omega)
 have h2:=zdm (n:=(a.F.length+1)*(b.F.length+1)) h1 fun x hx=>by
  obtain⟨p,hp,rfl⟩:=List.mem_map.1 hx
  have o1:=hok p hp
  unfold zud at o1
  have l1:0≤(p.1+1)*((b.F.length+1:Nat):Int):=Int.mul_nonneg (by omega) (by omega)
  have l2:(p.1+1)*((b.F.length+1:Nat):Int)≤(a.F.length:Int)*((b.F.length+1:Nat):Int):=Int.mul_le_mul_of_nonneg_right (by omega) (by omega)
  rw[Nat.add_mul,Nat.one_mul]
  push_cast at l1 l2 ⊢
  omega
 simpa using h2
def vld (w:List Int):Bool:=w.all fun c=>decide (0≤c)&&decide (c≤1114111)
section
variable {K:Type}
def zos (f:Int→Option K) (x y:Int):Option (Edge K):=(f x).map fun k=>(x,y-1,k)
def zkb (f:Int→Option K):List Int→List (Edge K)
 | x::y::P=>match zos f x y with
  | none=>zkb f (y::P)
  | some e=>e::zkb f (y::P)
 | _=>[]
theorem zal (f:Int→Option K):∀ P:List Int,(List.range (P.length-1)).filterMap (fun i=>zos f (P.getD i 0) (P.getD (i+1) 0))=zkb f P
 | []=>rfl
 | [x]=>rfl
 | x::y::P=>by
  have ih:=zal f (y::P)
  rw[zkb,← ih]
  show (List.range (P.length+1)).filterMap _=_
  rw[List.range_succ_eq_map,List.filterMap_cons]
  have e:(List.map Nat.succ (List.range P.length)).filterMap (fun i=>zos f ((x::y::P).getD i 0) ((x::y::P).getD (i+1) 0))=(List.range ((y::P).length-1)).filterMap (fun i=>zos f ((y::P).getD i 0) ((y::P).getD (i+1) 0)):=by
   rw[List.filterMap_map];rfl
  rw[e]
  have e0:zos f ((x::y::P).getD 0 0) ((x::y::P).getD (0+1) 0)=zos f x y:=rfl
  rw[e0]
  cases zos f x y <;> rfl
theorem zd6 {f:Int→Option K}:∀ {P:List Int} {a:Int},P.Pairwise (· <·)→(∀ z∈P,a≤z∧z≤1114112)→okE a (zkb f P)
 | [],_,_,_=>trivial
 | [x],_,_,_=>trivial
 | x::y::P,a,h,hr=>by
  have hxy:x<y:=(List.pairwise_cons.1 h).1 y (by simp)
  have h1:=hr x (by simp)
  have h2:=hr y (by simp)
  have hy:∀ z∈y::P,y≤z∧z≤1114112:=fun z hz=>by
   rcases zAc.1 hz with rfl|hz'
   · exact⟨Int.le_refl _,h2.2⟩
   · exact⟨Int.le_of_lt ((List.pairwise_cons.1 (List.pairwise_cons.1 h).2).1 z hz'),(hr z (List.mem_cons_of_mem _ hz)).2⟩
  have ih:=zd6 (f:=f) (List.pairwise_cons.1 h).2 hy
  rw[zkb,zos]
  cases f x with
  | none=>exact y2a ih (by omega)
  | some k=>exact⟨h1.1,by simp only;omega,by simp only;omega,by show okE (y-1+1) _;rw[Int.sub_add_cancel];exact ih⟩
theorem zrl {f:Int→Option K} {c:Int}:∀ {P:List Int},P.Pairwise (· <·)→(∀ p∈P,p≤c→(∀ y∈P,y≤c→y≤p)→f p=f c)→(∀ p∈P,p≤c→(∃ q∈P,c<q)→kx (zkb f P) c=f c)∧((∀ p∈P,c<p)∨(∀ p∈P,p≤c)→kx (zkb f P) c=none)
 | [],_,_=>⟨fun p hp=>by simp at hp,fun _=>rfl⟩
 | [x],_,_=>⟨fun p hp hpc hq=>by obtain⟨q,hq,h⟩:=hq;simp at hp hq;subst hp;subst hq;omega,fun _=>rfl⟩
 | x::y::P,h,hc=>by
  obtain⟨hx,h'⟩:=List.pairwise_cons.1 h
  have hxy:x<y:=hx y (by simp)
  have hyP:∀ z∈y::P,y≤z:=fun z hz=>by
   rcases zAc.1 hz with rfl|hz'
   · exact Int.le_refl _
   · exact Int.le_of_lt ((List.pairwise_cons.1 h').1 z hz')
  obtain⟨i1,i2⟩:=zrl (f:=f) (c:=c) h' fun p hp hpc hy=>by
   refine hc p (List.mem_cons_of_mem _ hp) hpc fun z hz hzc=>?_
   rcases zAc.1 hz with rfl|hz
   · have:=hyP p hp;omega
   · exact hy z hz hzc
  have key:kx (zkb f (x::y::P)) c=if x≤c∧c<y∧(f x).isSome then f x else kx (zkb f (y::P)) c:=by
   rw[zkb,zos]
   cases hf:f x with
   | none=>rw[zAy (by simp)];rfl
   | some k =>
    show (if x≤c∧c≤y-1 then some k else _)=_
    by_cases g:x≤c∧c<y
    · rw[zAz ⟨g.1,by omega⟩,zAz ⟨g.1,g.2,rfl⟩]
    · rw[zAy (by omega),zAy (fun w=>g ⟨w.1,w.2.1⟩)]
  by_cases g:x≤c∧c<y
  · have e:f x=f c:=hc x (by simp) g.1 fun z hz hzc=>by
     rcases zAc.1 hz with rfl|hz
     · exact Int.le_refl _
     · have:=hyP z hz;omega
    refine⟨fun p hp hpc hq=>?_,fun ho=>?_⟩
    · rw[key]
      by_cases s:(f x).isSome=true
      · rw[zAz ⟨g.1,g.2,s⟩,e]
      · rw[zAy (fun w=>s w.2.2),i2 (.inl fun p hp=>by have:=hyP p hp;omega),← e]
        cases hf:f x with
        | none=>rfl
        | some k=>rw[hf] at s;exact absurd rfl s
    · rcases ho with ho|ho
      · have:=ho x (by simp);omega
      · have:=ho y (by simp);omega
  · rw[zAy (fun w=>g ⟨w.1,w.2.1⟩)] at key
    rw[key]
    refine⟨fun p hp hpc hq=>?_,fun ho=>?_⟩
    · obtain⟨q,hq,hcq⟩:=hq
      have hq2:q∈y::P:=by
       rcases zAc.1 hq with rfl|h2
       · rcases zAc.1 hp with rfl|h3
         · omega
         · have:=hx p h3;omega
       · exact h2
      rcases zAc.1 hp with rfl|h3
      · exact i1 y (by simp) (by omega) ⟨q,hq2,hcq⟩
      · exact i1 p h3 hpc ⟨q,hq2,hcq⟩
    · exact i2 (ho.imp (fun w p hp=>w p (List.mem_cons_of_mem _ hp)) fun w p hp=>w p (List.mem_cons_of_mem _ hp))
end
theorem zjw {a:Au} (h:AuW a):∀ (w:List Int) (q:Int),a.acc q w=true→vld w=true
 | [],_,_=>rfl
 | c::w,q,e=>by
  rw[Au.acc_cons] at e
  have hv:=zjw h w _ e
  have hn:a.nx q c≠-1:=fun g=>by rw[g,a.acc_neg w (by decide)] at e;cases e
  have hr:=zf4 (h.arcs q).1 c
  rw[Au.nx] at hn
  rw[zAy hn] at hr
  obtain⟨x,hx,h1,h2,_⟩:=y19 hr
  have:=(h.arcs q).2 x hx
  rw[vld,List.all_cons,← vld,hv,zAi (show 0≤c by omega),zAi (show c≤1114111 by omega)];rfl
end Go.Ax
