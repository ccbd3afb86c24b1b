/- A part of the proof: AX1 to AX21. -/
import Derived.Test.YthdfkabdoidjfaaGreatDoorU0
set_option linter.all false
namespace Go.Ax
abbrev Arc:=Int × Int × Int
structure Au where
 F:List Bool
 A:List (List Arc)
def nxt:List Arc→Int→Int
 | [],_=> -1
 | x::l,c=>if x.1≤c∧c≤x.2.1 then x.2.2 else nxt l c
def Au.arcs (a:Au) (q:Int):List Arc:=if q<0 then [] else a.A.getD q.toNat []
def Au.fin (a:Au) (q:Int):Bool:=if q<0 then false else a.F.getD q.toNat false
def Au.nx (a:Au) (q c:Int):Int:=nxt (a.arcs q) c
def Au.run (a:Au):Int→List Int→Int
 | q,[]=>q
 | q,c::w=>a.run (a.nx q c) w
def Au.acc (a:Au) (q:Int) (w:List Int):Bool:=a.fin (a.run q w)
theorem Au.acc_nil (a:Au) (q:Int):a.acc q []=a.fin q:=rfl
theorem Au.acc_cons (a:Au) (q c:Int) (w:List Int):a.acc q (c::w)=a.acc (a.nx q c) w:=rfl
theorem Au.nx_neg (a:Au) {q:Int} (h:q<0) (c:Int):a.nx q c=-1:=by rw[nx,arcs,zAz h];rfl
theorem Au.acc_neg (a:Au):∀ (w:List Int) {q:Int},q<0→a.acc q w=false
 | [],q,h=>by rw[acc_nil,fin,zAz h]
 | c::w,q,h=>by rw[acc_cons,a.nx_neg h c];exact a.acc_neg w (by decide)
def okA:Option Arc→List Arc→Prop
 | _,[]=>True
 | p,x::l=>x.1≤x.2.1∧0≤x.2.2∧(∀ y,p=some y→y.2.1<x.1∧¬ (y.2.1+1=x.1∧y.2.2=x.2.2))∧okA (some x) l
theorem za5:∀ {l:List Arc} {y:Arc},okA (some y) l→∀ c,c≤y.2.1→nxt l c=-1
 | [],_,_,_,_=>rfl
 | x::l,y,h,c,hc=>by
  have h1:=(h.2.2.1 y rfl).1
  rw[nxt,zAy (by omega)]
  exact za5 h.2.2.2 c (by have:=h.1;omega)
theorem zej {x:Arc} {l:List Arc} {p:Option Arc} (h:okA p (x::l)) {c:Int} (hc:c<x.1):nxt (x::l) c=-1:=by
 rw[nxt,zAy (by omega)]
 exact za5 h.2.2.2 c (by have:=h.1;omega)
theorem z7l {x:Arc} {l:List Arc} {c:Int} (h1:x.1≤c) (h2:c≤x.2.1):nxt (x::l) c=x.2.2:=by rw[nxt,zAz ⟨h1,h2⟩]
theorem zly {l:List Arc} {y:Arc} (h:okA (some y) l):nxt l (y.2.1+1)≠y.2.2∨y.2.2<0:=by
 cases l with
 | nil=>simp only[nxt];omega
 | cons x l =>
  have h1:=h.2.2.1 y rfl
  by_cases hc:x.1=y.2.1+1
  · left
    rw[z7l (by omega) (by have:=h.1;omega)]
    exact fun e=>h1.2 ⟨hc.symm,e.symm⟩
  · rw[zej h (by omega)]
    omega
theorem zqh:∀ {l m:List Arc} {p:Option Arc},okA p l→okA p m→(∀ c,nxt l c=nxt m c)→l=m
 | [],[],_,_,_,_=>rfl
 | [],y::m,p,_,h2,h=>by
  have:=h y.1
  rw[z7l (Int.le_refl _) h2.1] at this
  have:=h2.2.1
  simp only[nxt] at *;omega
 | x::l,[],p,h1,_,h=>by
  have:=h x.1
  rw[z7l (Int.le_refl _) h1.1] at this
  have:=h1.2.1
  simp only[nxt] at *;omega
 | x::l,y::m,p,h1,h2,h=>by
  have e1:x.1=y.1:=by
   rcases Int.lt_trichotomy x.1 y.1 with g|g|g
   · have:=h x.1
     rw[z7l (Int.le_refl _) h1.1,zej h2 g] at this
     have:=h1.2.1;omega
   · exact g
   · have:=h y.1
     rw[z7l (Int.le_refl _) h2.1,zej h1 g] at this
     have:=h2.2.1;omega
  have e2:x.2.2=y.2.2:=by
   have:=h x.1
   rw[z7l (Int.le_refl _) h1.1,z7l (by omega) (by have:=h2.1;omega)] at this
   exact this
  have e3:x.2.1=y.2.1:=by
   rcases Int.lt_trichotomy x.2.1 y.2.1 with g|g|g
   · have:=h (x.2.1+1)
     rw[z7l (x:=y) (by have:=h1.1;omega) (by omega),nxt,zAy (by omega)] at this
     rcases zly h1.2.2.2 with g2|g2
     · exact absurd (this.trans e2.symm) g2
     · have:=h1.2.1;omega
   · exact g
   · have:=h (y.2.1+1)
     rw[z7l (x:=x) (by have:=h2.1;omega) (by omega),nxt,zAy (by omega)] at this
     rcases zly h2.2.2.2 with g2|g2
     · exact absurd (this.symm.trans e2) g2
     · have:=h2.2.1;omega
  have e:x=y:=by
   obtain⟨a,b,c⟩:=x;obtain⟨a',b',c'⟩:=y
   simp only at e1 e2 e3;rw[e1,e2,e3]
  subst e
  congr 1
  refine zqh h1.2.2.2 h2.2.2.2 fun c=>?_
  by_cases hc:c≤x.2.1
  · rw[za5 h1.2.2.2 c hc,za5 h2.2.2.2 c hc]
  · have:=h c
    rw[nxt,nxt,zAy (by omega),zAy (by omega)] at this
    exact this
def before (i c j d:Int):Prop:=i<j∨i=j∧c<d
structure Can (a:Au):Prop where
 pos:0<a.F.length
 len:a.A.length=a.F.length
 ok:∀ l∈a.A,okA none l
 rng:∀ q c,a.nx q c<a.F.length
 bfs:∀ j:Int,1≤j→j<a.F.length→∃ i c,0≤i∧i<j∧a.nx i c=j∧∀ i' c',0≤i'→before i' c' i c→a.nx i' c'<j
 dif:∀ i j:Int,0≤i→i<a.F.length→0≤j→j<a.F.length→(∀ w,a.acc i w=a.acc j w)→i=j
 live:∀ i:Int,0≤i→i<a.F.length→∃ w,a.acc i w=true
theorem zkw {p:Option Arc}:∀ {l:List Arc} {p:Option Arc},okA p l→∀ c,-1≤nxt l c
 | [],_,_,_=>Int.le_refl _
 | x::l,p,h,c=>by
  rw[nxt]
  split
  · have:=h.2.1;omega
  · exact zkw (p:=none) h.2.2.2 c
theorem Can.nx_ge {a:Au} (h:Can a) (q c:Int):-1≤a.nx q c:=by
 rw[Au.nx,Au.arcs]
 split
 · exact Int.le_refl _
 · by_cases hq:q.toNat<a.A.length
   · rw[List.getD,zA0 hq]
     exact zkw (p:=none) (h.ok _ (List.getElem_mem hq)) c
   · rw[List.getD,zAv (by omega)];exact Int.le_refl _
theorem Can.arcs_ok {a:Au} (h:Can a) (q:Int):okA none (a.arcs q):=by
 rw[Au.arcs]
 split
 · trivial
 · by_cases hq:q.toNat<a.A.length
   · rw[List.getD,zA0 hq];exact h.ok _ (List.getElem_mem hq)
   · rw[List.getD,zAv (by omega)];trivial
section
variable {a b:Au} (ha:Can a) (hb:Can b) (h0:∀ w,a.acc 0 w=b.acc 0 w)
include ha hb
def zgw (a b:Au) (m:Int):Prop:=∀ j:Int,0≤j→j<m→j<a.F.length∧j<b.F.length∧∀ w,a.acc j w=b.acc j w
theorem zg4 {i:Int} (h:∀ w,a.acc i w=b.acc i w) (c:Int):(∀ w,a.acc (a.nx i c) w=b.acc (b.nx i c) w)∧(a.nx i c<0↔b.nx i c<0):=by
 have h1:∀ w,a.acc (a.nx i c) w=b.acc (b.nx i c) w:=fun w=>h (c::w)
 refine⟨h1,?_,?_⟩
 · intro g
   false_or_by_contra
   rename_i g2
   obtain⟨w,hw⟩:=hb.live (b.nx i c) (by omega) (hb.rng i c)
   rw[← h1,a.acc_neg w g] at hw;cases hw
 · intro g
   false_or_by_contra
   rename_i g2
   obtain⟨w,hw⟩:=ha.live (a.nx i c) (by omega) (ha.rng i c)
   rw[h1,b.acc_neg w g] at hw;cases hw
theorem zdp {m i c:Int} (hm:zgw a b m) (hi:∀ w,a.acc i w=b.acc i w) (h:a.nx i c<m):b.nx i c=a.nx i c:=by
 obtain⟨h1,h2⟩:=zg4 ha hb hi c
 by_cases hn:a.nx i c<0
 · have e1:=h2.1 hn
   have:=ha.nx_ge i c
   have:=hb.nx_ge i c
   omega
 · obtain⟨k1,k2,k3⟩:=hm (a.nx i c) (by omega) h
   have hbn:¬ b.nx i c<0:=fun g=>hn (h2.2 g)
   exact hb.dif _ _ (by omega) (hb.rng i c) (by omega) k2 fun w=>by rw[← h1,k3]
theorem zol {m:Int} (h1:1≤m) (hm:zgw a b m) (hlt:m<a.F.length):zgw a b (m+1):=by
 obtain⟨i,c,i0,im,hic,hbef⟩:=ha.bfs m h1 hlt
 obtain⟨l1,l2,hi⟩:=hm i i0 im
 obtain⟨s1,s2⟩:=zg4 ha hb hi c
 -- what b meets there
 have hn:¬ b.nx i c<0:=fun g=>by have:=s2.2 g;omega
 have hge:m≤b.nx i c:=by
  false_or_by_contra
  rename_i g
  obtain⟨k1,k2,k3⟩:=hm (b.nx i c) (by omega) (by omega)
  have:=ha.dif (a.nx i c) (b.nx i c) (by omega) (ha.rng i c) (by omega) k1 fun w=>by rw[s1,k3]
  omega
 have heq:b.nx i c=m:=by
  have hbm:m<b.F.length:=by have:=hb.rng i c;omega
  obtain⟨i1,c1,j0,jm,hjc,hbef2⟩:=hb.bfs m h1 hbm
  by_cases g:before i1 c1 i c
  · -- b meets m earlier than a does
    have g1:=hbef i1 c1 j0 g
    obtain⟨_,_,hi1⟩:=hm i1 j0 jm
    have:=zdp ha hb hm hi1 g1
    omega
  · by_cases g2:before i c i1 c1
    · have:=hbef2 i c i0 g2
      omega
    · have:i=i1∧c=c1:=by
       unfold before at g g2;omega
      rw[this.1,this.2];exact hjc
 intro j j0 jm
 by_cases hj:j<m
 · exact hm j j0 hj
 · obtain rfl:j=m:=by omega
   refine⟨hlt,by have:=hb.rng i c;omega,fun w=>?_⟩
   have:=s1 w
   rw[hic,heq] at this;exact this
include h0 in
theorem zk7:zgw a b a.F.length:=by
 have key:∀ k:Nat,k+1≤a.F.length→zgw a b ((k:Int)+1):=fun k=>by
  induction k with
  | zero =>
   intro _ j j0 j1
   obtain rfl:j=0:=by omega
   exact⟨by have:=ha.pos;omega,by have:=hb.pos;omega,h0⟩
  | succ k ih =>
   intro hk
   have:=zol ha hb (by omega) (ih (by omega)) (by omega)
   intro j j0 j1
   exact this j j0 (by omega)
 have hp:=ha.pos
 have:=key (a.F.length-1) (by omega)
 intro j j0 j1
 exact this j j0 (by omega)
end
theorem zqp {a b:Au} (ha:Can a) (hb:Can b) (h0:∀ w,a.acc 0 w=b.acc 0 w):a.F.length≤b.F.length:=by
 have h:=zk7 ha hb h0
 have hp:=ha.pos
 have:=(h ((a.F.length:Int)-1) (by omega) (by omega)).2.1
 omega
theorem y54 {a b:Au} (ha:Can a) (hb:Can b) (h0:∀ w,a.acc 0 w=b.acc 0 w):a=b:=by
 have h:=zk7 ha hb h0
 have hl:a.F.length=b.F.length:=Nat.le_antisymm (zqp ha hb h0) (zqp hb ha fun w=>(h0 w).symm)
 have hF:a.F=b.F:=by
  refine List.ext_getElem hl fun i h1 h2=>?_
  have:=(h (i:Nat) (by omega) (by omega)).2.2 []
  rw[Au.acc_nil,Au.acc_nil,Au.fin,Au.fin,zAy (by omega),zAy (by omega),zA9,List.getD,List.getD,zA0 h1,zA0 h2] at this
  exact this
 have hA:a.A=b.A:=by
  refine List.ext_getElem (by rw[ha.len,hb.len,hl]) fun i h1 h2=>?_
  have hi:=(h (i:Nat) (by omega) (by rw[ha.len] at h1;omega)).2.2
  have e1:a.arcs (i:Nat)=a.A[i]:=by rw[Au.arcs,zAy (by omega),zA9,List.getD,zA0 h1];rfl
  have e2:b.arcs (i:Nat)=b.A[i]:=by rw[Au.arcs,zAy (by omega),zA9,List.getD,zA0 h2];rfl
  rw[← e1,← e2]
  refine zqh (ha.arcs_ok _) (hb.arcs_ok _) fun c=>?_
  have:=zdp ha hb h hi (ha.rng (i:Nat) c)
  exact this.symm
 obtain⟨F,A⟩:=a
 obtain⟨F',A'⟩:=b
 simp only at hF hA
 rw[hF,hA]
def z7g:Option Arc→List Arc→Option Arc
 | p,[]=>p
 | _,x::l=>z7g (some x) l
theorem z1r:∀ (l:List Arc) (p:Option Arc) (x:Arc),z7g p (l++[x])=some x
 | [],_,_=>rfl
 | y::l,p,x=>by rw[List.cons_append,z7g,z1r l]
theorem zeg:∀ {l:List Arc} {p:Option Arc} {x:Arc},okA p l→x.1≤x.2.1→0≤x.2.2→(∀ y,z7g p l=some y→y.2.1<x.1∧¬ (y.2.1+1=x.1∧y.2.2=x.2.2))→okA p (l++[x])
 | [],p,x,_,h1,h2,h3=>⟨h1,h2,h3,trivial⟩
 | z::l,p,x,h,h1,h2,h3=>⟨h.1,h.2.1,h.2.2.1,zeg h.2.2.2 h1 h2 h3⟩
theorem zk8:∀ {l:List Arc} {p:Option Arc} {x:Arc},okA p (l++[x])→okA p l∧x.1≤x.2.1∧0≤x.2.2∧∀ y,z7g p l=some y→y.2.1<x.1∧¬ (y.2.1+1=x.1∧y.2.2=x.2.2)
 | [],p,x,h=>⟨trivial,h.1,h.2.1,h.2.2.1⟩
 | z::l,p,x,h=>by
  obtain⟨h1,h2⟩:=zk8 (l:=l) (p:=some z) h.2.2.2
  exact⟨⟨h.1,h.2.1,h.2.2.1,h1⟩,h2⟩
theorem zes:∀ {l:List Arc} {p:Option Arc},okA p l→∀ (m:List Arc) (c:Int),nxt (l++m) c=if nxt l c=-1 then nxt m c else nxt l c
 | [],_,_,m,c=>by simp[nxt]
 | x::l,p,h,m,c=>by
  rw[List.cons_append,nxt,nxt]
  by_cases hc:x.1≤c∧c≤x.2.1
  · rw[zAz hc,zAz hc,zAy (by have:=h.2.1;omega)]
  · rw[zAy hc,zAy hc]
    exact zes h.2.2.2 m c
theorem zld:∀ {l:List Arc} {p:Option Arc} {y:Arc},okA p l→z7g p l=some y→(∀ z,p=some z→z=y∨z.2.1<y.1∨True)→∀ c,y.2.1<c→nxt l c=-1
 | [],_,_,_,_,_,_,_=>rfl
 | x::l,p,y,h,hl,_,c,hc=>by
  have h1:nxt l c=-1:=zld h.2.2.2 hl (fun _ _=>.inr (.inr trivial)) c hc
  have h2:x.2.1≤y.2.1:=by
   have key:∀ (l:List Arc) (x y:Arc),okA (some x) l→z7g (some x) l=some y→x.2.1≤y.2.1:=fun l=>by
    induction l with
    | nil=>intro x y _ h;rw[z7g] at h;cases h;exact Int.le_refl _
    | cons z l ih =>
     intro x y h hl
     have:=ih z y h.2.2.2 hl
     have:=(h.2.2.1 x rfl).1
     have:=h.1
     omega
   exact key l x y h.2.2.2 hl
  rw[nxt,zAy (by omega)];exact h1
def ext (l:List Arc) (f t q:Int):List Arc:=match l.getLast? with
 | some y=>if y.2.1+1=f∧y.2.2=q then l.dropLast++[(y.1,t,q)] else l++[(f,t,q)]
 | none=>[(f,t,q)]
theorem ext_nil (f t q:Int):ext [] f t q=[(f,t,q)]:=rfl
theorem z2x (l:List Arc) (y:Arc) (f t q:Int):ext (l++[y]) f t q=if y.2.1+1=f∧y.2.2=q then l++[(y.1,t,q)] else l++[y]++[(f,t,q)]:=by
 rw[ext,List.getLast?_append]
 simp
theorem zft {α:Type} (l:List α):l=[]∨∃ m x,l=m++[x]:=by
 rcases List.eq_nil_or_concat l with h|⟨m,x,h⟩
 · exact .inl h
 · exact .inr ⟨m,x,by rw[h,List.concat_eq_append]⟩
theorem zx1 {l:List Arc} {f t q:Int} (h:okA none l) (hft:f≤t) (hq:0≤q) (hl:∀ y,z7g none l=some y→y.2.1<f):okA none (ext l f t q)∧z7g none (ext l f t q)≠none∧(∀ y,z7g none (ext l f t q)=some y→y.2.1=t) ∧
 ∀ c,nxt (ext l f t q) c=if f≤c∧c≤t then q else nxt l c:=by
 rcases zft l with rfl|⟨m,y,rfl⟩
 · rw[ext_nil]
   refine⟨⟨hft,hq,(fun y hy=>by cases hy),trivial⟩,by simp[z7g],fun y hy=>?_,fun c=>?_⟩
   · simp only[z7g,zAh] at hy;rw[← hy]
   · simp only[nxt]
 · have hy:=hl y (z1r _ _ _)
   obtain⟨h1,h2,h3,h4⟩:=zk8 h
   rw[z2x]
   have hm:∀ c,y.1≤c→nxt m c=-1:=fun c hc=>by
    rcases zft m with rfl|⟨m',z,rfl⟩
    · rfl
    · have:=(h4 z (z1r _ _ _)).1
      exact zld h1 (z1r _ _ _) (fun _ _=>.inr (.inr trivial)) c (by omega)
   by_cases hj:y.2.1+1=f∧y.2.2=q
   · rw[zAz hj]
     refine⟨zeg h1 (by simp only;omega) (by simp only;omega) (fun z hz=>?_),by rw[z1r];simp,fun z hz=>?_,fun c=>?_⟩
     · have:=h4 z hz
       simp only
       exact⟨this.1,fun g=>this.2 ⟨g.1,by rw[g.2,hj.2]⟩⟩
     · rw[z1r] at hz;cases hz;rfl
     · rw[zes h1,zes h1]
       simp only[nxt]
       by_cases hc:f≤c∧c≤t
       · rw[zAz hc,zAz (hm c (by omega)),zAz (by omega)]
       · rw[zAy hc]
         by_cases hmc:nxt m c=-1
         · rw[zAz hmc,zAz hmc]
           by_cases hc2:y.1≤c∧c≤y.2.1
           · rw[zAz hc2,zAz (by omega),hj.2]
           · rw[zAy hc2,zAy (by omega)]
         · rw[zAy hmc,zAy hmc]
   · rw[zAy hj]
     refine⟨zeg h (by simpa using hft) (by simpa using hq) (fun z hz=>?_),by rw[z1r];simp,fun z hz=>?_,fun c=>?_⟩
     · rw[z1r] at hz
       cases hz
       exact⟨hy,hj⟩
     · rw[z1r] at hz;cases hz;rfl
     · rw[zes h]
       simp only[nxt]
       by_cases hc:f≤c∧c≤t
       · have:nxt (m++[y]) c=-1:=zld h (z1r _ _ _) (fun _ _=>.inr (.inr trivial)) c (by omega)
         rw[zAz hc,zAz this,zAz hc]
       · rw[zAy hc,zAy hc]
         split
         · rename_i h5;rw[h5]
         · rfl
abbrev Edge (K:Type):=Int × Int × K
def kx {K:Type}:List (Edge K)→Int→Option K
 | [],_=>none
 | e::l,c=>if e.1≤c∧c≤e.2.1 then some e.2.2 else kx l c
def okE {K:Type}:Int→List (Edge K)→Prop
 | _,[]=>True
 | a,e::l=>a≤e.1∧e.1≤e.2.1∧e.2.1≤1114111∧okE (e.2.1+1) l
theorem zhp {K:Type}:∀ {l:List (Edge K)} {a:Int},okE a l→∀ c,c<a→kx l c=none
 | [],_,_,_,_=>rfl
 | e::l,a,h,c,hc=>by
  rw[kx,zAy (by have:=h.1;omega)]
  exact zhp h.2.2.2 c (by have:=h.1;have:=h.2.1;omega)
section
variable {K:Type} [DecidableEq K]
def z2r (k:K):List K→Nat
 | []=>0
 | x::l=>if x=k then 0 else z2r k l+1
theorem z2o {k:K}:∀ {l:List K},k∈l→z2r k l<l.length∧l[z2r k l]? =some k
 | [],h=>by simp at h
 | x::l,h=>by
  rw[z2r]
  by_cases hx:x=k
  · rw[zAz hx];exact⟨by simp,by simp[hx]⟩
  · rw[zAy hx]
    rw[zAc] at h
    have:=z2o (h.resolve_left fun g=>hx g.symm)
    exact⟨by rw[zAk];omega,by rw[List.getElem?_cons_succ];exact this.2⟩
theorem z2y {k:K}:∀ {l:List K},k∉l→z2r k l=l.length
 | [],_=>rfl
 | x::l,h=>by
  rw[zAc,not_or] at h
  rw[z2r,zAy (fun g=>h.1 g.symm),z2y h.2];rfl
theorem zbr {k:K}:∀ {l m:List K},k∈l→z2r k (l++m)=z2r k l
 | [],m,h=>by simp at h
 | x::l,m,h=>by
  rw[List.cons_append,z2r,z2r]
  by_cases hx:x=k
  · rw[zAz hx,zAz hx]
  · rw[zAy hx,zAy hx,zbr ((zAc.1 h).resolve_left fun g=>hx g.symm)]
def z5b (ks:List K) (k:K):List K:=if k∈ks then ks else ks++[k]
theorem z8y (ks:List K) (k:K):k∈z5b ks k:=by rw[z5b];split <;> simp[*]
theorem zfp (ks:List K) (k:K):z2r k (z5b ks k)=z2r k ks:=by
 rw[z5b];split
 · rfl
 · rename_i h
   rw[z2y h]
   have key:∀ l:List K,k∉l→z2r k (l++[k])=l.length:=fun l=>by
    induction l with
    | nil=>intro _;simp[z2r]
    | cons x l ih =>
     intro h
     rw[zAc,not_or] at h
     rw[List.cons_append,z2r,zAy (fun g=>h.1 g.symm),ih h.2];rfl
   exact key ks h
theorem z6b (ks:List K) (k:K):∃ r,z5b ks k=ks++r:=by
 rw[z5b];split
 · exact⟨[],by simp⟩
 · exact⟨[k],rfl⟩
theorem za9 {ks:List K} {k:K} (h:ks.Nodup):(z5b ks k).Nodup:=by
 rw[z5b];split
 · exact h
 · rename_i hk
   rw[List.nodup_append]
   exact⟨h,by simp,fun a ha b hb=>by rw[zAq] at hb;subst hb;exact fun g=>hk (g▸ha)⟩
def z4n (s:List K × List Arc) (e:Edge K):List K × List Arc:=(z5b s.1 e.2.2,ext s.2 e.1 e.2.1 (z2r e.2.2 s.1:Nat))
def exL (fin:K→Bool) (edg:K→List (Edge K)) (lim:Nat):Nat→Nat→List K→Au→Option Au
 | 0,_,_,_=>none
 | n+1,i,ks,a=>match ks[i]? with
  | none=>some a
  | some k=>if lim<((edg k).foldl z4n (ks,[])).1.length then none else exL fin edg lim n (i+1) ((edg k).foldl z4n (ks,[])).1 ⟨a.F++[fin k],a.A++[((edg k).foldl z4n (ks,[])).2]⟩
end
section
variable {K:Type} [DecidableEq K]
theorem zop (k:K):∀ l:List K,z2r k l≤l.length
 | []=>zAj _
 | x::l=>by rw[z2r];split <;> simp[zop k l]
theorem zf7 {l:List K} (h:l.Nodup) {i:Nat} {k:K} (hi:l[i]? =some k):z2r k l=i:=by
 have hm:k∈l:=zA2 hi
 obtain⟨h1,h2⟩:=z2o hm
 obtain⟨h3,h4⟩:=zA1.1 hi
 obtain⟨h5,h6⟩:=zA1.1 h2
 exact(List.getElem_inj (h₀:=h5) (h₁:=h3) h).1 (h6.trans h4.symm)
structure Fold (es:List (Edge K)) (a:Int) (ks:List K) (l:List Arc) (r:List K × List Arc):Prop where
 pre:∃ e,r.1=ks++e
 nod:ks.Nodup→r.1.Nodup
 ok:okA none r.2
 nx:∀ c,nxt r.2 c=match kx es c with|some k=>((z2r k r.1:Nat):Int)|none=>nxt l c
 mem:∀ c k,kx es c=some k→k∈r.1
 bfs:∀ j k,ks.length≤j→r.1[j]? =some k→∃ c,a≤c∧kx es c=some k∧∀ c' k',c'<c→kx es c'=some k'→z2r k' r.1<j
theorem zp9 {es:List (Edge K)} {c:Int} {k:K} (h:kx es c=some k):∃ e∈es,e.1≤c∧c≤e.2.1∧e.2.2=k:=by
 induction es with
 | nil=>simp[kx] at h
 | cons e es ih =>
  rw[kx] at h
  split at h
  · rename_i hc;simp only[zAh] at h;exact⟨e,by simp,hc.1,hc.2,h⟩
  · obtain⟨x,hx,h2⟩:=ih h;exact⟨x,by simp[hx],h2⟩
theorem zr3:∀ (es:List (Edge K)) (a:Int) (ks:List K) (l:List Arc),okE a es→okA none l→(∀ y,z7g none l=some y→y.2.1<a)→Fold es a ks l (es.foldl z4n (ks,l))
 | [],a,ks,l,_,h2,_=>⟨⟨[],by simp⟩,fun h=>h,h2,fun c=>rfl,fun c k h=>by simp[kx] at h,fun j k h1 h2=>by
     rw[List.foldl_nil] at h2
     have:=(zA1.1 h2).1
     simp only at this;omega⟩
 | e::es,a,ks,l,h1,h2,h3=>by
  have hx:=zx1 (q:=(z2r e.2.2 ks:Nat)) h2 h1.2.1 (by omega) (fun y hy=>by have:=h3 y hy;have:=h1.1;omega)
  obtain⟨x1,x2,x3,x4⟩:=hx
  have ih:=zr3 es (e.2.1+1) (z5b ks e.2.2) (ext l e.1 e.2.1 (z2r e.2.2 ks:Nat)) h1.2.2.2 x1 (fun y hy=>by rw[x3 y hy];omega)
  rw[List.foldl_cons]
  change Fold (e::es) a ks l (es.foldl z4n (z5b ks e.2.2,ext l e.1 e.2.1 (z2r e.2.2 ks:Nat)))
  obtain⟨g1,g2,g3,g4,g5,g6⟩:=ih
  generalize es.foldl z4n (z5b ks e.2.2,ext l e.1 e.2.1 (z2r e.2.2 ks:Nat))=r at *
  obtain⟨q1,hq1⟩:=g1
  obtain⟨q2,hq2⟩:=z6b ks e.2.2
  have hix:z2r e.2.2 r.1=z2r e.2.2 ks:=by rw[hq1,zbr (z8y ks e.2.2),zfp]
  have hem:e.2.2∈r.1:=by rw[hq1];exact List.mem_append_left _ (z8y _ _)
  refine⟨⟨q2++q1,by rw[hq1,hq2,zAl]⟩,fun h=>g2 (za9 h),g3,fun c=>?_,fun c k h=>?_,fun j k hj hk=>?_⟩
  · rw[g4 c,kx]
    by_cases hc:e.1≤c∧c≤e.2.1
    · rw[zAz hc,zhp h1.2.2.2 c (by omega)]
      simp only
      rw[x4 c,zAz hc,hix]
    · rw[zAy hc]
      cases kx es c with
      | some k=>rfl
      | none=>simp only;rw[x4 c,zAy hc]
  · rw[kx] at h
    split at h
    · simp only[zAh] at h;rw[← h];exact hem
    · exact g5 c k h
  · by_cases hj2:(z5b ks e.2.2).length≤j
    · obtain⟨c,c1,c2,c3⟩:=g6 j k hj2 hk
      refine⟨c,by have:=h1.1;have:=h1.2.1;omega,by rw[kx,zAy (by omega)];exact c2,fun c' k' hc' hk'=>?_⟩
      rw[kx] at hk'
      split at hk'
      · simp only[zAh] at hk'
        subst hk'
        have:=(z2o (z8y ks e.2.2)).1
        rw[zfp] at this
        rw[hix];omega
      · exact c3 c' k' hc' hk'
    · -- the new key of this edge
      have hnew:e.2.2∉ks:=fun g=>hj2 (by rw[z5b,zAz g];exact hj)
      have hadd:z5b ks e.2.2=ks++[e.2.2]:=by rw[z5b,zAy hnew]
      rw[hadd,zAa,zAn] at hj2
      obtain rfl:j=ks.length:=by omega
      have hke:k=e.2.2:=by
       rw[hq1,hadd,zAl,zAg (zAj _),Nat.sub_self] at hk
       simpa using hk.symm
      refine⟨e.1,h1.1,by rw[kx,zAz ⟨Int.le_refl _,h1.2.1⟩,hke],fun c' k' hc' hk'=>?_⟩
      rw[kx,zAy (by omega),zhp h1.2.2.2 c' (by have:=h1.2.1;omega)] at hk'
      cases hk'
def zdo (fin:K→Bool) (edg:K→List (Edge K)):Option K→List Int→Bool
 | none,_=>false
 | some k,[]=>fin k
 | some k,c::w=>zdo fin edg (kx (edg k) c) w
structure Ex (fin:K→Bool) (edg:K→List (Edge K)) (first:K) (i:Nat) (ks:List K) (a:Au):Prop where
 le:i≤ks.length
 fl:a.F.length=i
 al:a.A.length=i
 hd:ks[0]? =some first
 nod:ks.Nodup
 fin_:∀ q k,q<i→ks[q]? =some k→a.F[q]? =some (fin k)
 arc:∀ q k,q<i→ks[q]? =some k→∃ l,a.A[q]? =some l∧okA none l∧(∀ c,nxt l c=match kx (edg k) c with|some k'=>((z2r k' ks:Nat):Int)|none=> -1)∧∀ c k',kx (edg k) c=some k'→k'∈ks
 bfs:∀ j:Nat,1≤j→j<ks.length→∃ q k c,q<i∧q<j∧ks[q]? =some k∧(∃ k',kx (edg k) c=some k'∧ks[j]? =some k') ∧
  ∀ q' k0 c' k',(q'<q∨q'=q∧c'<c)→ks[q']? =some k0→kx (edg k0) c'=some k'→z2r k' ks<j
theorem zpl {fin:K→Bool} {edg:K→List (Edge K)} {first:K} {i:Nat} {ks:List K} {a:Au} (h:Ex fin edg first i ks a) {k:K} (hk:ks[i]? =some k) (he:okE 0 (edg k)) :
 Ex fin edg first (i+1) ((edg k).foldl z4n (ks,[])).1 ⟨a.F++[fin k],a.A++[((edg k).foldl z4n (ks,[])).2]⟩:=by
 have hf:=zr3 (edg k) 0 ks [] he trivial (fun y hy=>by cases hy)
 generalize (edg k).foldl z4n (ks,[])=r at *
 obtain⟨⟨e,hp⟩,g2,g3,g4,g5,g6⟩:=hf
 obtain⟨hi,_⟩:=zA1.1 hk
 have hget:∀ {q:Nat} {x:K},q<ks.length→r.1[q]? =some x→ks[q]? =some x:=fun {q x} hq hx=>by
  rw[hp,zAb hq] at hx;exact hx
 have hget2:∀ {q:Nat} {x:K},ks[q]? =some x→r.1[q]? =some x:=fun {q x} hx=>by
  rw[hp,zAb (zA1.1 hx).1];exact hx
 have hix:∀ {x:K},x∈ks→z2r x r.1=z2r x ks:=fun {x} hx=>by rw[hp,zbr hx]
 have hmem:∀ {x:K},x∈ks→x∈r.1:=fun {x} hx=>by rw[hp];exact List.mem_append_left _ hx
 have hkr:=hget2 hk
 refine⟨?_,by simp[h.fl],by simp[h.al],hget2 h.hd,g2 h.nod,fun q x hq hx=>?_,fun q x hq hx=>?_,fun j hj1 hj2=>?_⟩
 · rw[hp,zAa];omega
 · by_cases hqi:q<i
   · have:=h.fin_ q x hqi (hget (by omega) hx)
     simp only
     rw[zAb (by rw[h.fl];omega)];exact this
   · obtain rfl:q=i:=by omega
     rw[hkr] at hx;cases hx
     simp only
     rw[zAg (by rw[h.fl];omega),h.fl,Nat.sub_self];rfl
 · by_cases hqi:q<i
   · obtain⟨l,l1,l2,l3,l4⟩:=h.arc q x hqi (hget (by omega) hx)
     refine⟨l,?_,l2,fun c=>?_,fun c k' hk'=>hmem (l4 c k' hk')⟩
     · simp only
       rw[zAb (by rw[h.al];omega)];exact l1
     · rw[l3 c]
       cases hc:kx (edg x) c with
       | none=>rfl
       | some k'=>simp only;rw[hix (l4 c k' hc)]
   · obtain rfl:q=i:=by omega
     rw[hkr] at hx;cases hx
     refine⟨r.2,?_,g3,fun c=>?_,fun c k' hk'=>g5 c k' hk'⟩
     · simp only
       rw[zAg (by rw[h.al];omega),h.al,Nat.sub_self];rfl
     · rw[g4 c];rfl
 · by_cases hjk:j<ks.length
   · obtain⟨q,x,c,q1,q2,q3,⟨k',k1,k2⟩,q4⟩:=h.bfs j hj1 hjk
     refine⟨q,x,c,by omega,q2,hget2 q3,⟨k',k1,hget2 k2⟩,fun q' k0 c' k2' hb h0 h1=>?_⟩
     have hq':q'<ks.length:=by have:=(zA1.1 q3).1;omega
     have h0':=hget hq' h0
     have hm:k2'∈ks:=by
      obtain⟨l,_,_,_,l4⟩:=h.arc q' k0 (by omega) h0'
      exact l4 c' k2' h1
     rw[hix hm]
     exact q4 q' k0 c' k2' hb h0' h1
   · obtain⟨k',hk'⟩:∃ k',r.1[j]? =some k':=⟨_,zA0 hj2⟩
     obtain⟨c,c1,c2,c3⟩:=g6 j k' (by omega) hk'
     refine⟨i,k,c,by omega,by omega,hkr,⟨k',c2,hk'⟩,fun q' k0 c' k2' hb h0 h1=>?_⟩
     rcases hb with hb|⟨rfl,hb⟩
     · have h0':=hget (by omega) h0
       obtain⟨l,_,_,_,l4⟩:=h.arc q' k0 hb h0'
       have hm:=l4 c' k2' h1
       rw[hix hm]
       have:=(z2o hm).1
       omega
     · rw[hkr] at h0;cases h0
       exact c3 c' k2' hb h1
theorem zgv {fin:K→Bool} {edg:K→List (Edge K)} {first:K} {lim:Nat} (he:∀ k,okE 0 (edg k)):∀ (n i:Nat) (ks:List K) (a b:Au),Ex fin edg first i ks a→exL fin edg lim n i ks a=some b→∃ ks',Ex fin edg first ks'.length ks' b
 | 0,i,ks,a,b,_,h=>by rw[exL] at h;cases h
 | n+1,i,ks,a,b,hx,h=>by
  rw[exL] at h
  split at h
  · rename_i hn
    simp only[zAh] at h
    subst h
    have:ks.length≤i:=by simpa using hn
    have:=hx.le
    obtain rfl:i=ks.length:=by omega
    exact⟨ks,hx⟩
  · rename_i k hk
    split at h
    · cases h
    · exact zgv he n _ _ _ b (zpl hx hk (he k)) h
theorem zyh (fin:K→Bool) (edg:K→List (Edge K)) (first:K):Ex fin edg first 0 [first] ⟨[],[]⟩ :=
 ⟨zAf _,rfl,rfl,rfl,by simp,fun q k h=>absurd h (Nat.not_lt_zero _),fun q k h=>absurd h (Nat.not_lt_zero _),fun j h1 h2=>by simp at h2;omega⟩
theorem zav {fin:K→Bool} {edg:K→List (Edge K)} {first:K} {ks:List K} {a:Au} (h:Ex fin edg first ks.length ks a):∀ (w:List Int) (q:Nat) (k:K),ks[q]? =some k→a.acc (q:Nat) w=zdo fin edg (some k) w
 | [],q,k,hk=>by
  have hq:=(zA1.1 hk).1
  rw[Au.acc_nil,Au.fin,zAy (by omega),zA9,List.getD,h.fin_ q k hq hk,zdo];rfl
 | c::w,q,k,hk=>by
  have hq:=(zA1.1 hk).1
  obtain⟨l,l1,l2,l3,l4⟩:=h.arc q k hq hk
  have e1:a.nx (q:Nat) c=nxt l c:=by rw[Au.nx,Au.arcs,zAy (by omega),zA9,List.getD,l1];rfl
  rw[Au.acc_cons,zdo,e1,l3 c]
  cases hc:kx (edg k) c with
  | none=>simp only;rw[a.acc_neg w (by decide),zdo]
  | some k'=>simp only;exact zav h w _ k' (z2o (l4 c k' hc)).2
theorem zxi {fin:K→Bool} {edg:K→List (Edge K)} {first:K} {ks:List K} {a:Au} (h:Ex fin edg first ks.length ks a)
 (hd:∀ x∈ks,∀ y∈ks,(∀ w,zdo fin edg (some x) w=zdo fin edg (some y) w)→x=y) (hl:∀ x∈ks,∃ w,zdo fin edg (some x) w=true):Can a:=by
 have hpos:0<ks.length:=(zA1.1 h.hd).1
 have hnx:∀ (q:Nat) (k:K) (c:Int),ks[q]? =some k→a.nx (q:Nat) c=match kx (edg k) c with|some k'=>((z2r k' ks:Nat):Int)|none=> -1:=fun q k c hk=>by
  obtain⟨l,l1,l2,l3,l4⟩:=h.arc q k (zA1.1 hk).1 hk
  rw[Au.nx,Au.arcs,zAy (by omega),zA9,List.getD,l1]
  exact l3 c
 have hout:∀ (q c:Int),q<0∨(ks.length:Int)≤q→a.nx q c=-1:=fun q c hq=>by
  rw[Au.nx,Au.arcs]
  split
  · rfl
  · rw[List.getD,zAv (by rw[h.al];omega)];rfl
 have hget:∀ q:Int,0≤q→q<ks.length→∃ k,ks[q.toNat]? =some k:=fun q h0 h1=>⟨_,zA0 (by omega)⟩
 refine⟨by rw[h.fl];exact hpos,by rw[h.al,h.fl],fun l hl'=>?_,fun q c=>?_,fun j j1 j2=>?_,fun i j i0 i1 j0 j1 hw=>?_,fun i i0 i1=>?_⟩
 · obtain⟨q,hq⟩:=List.mem_iff_getElem?.1 hl'
   have hq1:q<ks.length:=by have:=(zA1.1 hq).1;rw[h.al] at this;exact this
   obtain⟨k,hk⟩:∃ k,ks[q]? =some k:=⟨_,zA0 hq1⟩
   obtain⟨l',l1,l2,_,_⟩:=h.arc q k hq1 hk
   rw[hq] at l1;cases l1;exact l2
 · rw[h.fl]
   by_cases hq:q<0∨(ks.length:Int)≤q
   · rw[hout q c hq];omega
   · obtain⟨k,hk⟩:=hget q (by omega) (by omega)
     have:=hnx q.toNat k c hk
     rw[show ((q.toNat:Nat):Int)=q by omega] at this
     rw[this]
     obtain⟨l,_,_,_,l4⟩:=h.arc q.toNat k (zA1.1 hk).1 hk
     cases hc:kx (edg k) c with
     | none=>simp only;omega
     | some k'=>simp only;have:=(z2o (l4 c k' hc)).1;omega
 · rw[h.fl] at j2
   obtain⟨q,k,c,q1,q2,q3,⟨k',k1,k2⟩,q4⟩:=h.bfs j.toNat (by omega) (by omega)
   refine⟨(q:Nat),c,by omega,by omega,?_,fun i' c' hi' hb=>?_⟩
   · rw[hnx q k c q3,k1]
     simp only
     rw[zf7 h.nod k2];omega
   · by_cases hi2:(ks.length:Int)≤i'
     · rw[hout i' c' (.inr hi2)];omega
     · obtain⟨k0,hk0⟩:=hget i' hi' (by omega)
       have:=hnx i'.toNat k0 c' hk0
       rw[show ((i'.toNat:Nat):Int)=i' by omega] at this
       rw[this]
       cases hc:kx (edg k0) c' with
       | none=>simp only;omega
       | some k2' =>
        simp only
        have:=q4 i'.toNat k0 c' k2' (by unfold before at hb;omega) hk0 hc
        omega
 · rw[h.fl] at i1 j1
   obtain⟨x,hx⟩:=hget i i0 i1
   obtain⟨y,hy⟩:=hget j j0 j1
   have hxy:=hd x (zA2 hx) y (zA2 hy) fun w=>by
    have e1:=zav h w i.toNat x hx
    have e2:=zav h w j.toNat y hy
    rw[show ((i.toNat:Nat):Int)=i by omega] at e1
    rw[show ((j.toNat:Nat):Int)=j by omega] at e2
    rw[← e1,← e2,hw w]
   have e1:=zf7 h.nod hx
   have e2:=zf7 h.nod hy
   rw[hxy] at e1
   omega
 · rw[h.fl] at i1
   obtain⟨x,hx⟩:=hget i i0 i1
   obtain⟨w,hw⟩:=hl x (zA2 hx)
   refine⟨w,?_⟩
   have e1:=zav h w i.toNat x hx
   rw[show ((i.toNat:Nat):Int)=i by omega] at e1
   rw[e1,hw]
end
def zrj (n:Int) (x:Arc):Bool:=decide (x.1<0)||decide (x.1>x.2.1)||decide (x.2.1>1114111)||decide (x.2.2<0)||decide (x.2.2≥n)
def zrg (p x:Arc):Bool:=decide (x.1≤p.2.1)||(decide (x.1=p.2.1+1)&&decide (x.2.2=p.2.2))
def zfu (n:Int):Option Arc→List Arc→Int
 | _,[]=>0
 | p,x::l=>if zrj n x=true then 8 else match p with
  | some y=>if zrg y x=true then 6 else zfu n (some x) l
  | none=>zfu n (some x) l
theorem z8z (n:Int) (p:Option Arc) (x:Arc) (l:List Arc):zfu n p (x::l)=if zrj n x=true then 8 else match p with
 | some y=>if zrg y x=true then 6 else zfu n (some x) l
 | none=>zfu n (some x) l:=by cases p <;> rfl
def z9n (n:Int):List (List Arc)→Int
 | []=>0
 | l::A=>if zfu n none l≠0 then zfu n none l else z9n n A
def vAu (a:Au):Int:=if 256<a.F.length then 2 else if a.F.length=0∨a.A.length≠a.F.length then 15 else z9n a.F.length a.A
theorem zfg:∀ {n:Int} {l:List Arc} {p:Option Arc},zfu n p l=0→okA p l∧∀ x∈l,0≤x.1∧x.1≤x.2.1∧x.2.1≤1114111∧0≤x.2.2∧x.2.2<n
 | n,[],p,_=>⟨trivial,by simp⟩
 | n,x::l,p,h=>by
  rw[z8z] at h
  split at h
  · cases h
  rename_i hb
  simp only[zrj,zAu,zA3,not_or] at hb
  have hx:0≤x.1∧x.1≤x.2.1∧x.2.1≤1114111∧0≤x.2.2∧x.2.2<n:=by omega
  have fin:zfu n (some x) l=0→∀ y∈x::l,0≤y.1∧y.1≤y.2.1∧y.2.1≤1114111∧0≤y.2.2∧y.2.2<n:=fun h y hy=>by
   rw[zAc] at hy
   rcases hy with rfl|hy
   · exact hx
   · exact(zfg h).2 y hy
  cases p with
  | none =>
   simp only at h
   exact⟨⟨hx.2.1,hx.2.2.2.1,(fun y hy=>by cases hy),(zfg h).1⟩,fin h⟩
  | some y =>
   simp only at h
   split at h
   · cases h
   · rename_i ho
     simp only[zrg,zAu,zA7,zA3,not_or,not_and] at ho
     refine⟨⟨hx.2.1,hx.2.2.2.1,fun z hz=>?_,(zfg h).1⟩,fin h⟩
     cases hz
     refine⟨by omega,fun g=>?_⟩
     exact ho.2 (by omega) g.2.symm
theorem zle:∀ {n:Int} {A:List (List Arc)},z9n n A=0→∀ l∈A,zfu n none l=0
 | n,[],_,l,hl=>by simp at hl
 | n,m::A,h,l,hl=>by
  rw[z9n] at h
  split at h
  · rename_i h1;exact absurd h h1
  · rename_i h1
    rw[zAc] at hl
    rcases hl with rfl|hl
    · exact Classical.not_not.1 h1
    · exact zle h l hl
structure y90 (a:Au):Prop where
 few:a.F.length≤256
 pos:0<a.F.length
 len:a.A.length=a.F.length
 arc:∀ l∈a.A,okA none l∧∀ x∈l,0≤x.1∧x.1≤x.2.1∧x.2.1≤1114111∧0≤x.2.2∧x.2.2<a.F.length
theorem z3r {a:Au} (h:vAu a=0):y90 a:=by
 rw[vAu] at h
 split at h
 · cases h
 split at h
 · cases h
 · exact⟨by omega,by omega,by omega,fun l hl=>zfg (zle h l hl)⟩
def zfx (c:Int):List Arc→Nat
 | []=>0
 | x::l=>if x.2.1<c then zfx c l+1 else 0
theorem zq8 (c:Int):∀ l:List Arc,zfx c l≤l.length
 | []=>zAj _
 | x::l=>by rw[zfx];split <;> simp[zq8 c l]
theorem zyo {c:Int}:∀ {l:List Arc} {p:Nat} {x:Arc},p<zfx c l→l[p]? =some x→x.2.1<c
 | [],p,x,h,_=>absurd h (Nat.not_lt_zero _)
 | y::l,p,x,h,hx=>by
  rw[zfx] at h
  split at h
  · rename_i hy
    cases p with
    | zero=>simp only[List.getElem?_cons_zero,zAh] at hx;rw[← hx];exact hy
    | succ p=>exact zyo (l:=l) (p:=p) (by omega) (by rw[List.getElem?_cons_succ] at hx;exact hx)
  · exact absurd h (Nat.not_lt_zero _)
theorem zyt {c:Int}:∀ {l:List Arc} {x:Arc},l[zfx c l]? =some x→¬ x.2.1<c
 | [],x,h=>by simp at h
 | y::l,x,h=>by
  rw[zfx] at h
  split at h
  · rw[List.getElem?_cons_succ] at h;exact zyt h
  · rename_i hy
    simp only[List.getElem?_cons_zero,zAh] at h;rw[← h];exact hy
theorem zmn:∀ {l:List Arc} {p:Option Arc},okA p l→∀ (i j:Nat) (x y:Arc),i≤j→l[i]? =some x→l[j]? =some y→x.2.1≤y.2.1
 | [],_,_,i,j,x,y,_,h,_=>by simp at h
 | z::l,p,h,i,j,x,y,hij,hx,hy=>by
  have low:∀ (l:List Arc) (z:Arc),okA (some z) l→∀ (j:Nat) (y:Arc),l[j]? =some y→z.2.1≤y.2.1:=fun l=>by
   induction l with
   | nil=>intro z _ j y h;simp at h
   | cons w l ih =>
    intro z h j y hy
    have h1:=(h.2.2.1 z rfl).1
    have h2:=h.1
    cases j with
    | zero=>simp only[List.getElem?_cons_zero,zAh] at hy;rw[← hy];omega
    | succ j=>rw[List.getElem?_cons_succ] at hy;have:=ih w h.2.2.2 j y hy;omega
  cases i with
  | zero =>
   simp only[List.getElem?_cons_zero,zAh] at hx
   subst hx
   cases j with
   | zero=>simp only[List.getElem?_cons_zero,zAh] at hy;rw[hy];exact Int.le_refl _
   | succ j=>rw[List.getElem?_cons_succ] at hy;exact low l _ h.2.2.2 j y hy
  | succ i =>
   obtain⟨j,rfl⟩:∃ j',j=j'+1:=⟨j-1,by omega⟩
   rw[List.getElem?_cons_succ] at hx hy
   exact zmn h.2.2.2 i j x y (by omega) hx hy
theorem y4z {c:Int} {l:List Arc} {i:Nat} (hi:i≤l.length) (h1:∀ p x,p<i→l[p]? =some x→x.2.1<c) (h2:∀ x,l[i]? =some x→¬ x.2.1<c):i=zfx c l:=by
 have hl:=zq8 c l
 rcases Nat.lt_trichotomy i (zfx c l) with h|h|h
 · obtain⟨x,hx⟩:∃ x,l[i]? =some x:=⟨_,zA0 (by omega)⟩
   exact absurd (zyo h hx) (h2 x hx)
 · exact h
 · obtain⟨x,hx⟩:∃ x,l[zfx c l]? =some x:=⟨_,zA0 (by omega)⟩
   exact absurd (h1 _ x h hx) (zyt hx)
theorem zp6 {c:Int}:∀ {l:List Arc} {p:Option Arc},okA p l→nxt l c=match l[zfx c l]? with|none=> -1|some x=>if c<x.1 then -1 else x.2.2
 | [],_,_=>rfl
 | x::l,p,h=>by
  rw[zfx,nxt]
  by_cases hx:x.2.1<c
  · rw[zAz hx,zAy (by omega),List.getElem?_cons_succ]
    exact zp6 h.2.2.2
  · rw[zAy hx,List.getElem?_cons_zero]
    simp only
    by_cases hc:c<x.1
    · rw[zAy (by omega),zAz hc,za5 h.2.2.2 c (by omega)]
    · rw[zAz (by omega),zAy hc]
def clA (cl:List Int) (q:Int):Int:=if q<0 then -1 else cl.getD q.toNat 0
def za0 (cl:List Int) (out:List Arc) (x:Arc):List Arc:=if clA cl x.2.2<0 then out else ext out x.1 x.2.1 (clA cl x.2.2)
def byC (cl:List Int) (l:List Arc):List Arc:=l.foldl (za0 cl) []
theorem z8n (l:List Arc) (f t q:Int):(ext l f t q).length≤l.length+1:=by
 rcases zft l with rfl|⟨m,y,rfl⟩
 · simp[ext_nil]
 · rw[z2x];split <;> simp
theorem ext_mem {l:List Arc} {f t q:Int} {y:Arc} (h:y∈ext l f t q):y.2.1=t∨y∈l:=by
 rcases zft l with rfl|⟨m,z,rfl⟩
 · rw[ext_nil,zAq] at h;exact .inl (by rw[h])
 · rw[z2x] at h
   split at h
   · rw[zAt,zAq] at h
     rcases h with h|h
     · exact .inr (List.mem_append_left _ h)
     · exact .inl (by rw[h])
   · rw[zAt,zAq] at h
     rcases h with h|h
     · exact .inr h
     · exact .inl (by rw[h])
end Go.Ax
namespace Go.Ax
def ztd (i:Nat) (xss:List (List Int)) (x:Arc):List (List Int):=xss.set x.2.2.toNat (xss.getD x.2.2.toNat []++[(i:Int)])
def zxr:Nat→List (List Arc)→List (List Int)→List (List Int)
 | _,[],xss=>xss
 | i,l::A,xss=>zxr (i+1) A (l.foldl (ztd i) xss)
theorem zlp (i:Nat) (xss:List (List Int)) (x:Arc):(ztd i xss x).length=xss.length:=by simp[ztd]
theorem zkj (i:Nat):∀ (l:List Arc) (xss:List (List Int)),(l.foldl (ztd i) xss).length=xss.length
 | [],_=>rfl
 | x::l,xss=>by rw[List.foldl_cons,zkj i l,zlp]
theorem zvq {i:Nat} {xss:List (List Int)} {x:Arc} {s:Nat} (hx:x.2.2.toNat<xss.length) (p:Int):p∈(ztd i xss x).getD s []↔p∈xss.getD s []∨(x.2.2.toNat=s∧p=i):=by
 rw[ztd,List.getD,List.getD]
 by_cases h:x.2.2.toNat=s
 · subst h
   rw[zAp hx]
   simp[List.getD]
 · rw[List.getElem?_set_ne h]
   simp[h]
theorem zko {i s:Nat} {p:Int}:∀ {l:List Arc} {xss:List (List Int)},(∀ x∈l,x.2.2.toNat<xss.length)→(p∈(l.foldl (ztd i) xss).getD s []↔p∈xss.getD s []∨(∃ x∈l,x.2.2.toNat=s)∧p=i)
 | [],xss,_=>by simp
 | x::l,xss,h=>by
  rw[List.foldl_cons,zko (fun y hy=>by rw[zlp];exact h y (by simp[hy])),zvq (h x (by simp))]
  constructor
  · rintro((h1|⟨h1,h2⟩)|⟨⟨y,hy,h1⟩,h2⟩)
    · exact .inl h1
    · exact .inr ⟨⟨x,by simp,h1⟩,h2⟩
    · exact .inr ⟨⟨y,by simp[hy],h1⟩,h2⟩
  · rintro(h1|⟨⟨y,hy,h1⟩,h2⟩)
    · exact .inl (.inl h1)
    · rw[zAc] at hy
      rcases hy with rfl|hy
      · exact .inl (.inr ⟨h1,h2⟩)
      · exact .inr ⟨⟨y,hy,h1⟩,h2⟩
theorem zkk {s:Nat} {p:Int}:∀ {A:List (List Arc)} {i:Nat} {xss:List (List Int)},(∀ l∈A,∀ x∈l,x.2.2.toNat<xss.length)→(p∈(zxr i A xss).getD s []↔p∈xss.getD s []∨∃ k l x,A[k]? =some l∧x∈l∧x.2.2.toNat=s∧p=((i+k:Nat):Int))
 | [],i,xss,_=>by simp[zxr]
 | l::A,i,xss,h=>by
  rw[zxr,zkk (fun m hm x hx=>by rw[zkj];exact h m (by simp[hm]) x hx),zko (h l (by simp))]
  constructor
  · rintro((h1|⟨⟨x,hx,h1⟩,h2⟩)|⟨k,m,x,h1,h2,h3,h4⟩)
    · exact .inl h1
    · exact .inr ⟨0,l,x,rfl,hx,h1,by simpa using h2⟩
    · exact .inr ⟨k+1,m,x,by simpa using h1,h2,h3,by rw[h4,show i+1+k=i+(k+1) by omega]⟩
  · rintro(h1|⟨k,m,x,h1,h2,h3,h4⟩)
    · exact .inl (.inl h1)
    · cases k with
      | zero =>
       simp at h1;subst h1
       exact .inl (.inr ⟨⟨x,h2,h3⟩,by simpa using h4⟩)
      | succ k=>exact .inr ⟨k,m,x,by simpa using h1,h2,h3,by rw[h4,show i+1+k=i+(k+1) by omega]⟩
inductive z5l (F:List Bool) (A:List (List Arc)):Nat→Prop
 | fin (q:Nat) (h:F[q]? =some true):z5l F A q
 | arc (q:Nat) (l:List Arc) (x:Arc) (h:A[q]? =some l) (hx:x∈l) (h2:z5l F A x.2.2.toNat):z5l F A q
end Go.Ax
namespace Go.Ax
theorem count_set {l:List Bool} {i:Nat} (h:l[i]? =some false):(l.set i true).count false+1=l.count false:=by
 induction l generalizing i with
 | nil=>simp at h
 | cons x l ih =>
  cases i with
  | zero=>simp at h;subst h;simp
  | succ i =>
   have:=ih (i:=i) (by simpa using h)
   simp only[List.set_cons_succ,List.count_cons];omega
structure Reach (F:List Bool) (A:List (List Arc)) (X:List (List Int)) (out:List Bool) (stk:List Int) (skip:Nat→Prop):Prop where
 len:out.length=F.length
 onS:∀ z∈stk,∃ s:Nat,z=(s:Int)∧out[s]? =some true
 sound:∀ s:Nat,out[s]? =some true→z5l F A s
 fin:∀ s:Nat,F[s]? =some true→out[s]? =some true
 clos:∀ s:Nat,out[s]? =some true→(s:Int)∈stk∨skip s∨∀ p∈X.getD s [],out[p.toNat]? =some true
 few:stk.length+out.count false≤F.length
theorem Reach.done {F:List Bool} {A:List (List Arc)} {X:List (List Int)} {out:List Bool} (h:Reach F A X out [] fun _=>False)
 (hX:∀ (s:Nat) (p:Int),p∈X.getD s []↔∃ (k:Nat) (l:List Arc) (x:Arc),A[k]? =some l∧x∈l∧x.2.2.toNat=s∧p=k) (q:Nat):out[q]? =some true↔z5l F A q:=by
 refine⟨h.sound q,fun hq=>?_⟩
 induction hq with
 | fin q h1=>exact h.fin q h1
 | arc q l x h1 h2 h3 ih =>
  rcases h.clos _ ih with h4|h4|h4
  · simp at h4
  · exact h4.elim
  · have:=h4 (q:Int) ((hX _ _).2 ⟨q,l,x,h1,h2,rfl,rfl⟩)
    rwa [zA9] at this
theorem Reach.push {F:List Bool} {A:List (List Arc)} {X:List (List Int)} {out:List Bool} {stk:List Int} {skip:Nat→Prop} (h:Reach F A X out stk skip) {p:Nat} (hp:out[p]? =some false) (hl:z5l F A p):Reach F A X (out.set p true) (stk++[(p:Int)]) skip:=by
 have hpl:=(zA1.1 hp).1
 have hc:=count_set hp
 have up:∀ s:Nat,out[s]? =some true→(out.set p true)[s]? =some true:=fun s hs=>by
  by_cases e:p=s
  · subst e;exact zAp hpl
  · rw[List.getElem?_set_ne e];exact hs
 have down:∀ s:Nat,(out.set p true)[s]? =some true→s=p∨out[s]? =some true:=fun s hs=>by
  by_cases e:p=s
  · exact .inl e.symm
  · rw[List.getElem?_set_ne e] at hs;exact .inr hs
 refine⟨by rw[List.length_set];exact h.len,fun z hz=>?_,fun s hs=>?_,fun s hs=>up s (h.fin s hs),fun s hs=>?_,?_⟩
 · rw[zAt,zAq] at hz
   rcases hz with hz|rfl
   · obtain⟨s,h1,h2⟩:=h.onS z hz;exact⟨s,h1,up s h2⟩
   · exact⟨p,rfl,zAp hpl⟩
 · rcases down s hs with rfl|hs
   · exact hl
   · exact h.sound s hs
 · rcases down s hs with rfl|hs
   · exact .inl (by simp)
   · rcases h.clos s hs with h1|h1|h1
     · exact .inl (by simp[h1])
     · exact .inr (.inl h1)
     · exact .inr (.inr fun q hq=>up _ (h1 q hq))
 · rw[zAa,zAn]
   have:=h.few;omega
theorem Reach.pop {F:List Bool} {A:List (List Arc)} {X:List (List Int)} {out:List Bool} {stk:List Int} {s0:Nat} (h:Reach F A X out (stk++[(s0:Int)]) fun _=>False):Reach F A X out stk fun s=>s=s0:=by
 refine⟨h.len,fun z hz=>h.onS z (by simp[hz]),h.sound,h.fin,fun s hs=>?_,?_⟩
 · rcases h.clos s hs with h1|h1|h1
   · rw[zAt,zAq] at h1
     rcases h1 with h1|h1
     · exact .inl h1
     · exact .inr (.inl (by omega))
   · exact h1.elim
   · exact .inr (.inr h1)
 · have:=h.few;rw[zAa,zAn] at this;omega
theorem Reach.shut {F:List Bool} {A:List (List Arc)} {X:List (List Int)} {out:List Bool} {stk:List Int} {s0:Nat} (h:Reach F A X out stk fun s=>s=s0) (hc:∀ p∈X.getD s0 [],out[p.toNat]? =some true):Reach F A X out stk fun _=>False :=
 ⟨h.len,h.onS,h.sound,h.fin,fun s hs=>by
   rcases h.clos s hs with h1|rfl|h1
   · exact .inl h1
   · exact .inr (.inr hc)
   · exact .inr (.inr h1),h.few⟩
noncomputable def z3l (F:List Bool) (A:List (List Arc)):List Bool:=(List.range F.length).map fun q=>@decide (z5l F A q) (Classical.propDecidable _)
theorem zvu {F:List Bool} {A:List (List Arc)} {out:List Bool} (hl:out.length=F.length) (h:∀ q:Nat,out[q]? =some true↔z5l F A q):out=z3l F A:=by
 refine List.ext_getElem (by simp[z3l,hl]) fun i h1 h2=>?_
 simp only[z3l,List.getElem_map,List.getElem_range]
 have:=h i
 rw[zA0 h1] at this
 by_cases hq:z5l F A i
 · simp only[hq,iff_true,zAh] at this
   rw[this];simp[hq]
 · simp only[hq,iff_false,zAh] at this
   cases ho:out[i] with
   | true=>exact absurd ho this
   | false=>simp[hq]
end Go.Ax
namespace Go.Ax
theorem zq4 {cl:List Int} (hc:∀ q,-1≤clA cl q):∀ {l:List Arc} {p:Option Arc} {out:List Arc},okA p l→okA none out→(∀ y z,z7g none out=some y→l.head? =some z→y.2.1<z.1) →
 okA none (l.foldl (za0 cl) out)∧∀ c,nxt (l.foldl (za0 cl) out) c=if nxt l c=-1 then nxt out c else if nxt out c=-1 then clA cl (nxt l c) else nxt (l.foldl (za0 cl) out) c
 | [],p,out,_,h2,_=>⟨h2,fun c=>by simp[nxt]⟩
 | x::l,p,out,h1,h2,h3=>by
  have hx:=h1.2.2.2
  have hlow:∀ c,c≤x.2.1→nxt l c=-1:=fun c hc=>za5 hx c hc
  rw[List.foldl_cons]
  have hnext:∀ z,l.head? =some z→x.2.1<z.1:=fun z hz=>by
   cases l with
   | nil=>simp at hz
   | cons w l=>simp at hz;subst hz;exact(hx.2.2.1 x rfl).1
  rw[za0]
  by_cases hneg:clA cl x.2.2<0
  · rw[zAz hneg]
    obtain⟨i1,i2⟩:=zq4 hc (out:=out) hx h2 (fun y z hy hz=>by
     have:=h3 y x hy rfl
     have:=hnext z hz
     have:=h1.1
     omega)
    refine⟨i1,fun c=>?_⟩
    rw[i2 c,nxt]
    by_cases hcx:x.1≤c∧c≤x.2.1
    · rw[zAz hcx,zAz (hlow c hcx.2),zAy (by have:=h1.2.1;omega)]
      have:=hc x.2.2
      by_cases h0:nxt out c=-1
      · rw[zAz h0,h0];omega
      · rw[zAy h0]
    · rw[zAy hcx]
      by_cases g1:nxt l c=-1
      · rw[zAz g1,zAz g1]
      · rw[zAy g1,zAy g1]
        by_cases g2:nxt out c=-1 <;> simp[g2]
  · rw[zAy hneg]
    obtain⟨e1,e2,e3,e4⟩:=zx1 (q:=clA cl x.2.2) h2 h1.1 (by omega) (fun y hy=>h3 y x hy rfl)
    obtain⟨i1,i2⟩:=zq4 hc (out:=ext out x.1 x.2.1 (clA cl x.2.2)) hx e1 (fun y z hy hz=>by rw[e3 y hy];exact hnext z hz)
    refine⟨i1,fun c=>?_⟩
    by_cases hcx:x.1≤c∧c≤x.2.1
    · rw[i2 c,zAz (hlow c hcx.2),e4 c,zAz hcx,nxt,zAz hcx,zAy (by have:=h1.2.1;omega)]
      have hout:nxt out c=-1:=by
       rcases zft out with rfl|⟨m,y,rfl⟩
       · rfl
       · exact zld h2 (z1r _ _ _) (fun _ _=>.inr (.inr trivial)) c (by have:=h3 y x (z1r _ _ _) rfl;omega)
      rw[zAz hout]
    · have e5:=e4 c
      rw[zAy hcx] at e5
      have e6:=i2 c
      rw[e5] at e6
      rw[nxt,zAy hcx]
      exact e6
theorem zap {cl:List Int} (hc:∀ q,-1≤clA cl q) {l:List Arc} (h:okA none l):okA none (byC cl l)∧∀ c,nxt (byC cl l) c=clA cl (nxt l c):=by
 obtain⟨h1,h2⟩:=zq4 hc (out:=[]) h trivial (fun y z hy=>by simp[z7g] at hy)
 refine⟨h1,fun c=>?_⟩
 have:=h2 c
 rw[byC,this]
 simp only[nxt,if_true]
 split
 · rename_i g;rw[g,clA,zAz (by decide)]
 · rfl
def toB (xs:List Int):ByteArray:=⟨(xs.map fun n=>UInt8.ofNat n.toNat).toArray⟩
def z5m (n:Int):List Int:=[n / 16777216 % 256,n / 65536 % 256,n / 256 % 256,n % 256]
def zyw (cl:List Int) (k:Int) (l:List Arc):List Int:=z5m k++(byC cl l).flatMap fun x=>z5m x.1++z5m x.2.1++z5m x.2.2
def isB (b:List Int):Prop:=∀ c∈b,0≤c∧c<256
theorem y1v:∀ {a b:List Int},isB a→isB b→toB a=toB b→a=b:=by
 intro a b ha hb h
 have h1:=congrArg (fun t:ByteArray=>t.data.toList) h
 simp only[toB] at h1
 induction a generalizing b with
 | nil=>cases b with|nil=>rfl|cons y b=>simp at h1
 | cons x a ih =>
  cases b with
  | nil=>simp at h1
  | cons y b =>
   simp only[List.map_cons,List.cons.injEq] at h1
   obtain⟨e1,e2⟩:=h1
   have hx:=ha x (by simp)
   have hy:=hb y (by simp)
   have e3:=congrArg UInt8.toNat e1
   simp only[UInt8.toNat_ofNat'] at e3
   have:x=y:=by omega
   rw[this,ih (fun c hc=>ha c (by simp[hc])) (fun c hc=>hb c (by simp[hc])) (by
    have:(a.map fun n=>UInt8.ofNat n.toNat)=b.map fun n=>UInt8.ofNat n.toNat:=e2
    simp only[toB,this]) e2]
theorem zbp (n:Int):isB (z5m n):=fun c hc=>by
 simp only[z5m,zAc,List.not_mem_nil,or_false] at hc
 omega
theorem zim {a b:List Int} (ha:isB a) (hb:isB b):isB (a++b):=fun c hc=>by
 rw[zAt] at hc
 exact hc.elim (ha c) (hb c)
theorem zkc (cl:List Int) (k:Int) (l:List Arc):isB (zyw cl k l):=by
 refine zim (zbp k) fun c hc=>?_
 rw[List.mem_flatMap] at hc
 obtain⟨x,_,hx⟩:=hc
 exact zim (zim (zbp _) (zbp _)) (zbp _) c hx
theorem zbh {a b:Int} (ha:0≤a∧a<4294967296) (hb:0≤b∧b<4294967296) {x y:List Int} (h:z5m a++x=z5m b++y):a=b∧x=y:=by
 simp only[z5m,List.cons_append,List.nil_append,List.cons.injEq] at h
 obtain⟨h1,h2,h3,h4,h5⟩:=h
 exact⟨by omega,h5⟩
def zar (l:List Arc):Prop:=∀ x∈l,(0≤x.1∧x.1<4294967296)∧(0≤x.2.1∧x.2.1<4294967296)∧(0≤x.2.2∧x.2.2<4294967296)
theorem zl7:∀ {l m:List Arc},zar l→zar m→(l.flatMap fun x=>z5m x.1++z5m x.2.1++z5m x.2.2)=(m.flatMap fun x=>z5m x.1++z5m x.2.1++z5m x.2.2)→l=m
 | [],[],_,_,_=>rfl
 | [],y::m,_,_,h=>by simp[z5m] at h
 | x::l,[],_,_,h=>by simp[z5m] at h
 | x::l,y::m,hl,hm,h=>by
  rw[List.flatMap_cons,List.flatMap_cons,zAl,zAl,zAl,zAl] at h
  obtain⟨x1,x2,x3⟩:=hl x (by simp)
  obtain⟨y1,y2,y3⟩:=hm y (by simp)
  obtain⟨e1,h⟩:=zbh x1 y1 h
  obtain⟨e2,h⟩:=zbh x2 y2 h
  obtain⟨e3,h⟩:=zbh x3 y3 h
  rw[zl7 (fun z hz=>hl z (by simp[hz])) (fun z hz=>hm z (by simp[hz])) h]
  congr 1
  obtain⟨a,b,c⟩:=x;obtain⟨a',b',c'⟩:=y
  simp only at e1 e2 e3;rw[e1,e2,e3]
theorem zj8 {cl:List Int} {k k':Int} {l m:List Arc} (hk:0≤k∧k<4294967296) (hk':0≤k'∧k'<4294967296) (hl:zar (byC cl l)) (hm:zar (byC cl m)) (h:toB (zyw cl k l)=toB (zyw cl k' m)):k=k'∧byC cl l=byC cl m:=by
 have:=y1v (zkc _ _ _) (zkc _ _ _) h
 obtain⟨e1,e2⟩:=zbh hk hk' this
 exact⟨e1,zl7 hl hm e2⟩
def sgA (A:List (List Arc)) (cl:List Int) (q:Nat):ByteArray:=toB (zyw cl (cl.getD q 0) (A.getD q []))
def z9p (A:List (List Arc)) (cl:List Int) (s:List ByteArray × List Int) (q:Nat):List ByteArray × List Int :=
 if cl.getD q 0<0 then (s.1,s.2++[-1]) else (z5b s.1 (sgA A cl q),s.2++[((z2r (sgA A cl q) s.1:Nat):Int)])
def rnd (A:List (List Arc)) (cl:List Int):List ByteArray × List Int:=(List.range cl.length).foldl (z9p A cl) ([],[])
def zj0 (A:List (List Arc)) (lim:Nat):Nat→Nat→List Int→Option (List Int)
 | 0,_,_=>none
 | f+1,c,cl=>if lim<(rnd A cl).1.length then none else if (rnd A cl).1.length=c then some (rnd A cl).2 else zj0 A lim f (rnd A cl).1.length (rnd A cl).2
structure RnS (A:List (List Arc)) (cl:List Int) (q:Nat) (s:List ByteArray × List Int):Prop where
 len:s.2.length=q
 nod:s.1.Nodup
 few:s.1.length≤q
 at_:∀ p,p<q→(cl.getD p 0<0→s.2[p]? =some (-1))∧(0≤cl.getD p 0→sgA A cl p∈s.1∧s.2[p]? =some ((z2r (sgA A cl p) s.1:Nat):Int))
 src:∀ g∈s.1,∃ p,p<q∧0≤cl.getD p 0∧sgA A cl p=g
theorem RnS.step {A:List (List Arc)} {cl:List Int} {q:Nat} {s:List ByteArray × List Int} (h:RnS A cl q s):RnS A cl (q+1) (z9p A cl s q):=by
 rw[z9p]
 by_cases hn:cl.getD q 0<0
 · rw[zAz hn]
   refine⟨by simp[h.len],h.nod,by have:=h.few;simp only;omega,fun p hp=>?_,fun g hg=>?_⟩
   · by_cases hpq:p<q
     · obtain⟨h1,h2⟩:=h.at_ p hpq
       rw[zAb (by rw[h.len];exact hpq)]
       exact⟨h1,h2⟩
     · obtain rfl:p=q:=by omega
       refine⟨fun _=>?_,fun g=>by omega⟩
       simp only
       rw[zAg (by rw[h.len];omega),h.len,Nat.sub_self];rfl
   · obtain⟨p,p1,p2⟩:=h.src g hg;exact⟨p,by omega,p2⟩
 · rw[zAy hn]
   obtain⟨r,hr⟩:=z6b s.1 (sgA A cl q)
   refine⟨by simp[h.len],za9 h.nod,?_,fun p hp=>?_,fun g hg=>?_⟩
   · have:=h.few;simp only[z5b];split <;> simp <;> omega
   · by_cases hpq:p<q
     · obtain⟨h1,h2⟩:=h.at_ p hpq
       rw[zAb (by rw[h.len];exact hpq)]
       refine⟨h1,fun g=>?_⟩
       obtain⟨h3,h4⟩:=h2 g
       simp only
       rw[hr]
       exact⟨List.mem_append_left _ h3,by rw[zbr h3];exact h4⟩
     · obtain rfl:p=q:=by omega
       refine⟨fun g=>absurd g hn,fun _=>⟨z8y _ _,?_⟩⟩
       simp only
       rw[zAg (by rw[h.len];omega),h.len,Nat.sub_self,zfp];rfl
   · simp only[z5b] at hg
     split at hg
     · obtain⟨p,p1,p2⟩:=h.src g hg;exact⟨p,by omega,p2⟩
     · rw[zAt,zAq] at hg
       rcases hg with hg|rfl
       · obtain⟨p,p1,p2⟩:=h.src g hg;exact⟨p,by omega,p2⟩
       · exact⟨q,by omega,by omega,rfl⟩
theorem rnS (A:List (List Arc)) (cl:List Int):∀ q,RnS A cl q ((List.range q).foldl (z9p A cl) ([],[]))
 | 0=>⟨rfl,by simp,by simp,fun p hp=>absurd hp (Nat.not_lt_zero _),by simp⟩
 | q+1=>by rw[List.range_succ,List.foldl_append,List.foldl_cons,List.foldl_nil];exact(rnS A cl q).step
theorem y2p (A:List (List Arc)) (cl:List Int):RnS A cl cl.length (rnd A cl):=rnS A cl _
def Full (c:Nat) (cl:List Int):Prop:=∀ k:Nat,k<c→∃ q,q<cl.length∧cl.getD q 0=(k:Int)
theorem z1n {l:List Int} {i:Nat} {x:Int} (h:l[i]? =some x):l.getD i 0=x:=by rw[List.getD,h];rfl
theorem zwd (A:List (List Arc)) (cl:List Int):Full (rnd A cl).1.length (rnd A cl).2:=fun k hk=>by
 have hR:=y2p A cl
 obtain⟨g,hg⟩:∃ g,(rnd A cl).1[k]? =some g:=⟨_,zA0 hk⟩
 obtain⟨p,p1,p2,p3⟩:=hR.src g (zA2 hg)
 obtain⟨h1,h2⟩:=(hR.at_ p p1).2 p2
 refine⟨p,by rw[hR.len];exact p1,?_⟩
 rw[z1n h2,p3]
 have hm:=zA2 hg
 obtain⟨i1,i2⟩:=z2o hm
 have:z2r g (rnd A cl).1=k:=by
  obtain⟨a1,a2⟩:=zA1.1 i2
  obtain⟨b1,b2⟩:=zA1.1 hg
  exact(List.getElem_inj (h₀:=a1) (h₁:=b1) hR.nod).1 (a2.trans b2.symm)
 rw[this]
theorem z5u {α:Type} [DecidableEq α]:∀ {l m:List α},l.Nodup→(∀ x∈l,x∈m)→l.length≤m.length
 | [],m,_,_=>zAf _
 | x::l,m,h,hs=>by
  have h1:=List.nodup_cons.1 h
  have hx:=hs x (by simp)
  have:=z5u (l:=l) (m:=m.erase x) h1.2 fun y hy=>by
   rw[List.mem_erase_of_ne (fun e:y=x=>h1.1 (by rw[← e];exact hy))]
   exact hs y (by simp[hy])
  have h3:=List.length_erase_of_mem hx
  have h4:=List.length_pos_of_mem hx
  rw[zAk];omega
theorem zlv {A:List (List Arc)} {cl:List Int} {c:Nat} (hF:Full c cl) (hs:∀ q,q<cl.length→cl.getD q 0<4294967296) (hsm:∀ q,q<cl.length→zar (byC cl (A.getD q []))):c≤(rnd A cl).1.length ∧
 (c=(rnd A cl).1.length→∀ p r,p<cl.length→r<cl.length→0≤cl.getD p 0→cl.getD p 0<c→cl.getD p 0=cl.getD r 0→sgA A cl p=sgA A cl r):=by
 have hR:=y2p A cl
 -- a signature for each class
 have hw:∀ k:Nat,∃ q,k<c→q<cl.length∧cl.getD q 0=(k:Int):=fun k=>by
  by_cases hk:k<c
  · obtain⟨q,h1,h2⟩:=hF k hk;exact⟨q,fun _=>⟨h1,h2⟩⟩
  · exact⟨0,fun h=>absurd h hk⟩
 obtain⟨f,hf⟩:∃ f:Nat→Nat,∀ k,k<c→f k<cl.length∧cl.getD (f k) 0=(k:Int):=⟨fun k=>Classical.choose (hw k),fun k=>Classical.choose_spec (hw k)⟩
 have hinj:∀ p r,p<cl.length→r<cl.length→0≤cl.getD p 0→0≤cl.getD r 0→sgA A cl p=sgA A cl r→cl.getD p 0=cl.getD r 0:=fun p r hp hr h1 h2 h=>(zj8 ⟨h1,hs p hp⟩ ⟨h2,hs r hr⟩ (hsm p hp) (hsm r hr) h).1
 let L:=(List.range c).map fun k=>sgA A cl (f k)
 have hLn:L.Nodup:=by
  show List.Pairwise (· ≠·) _
  rw[List.pairwise_map]
  refine List.Pairwise.imp_of_mem ?_ (List.nodup_range (n:=c))
  intro a b ha hb hab e
  rw[List.mem_range] at ha hb
  obtain⟨a1,a2⟩:=hf a ha
  obtain⟨b1,b2⟩:=hf b hb
  have:=hinj _ _ a1 b1 (by omega) (by omega) e
  omega
 have hLs:∀ x∈L,x∈(rnd A cl).1:=fun x hx=>by
  simp only[L,List.mem_map,List.mem_range] at hx
  obtain⟨k,hk,rfl⟩:=hx
  obtain⟨k1,k2⟩:=hf k hk
  exact((hR.at_ (f k) k1).2 (by omega)).1
 have hLl:L.length=c:=by simp[L]
 refine⟨by have:=z5u hLn hLs;omega,fun hc p r hp hr h0 h1 hpr=>?_⟩
 -- then the signatures of the choice are all
 have hall:∀ x∈(rnd A cl).1,x∈L:=fun x hx=>by
  false_or_by_contra
  rename_i hn
  have:=z5u (l:=x::L) (m:=(rnd A cl).1) (List.nodup_cons.2 ⟨hn,hLn⟩) (fun y hy=>by
   rw[zAc] at hy
   rcases hy with rfl|hy
   · exact hx
   · exact hLs y hy)
  rw[zAk] at this;omega
 have one:∀ q,q<cl.length→0≤cl.getD q 0→sgA A cl q=sgA A cl (f (cl.getD q 0).toNat):=fun q hq h0=>by
  have:=hall _ ((hR.at_ q hq).2 h0).1
  simp only[L,List.mem_map,List.mem_range] at this
  obtain⟨k,hk,he⟩:=this
  obtain⟨k1,k2⟩:=hf k hk
  have e:=hinj _ _ k1 hq (by omega) h0 he
  rw[k2] at e
  rw[← e,zA9,he]
 rw[one p hp h0,one r hr (by omega),hpr]
end Go.Ax
namespace Go.Ax
theorem ztt {l:List Arc} {f t q:Int} {y:Arc} (h:y∈ext l f t q):y∈l∨(y.2.1=t∧y.2.2=q∧(y.1=f∨∃ z∈l,y.1=z.1)):=by
 rcases zft l with rfl|⟨m,z,rfl⟩
 · rw[ext_nil,zAq] at h;subst h;exact .inr ⟨rfl,rfl,.inl rfl⟩
 · rw[z2x] at h
   split at h
   · rw[zAt,zAq] at h
     rcases h with h|h
     · exact .inl (List.mem_append_left _ h)
     · subst h;exact .inr ⟨rfl,rfl,.inr ⟨z,by simp,rfl⟩⟩
   · rw[zAt,zAq] at h
     rcases h with h|h
     · exact .inl h
     · subst h;exact .inr ⟨rfl,rfl,.inl rfl⟩
theorem zse {cl:List Int} {B:Int} (hc:∀ q,clA cl q≤B):∀ {l out:List Arc},(∀ x∈l,0≤x.1∧x.1≤x.2.1∧x.2.1≤1114111)→(∀ y∈out,0≤y.1∧y.1≤1114111∧0≤y.2.1∧y.2.1≤1114111∧0≤y.2.2∧y.2.2≤B)→∀ y∈l.foldl (za0 cl) out,0≤y.1∧y.1≤1114111∧0≤y.2.1∧y.2.1≤1114111∧0≤y.2.2∧y.2.2≤B
 | [],out,_,h2=>h2
 | x::l,out,h1,h2=>by
  rw[List.foldl_cons]
  refine zse hc (fun z hz=>h1 z (by simp[hz])) fun y hy=>?_
  rw[za0] at hy
  split at hy
  · exact h2 y hy
  · rename_i hn
    obtain⟨x1,x2,x3⟩:=h1 x (by simp)
    rcases ztt hy with h|⟨e1,e2,e3⟩
    · exact h2 y h
    · have:=hc x.2.2
      rcases e3 with e3|⟨z,hz,e3⟩
      · omega
      · have:=h2 z hz;omega
theorem zfl {cl:List Int} {B:Int} (hc:∀ q,clA cl q≤B) {l:List Arc} (h1:∀ x∈l,0≤x.1∧x.1≤x.2.1∧x.2.1≤1114111):∀ y∈byC cl l,0≤y.1∧y.1≤1114111∧0≤y.2.1∧y.2.1≤1114111∧0≤y.2.2∧y.2.2≤B:=zse hc h1 (by simp)
theorem zso {cl:List Int}:∀ {l out:List Arc},(l.foldl (za0 cl) out).length≤out.length+l.length
 | [],out=>by simp
 | x::l,out=>by
  rw[List.foldl_cons]
  have:=zso (cl:=cl) (l:=l) (out:=za0 cl out x)
  have h2:(za0 cl out x).length≤out.length+1:=by
   rw[za0];split
   · omega
   · exact z8n _ _ _ _
  simp only[zAk];omega
theorem zpo {cl:List Int} {l:List Arc}:(byC cl l).length≤l.length:=by have:=zso (cl:=cl) (l:=l) (out:=[]);simpa[byC] using this
structure ClW (n c:Nat) (cl:List Int):Prop where
 len:cl.length=n
 full:Full c cl
 rng:∀ x∈cl,-1≤x∧x≤4000000
 few:c≤n
theorem za8 {cl:List Int} (h:∀ x∈cl,-1≤x∧x≤4000000) (q:Int):-1≤clA cl q∧clA cl q≤4000000:=by
 rw[clA]
 split
 · omega
 · cases hq:cl[q.toNat]? with
   | none=>rw[List.getD,hq];simp
   | some x=>rw[z1n hq];exact h x (zA2 hq)
theorem z4i {cl:List Int} (h:∀ x∈cl,-1≤x∧x≤4000000) (q:Nat):-1≤cl.getD q 0∧cl.getD q 0≤4000000:=by
 cases hq:cl[q]? with
 | none=>rw[List.getD,hq];simp
 | some x=>rw[z1n hq];exact h x (zA2 hq)
theorem z92 {cl:List Int} (h:∀ x∈cl,-1≤x∧x≤4000000) {l:List Arc} (h1:∀ x∈l,0≤x.1∧x.1≤x.2.1∧x.2.1≤1114111):zar (byC cl l):=fun y hy=>by
 have:=zfl (B:=4000000) (fun q=>(za8 h q).2) h1 y hy
 omega
theorem zov {A:List (List Arc)} {cl:List Int} {n c:Nat} (hn:n≤4000000) (h:ClW n c cl) (hA:∀ l∈A,∀ x∈l,0≤x.1∧x.1≤x.2.1∧x.2.1≤1114111):c≤(rnd A cl).1.length∧ClW n (rnd A cl).1.length (rnd A cl).2:=by
 have hR:=y2p A cl
 have hfew:=hR.few
 have hl:=hR.len
 have hcl:=h.len
 refine⟨(zlv h.full (fun q _=>by have:=z4i h.rng q;omega) (fun q _=>z92 h.rng ?_)).1,by omega,zwd A cl,fun x hx=>?_,by omega⟩
 · cases hq:A[q]? with
   | none=>rw[List.getD,hq];simp
   | some l=>rw[List.getD,hq];exact hA l (zA2 hq)
 · obtain⟨p,hp⟩:=List.mem_iff_getElem?.1 hx
   have hpl:p<cl.length:=by have:=(zA1.1 hp).1;omega
   obtain⟨h1,h2⟩:=hR.at_ p hpl
   by_cases hn0:cl.getD p 0<0
   · rw[h1 hn0] at hp;cases hp;omega
   · obtain⟨h3,h4⟩:=h2 (by omega)
     rw[h4] at hp;cases hp
     have:=(z2o h3).1
     omega
noncomputable def cl0 (F:List Bool) (A:List (List Arc)):List Int:=(List.range F.length).map fun q=>if (z3l F A).getD q false=true then (if F.getD q false=true then 1 else 0) else -1
theorem zri (F:List Bool) (A:List (List Arc)):ClW F.length 0 (cl0 F A) :=
 ⟨by simp[cl0],fun k hk=>absurd hk (Nat.not_lt_zero _),fun x hx=>by
   simp only[cl0,List.mem_map] at hx
   obtain⟨q,_,rfl⟩:=hx
   split
   · split <;> omega
   · omega,zAf _⟩
noncomputable def zx8 (F:List Bool) (A:List (List Arc)) (lim:Nat):Option (List Int):=zj0 A lim (F.length+1) 0 (cl0 F A)
end Go.Ax
namespace Go.Ax
theorem zt6:∀ {l:List Arc} {p:Option Arc},okA p l→∀ e∈l,e.1≤e.2.1
 | [],_,_,e,he=>by simp at he
 | x::l,p,h,e,he=>by
  rw[zAc] at he
  rcases he with rfl|he
  · exact h.1
  · exact zt6 h.2.2.2 e he
theorem zge:∀ {l:List Arc} {y:Arc},okA (some y) l→∀ e∈l,y.2.1<e.1
 | [],_,_,e,he=>by simp at he
 | x::l,y,h,e,he=>by
  have h1:=(h.2.2.1 y rfl).1
  rw[zAc] at he
  rcases he with rfl|he
  · exact h1
  · have:=zge h.2.2.2 e he
    have:=h.1;omega
theorem zjp:∀ {l:List Arc} {p:Option Arc},okA p l→∀ {e:Arc},e∈l→nxt l e.1=e.2.2
 | [],_,_,e,he=>by simp at he
 | x::l,p,h,e,he=>by
  rw[zAc] at he
  rcases he with rfl|he
  · exact z7l (Int.le_refl _) h.1
  · have:=zge h.2.2.2 e he
    rw[nxt,zAy (by omega)]
    exact zjp h.2.2.2 he
theorem zhd {c:Int}:∀ {l:List Arc},nxt l c≠-1→∃ y∈l,y.2.2=nxt l c
 | [],h=>absurd rfl h
 | x::l,h=>by
  rw[nxt] at h ⊢
  split
  · exact⟨x,by simp,rfl⟩
  · rename_i hc
    rw[zAy hc] at h
    obtain⟨y,hy,e⟩:=zhd h
    exact⟨y,by simp[hy],e⟩
end Go.Ax
namespace Go.Ax
theorem zj5 {l:List Int} {B:Nat} (h:l.Pairwise (· <·)) (hr:∀ z∈l,0≤z∧z≤B):l.length≤B+1:=by
 have h1:l.Nodup:=h.imp fun {a b} hab e=>by omega
 have:=z5u (m:=(List.range (B+1)).map fun k:Nat=>(k:Int)) h1 fun x hx=>by
  have:=hr x hx
  rw[List.mem_map]
  exact⟨x.toNat,by rw[List.mem_range];omega,by omega⟩
 simpa using this
end Go.Ax
namespace Go.Ax
def srt (l:List Int):List Int:=l.mergeSort fun x y=>decide (x≤y)
theorem z7z (l:List Int):(srt l).Perm l:=List.mergeSort_perm l _
theorem zan (l:List Int):(srt l).Pairwise (· ≤·):=by
 have:=List.pairwise_mergeSort (le:=fun x y:Int=>decide (x≤y)) (fun a b c h1 h2=>by simp only[zA3] at *;omega) (fun a b=>by simp only[zAu,zA3];omega) l
 exact this.imp fun h=>by simpa using h
theorem zy2 {l m:List Int} (h:l.Perm m) (hm:m.Pairwise (· ≤·)):srt l=m :=
 List.Perm.eq_of_pairwise (fun a b _ _ h1 h2=>Int.le_antisymm h1 h2) (zan l) hm ((z7z l).trans h)
theorem zj1 (l:List Int):(srt l).length=l.length:=(z7z l).length_eq
theorem y5o {A B:List Int} {x:Int} (h:(A++B).Pairwise (· ≤·)) (h1:∀ y∈A,y≤x) (h2:∀ y∈B,x≤y):(A++x::B).Pairwise (· ≤·):=by
 rw[List.pairwise_append] at h ⊢
 refine⟨h.1,List.pairwise_cons.2 ⟨h2,h.2.1⟩,fun a ha b hb=>?_⟩
 rw[zAc] at hb
 rcases hb with rfl|hb
 · exact h1 a ha
 · exact h.2.2 a ha b hb
theorem zv7 {A:List Int} {y:Int} (h:(A++[y]).Pairwise (· ≤·)):∀ z∈A++[y],z≤y:=fun z hz=>by
 rw[List.pairwise_append] at h
 rw[zAt,zAq] at hz
 rcases hz with hz|rfl
 · exact h.2.2 z hz y (by simp)
 · exact Int.le_refl _
end Go.Ax
namespace Go.Ax
def cq:Int→List Int→List Int
 | _,[]=>[]
 | x,y::l=>if x=y then cq y l else y::cq y l
def cpt:List Int→List Int
 | []=>[]
 | x::l=>x::cq x l
theorem zxa:∀ (l:List Int) (x:Int),(x::l).Pairwise (· ≤·)→(x::cq x l).Pairwise (· <·)∧∀ z,z∈x::cq x l↔z∈x::l
 | [],x,_=>by simp[cq]
 | y::l,x,h=>by
  have h1:=List.pairwise_cons.1 h
  have hxy:=h1.1 y (by simp)
  obtain⟨i1,i2⟩:=zxa l y h1.2
  rw[cq]
  split
  · rename_i e
    subst e
    exact⟨i1,fun z=>by rw[i2 z];simp⟩
  · rename_i e
    refine⟨List.pairwise_cons.2 ⟨fun z hz=>?_,i1⟩,fun z=>?_⟩
    · have hyz:y≤z:=by
       have:=(i2 z).1 hz
       rw[zAc] at this
       rcases this with rfl|this
       · exact Int.le_refl _
       · exact(List.pairwise_cons.1 h1.2).1 z this
      omega
    · rw[zAc,i2 z];simp only[zAc]
theorem zfe {l:List Int} (h:l.Pairwise (· ≤·)):(cpt l).Pairwise (· <·)∧∀ z,z∈cpt l↔z∈l:=by
 cases l with
 | nil=>simp[cpt]
 | cons x l=>exact zxa l x h
theorem zxb:∀ (l:List Int) (x:Int),(cq x l).length≤l.length
 | [],_=>zAj _
 | y::l,x=>by rw[cq];split <;> simp only[zAk] <;> have:=zxb l y <;> omega
theorem zrt (l:List Int):(cpt l).length≤l.length:=by
 cases l with
 | nil=>simp[cpt]
 | cons x l=>rw[cpt];have:=zxb l x;simp only[zAk];omega
end Go.Ax
namespace Go.Ax
theorem zrx:∀ {l:List Arc} {p:Option Arc} {a:Int},okA p l→(∀ x∈l,x.2.1≤1114111)→(∀ x∈l,a≤x.1)→okE (K:=Int) a l
 | [],_,_,_,_,_=>trivial
 | x::l,p,a,h,h1,h2=>⟨h2 x (by simp),h.1,h1 x (by simp),zrx h.2.2.2 (fun y hy=>h1 y (by simp[hy])) fun y hy=>by have:=zge h.2.2.2 y hy;omega⟩
theorem ze3:∀ {l:List Arc} {p:Option Arc},okA p l→∀ c,kx (K:=Int) l c=if nxt l c=-1 then none else some (nxt l c)
 | [],_,_,c=>rfl
 | x::l,p,h,c=>by
  rw[kx,nxt]
  split
  · have:=h.2.1
    rw[zAy (by omega)]
  · exact ze3 h.2.2.2 c
theorem zoq {a:Au} (h:∀ q,okA none (a.arcs q)):∀ (w:List Int) (q:Int),zdo a.fin a.arcs (some q) w=a.acc q w
 | [],q=>rfl
 | c::w,q=>by
  rw[zdo,ze3 (h q),Au.acc_cons,Au.nx]
  by_cases e:nxt (a.arcs q) c=-1
  · rw[zAz e,e,a.acc_neg w (by decide)];cases w <;> rfl
  · rw[zAy e];exact zoq h w _
section
variable {K:Type} [DecidableEq K]
theorem zpr {fin:K→Bool} {edg:K→List (Edge K)} {first:K} {i:Nat} {ks:List K} {a:Au} (h:Ex fin edg first i ks a) {ok:K→Prop} (h0:ok first)
 (hc:∀ k,ok k→∀ c k',kx (edg k) c=some k'→ok k'):∀ (j:Nat) (k:K),ks[j]? =some k→ok k:=by
 intro j
 induction j using Nat.strongRecOn with
 | _ j ih =>
  intro k hk
  by_cases hj:j=0
  · subst hj;rw[h.hd] at hk;cases hk;exact h0
  · obtain⟨q,k0,c,_,hq,hk0,⟨k',e1,e2⟩,_⟩:=h.bfs j (by omega) (zA1.1 hk).1
    rw[hk] at e2;cases e2
    exact hc k0 (ih q hq k0 hk0) c k e1
theorem z9c {fin:K→Bool} {edg:K→List (Edge K)} {first:K} {lim:Nat} (he:∀ k,okE 0 (edg k)) {ok:K→Prop} (h0:ok first) (hc:∀ k,ok k→∀ c k',kx (edg k) c=some k'→ok k')
 (hfew:∀ l:List K,l.Nodup→(∀ x∈l,ok x)→l.length≤lim):∀ (n i:Nat) (ks:List K) (a:Au),Ex fin edg first i ks a→lim+1≤n+i→∃ b,exL fin edg lim n i ks a=some b
 | 0,i,ks,a,h,hn=>by
  have h1:=h.le
  have h2:=hfew ks h.nod fun x hx=>by
   obtain⟨j,hj⟩:=zAw hx
   exact zpr h h0 hc j x hj
  omega
 | n+1,i,ks,a,h,hn=>by
  rw[exL]
  cases hk:ks[i]? with
  | none=>exact⟨a,rfl⟩
  | some k =>
   have hs:=zpl h hk (he k)
   have h2:=hfew _ hs.nod fun x hx=>by
    obtain⟨j,hj⟩:=zAw hx
    exact zpr hs h0 hc j x hj
   simp only
   rw[zAy (by omega)]
   exact z9c he h0 hc hfew n (i+1) _ _ hs (by omega)
theorem zm5 {fin:K→Bool} {edg:K→List (Edge K)} {first:K} {ks:List K} {a:Au} (h:Ex fin edg first ks.length ks a) {ok:K→Prop} (h0:ok first) (hc:∀ k,ok k→∀ c k',kx (edg k) c=some k'→ok k') {lim:Nat}
 (hfew:∀ l:List K,l.Nodup→(∀ x∈l,ok x)→l.length≤lim):a.F.length≤lim:=by
 rw[h.fl]
 exact hfew ks h.nod fun x hx=>by
  obtain⟨j,hj⟩:=zAw hx
  exact zpr h h0 hc j x hj
end
theorem z9d {n:Nat} {l:List Int} (h:l.Nodup) (hr:∀ x∈l,0≤x∧x<n):l.length≤n:=by
 have:=z5u (m:=(List.range n).map fun k:Nat=>(k:Int)) h fun x hx=>by
  have:=hr x hx
  exact List.mem_map.2 ⟨x.toNat,List.mem_range.2 (by omega),by omega⟩
 simpa using this
structure AuW (a:Au):Prop where
 len:a.A.length=a.F.length
 arc:∀ l∈a.A,okA none l∧∀ x∈l,0≤x.1∧x.1≤x.2.1∧x.2.1≤1114111∧0≤x.2.2∧x.2.2<a.F.length
 pos:0<a.F.length
theorem AuW.arcs {a:Au} (h:AuW a) (q:Int):okA none (a.arcs q)∧∀ x∈a.arcs q,0≤x.1∧x.1≤x.2.1∧x.2.1≤1114111∧0≤x.2.2∧x.2.2<a.F.length:=by
 rw[Au.arcs]
 split
 · exact⟨trivial,by simp⟩
 · cases hq:a.A[q.toNat]? with
   | none=>rw[List.getD,hq];exact⟨trivial,by simp⟩
   | some l=>rw[List.getD,hq];exact h.arc l (zA2 hq)
theorem AuW.okE {a:Au} (h:AuW a) (q:Int):okE (K:=Int) 0 (a.arcs q) :=
 zrx (h.arcs q).1 (fun x hx=>((h.arcs q).2 x hx).2.2.1) fun x hx=>((h.arcs q).2 x hx).1
theorem AuW.nx {a:Au} (h:AuW a) (q c:Int):-1≤a.nx q c∧a.nx q c<a.F.length:=by
 rw[Au.nx]
 have h1:=(h.arcs q).2
 by_cases e:nxt (a.arcs q) c=-1
 · rw[e];omega
 · obtain⟨y,hy,e2⟩:=zhd e
   have:=h1 y hy
   omega
theorem zs4 {a:Au} (h:AuW a) {q:Nat} (hl:z5l a.F a.A q):∃ w,a.acc (q:Nat) w=true:=by
 induction hl with
 | fin q hq=>exact⟨[],by rw[Au.acc_nil,Au.fin,zAy (by omega),zA9,List.getD,hq];rfl⟩
 | arc q l x hq hx _ ih =>
  obtain⟨w,hw⟩:=ih
  have h1:=(h.arc l (zA2 hq))
  have h2:=h1.2 x hx
  refine⟨x.1::w,?_⟩
  have e:a.nx (q:Nat) x.1=x.2.2:=by rw[Au.nx,Au.arcs,zAy (by omega),zA9,List.getD,hq];exact zjp h1.1 hx
  rw[Au.acc_cons,e,show x.2.2=((x.2.2.toNat:Nat):Int) by omega]
  exact hw
theorem zgt {a:Au} (h:AuW a):∀ (w:List Int) (q:Nat),a.acc (q:Nat) w=true→z5l a.F a.A q
 | [],q,hw=>by
  rw[Au.acc_nil,Au.fin,zAy (by omega),zA9,List.getD] at hw
  refine .fin q ?_
  cases hq:a.F[q]? with
  | none=>rw[hq] at hw;cases hw
  | some b=>rw[hq] at hw;simp at hw;rw[hw]
 | c::w,q,hw=>by
  rw[Au.acc_cons] at hw
  by_cases e:a.nx (q:Nat) c=-1
  · rw[e,a.acc_neg w (by decide)] at hw;cases hw
  · have e1:=e
    rw[Au.nx] at e1
    obtain⟨y,hy,e2⟩:=zhd e1
    have hy0:=hy
    rw[Au.arcs,zAy (by omega),zA9] at hy
    cases hq:a.A[q]? with
    | none=>rw[List.getD,hq] at hy;simp at hy
    | some l =>
     rw[List.getD,hq] at hy
     have h2:=((h.arcs (q:Nat)).2 y hy0)
     refine .arc q l y hq hy (zgt h w _ ?_)
     rw[show ((y.2.2.toNat:Nat):Int)=y.2.2 by omega,e2]
     exact hw
structure zte (a:Au) (cl:List Int):Prop where
 len:cl.length=a.F.length
 rng:∀ x∈cl,-1≤x∧x≤4000000
 dead:∀ q:Nat,q<a.F.length→(cl.getD q 0<0↔∀ w,a.acc (q:Nat) w=false)
 same:∀ p q:Nat,p<a.F.length→q<a.F.length→(∀ w,a.acc (p:Nat) w=a.acc (q:Nat) w)→cl.getD p 0=cl.getD q 0
 fin_:∀ p q:Nat,p<a.F.length→q<a.F.length→cl.getD p 0=cl.getD q 0→a.fin (p:Nat)=a.fin (q:Nat)
theorem z3g (cl:List Int) (q:Nat):clA cl (q:Nat)=cl.getD q 0:=by rw[clA,zAy (by omega),zA9]
theorem z6e (cl:List Int):clA cl (-1)=-1:=by rw[clA,zAz (by decide)]
theorem zte.to {a:Au} {cl:List Int} (h:zte a cl) {p q:Int} (hp:-1≤p∧p<a.F.length) (hq:-1≤q∧q<a.F.length) (hs:∀ w,a.acc p w=a.acc q w):clA cl p=clA cl q:=by
 have one:∀ {p:Int},-1≤p∧p<a.F.length→(∀ w,a.acc p w=false)→clA cl p=-1:=fun {p} hp hd=>by
  by_cases e:p=-1
  · rw[e,z6e]
  · obtain⟨p,rfl⟩:∃ k:Nat,p=k:=⟨p.toNat,by omega⟩
    rw[z3g]
    have h1:=(h.dead p (by omega)).2 hd
    have h2:=(z4i h.rng p).1
    omega
 by_cases e:p=-1
 · have hd:∀ w,a.acc q w=false:=fun w=>by rw[← hs w,e];exact a.acc_neg w (by decide)
   rw[one hq hd,e,z6e]
 by_cases e2:q=-1
 · have hd:∀ w,a.acc p w=false:=fun w=>by rw[hs w,e2];exact a.acc_neg w (by decide)
   rw[one hp hd,e2,z6e]
 obtain⟨p,rfl⟩:∃ k:Nat,p=k:=⟨p.toNat,by omega⟩
 obtain⟨q,rfl⟩:∃ k:Nat,q=k:=⟨q.toNat,by omega⟩
 rw[z3g,z3g]
 exact h.same p q (by omega) (by omega) hs
theorem z7n {F:List Bool} {A:List (List Arc)} {q:Nat} (hq:q<F.length):(z3l F A).getD q false=true↔z5l F A q:=by
 rw[z3l,List.getD,zAd,List.getElem?_range hq]
 simp
theorem zg3 {F:List Bool} {A:List (List Arc)} {q:Nat} (hq:q<F.length):(cl0 F A).getD q 0=if (z3l F A).getD q false=true then (if F.getD q false=true then 1 else 0) else -1:=by
 rw[cl0,List.getD,zAd,List.getElem?_range hq];rfl
theorem zbg {a:Au} (h:AuW a) (q:Nat):¬ z5l a.F a.A q↔∀ w,a.acc (q:Nat) w=false:=by
 constructor
 · intro hn w
   cases hw:a.acc (q:Nat) w with
   | false=>rfl
   | true=>exact absurd (zgt h w q hw) hn
 · intro hd hl
   obtain⟨w,hw⟩:=zs4 h hl
   rw[hd w] at hw;cases hw
theorem zfo (a:Au) (q:Nat):a.fin (q:Nat)=a.F.getD q false:=by rw[Au.fin,zAy (by omega),zA9]
theorem zyy {a:Au} (h:AuW a):zte a (cl0 a.F a.A):=by
 have hW:=zri a.F a.A
 have dd:∀ q:Nat,q<a.F.length→((cl0 a.F a.A).getD q 0<0↔∀ w,a.acc (q:Nat) w=false):=fun q hq=>by
  rw[← zbg h q,zg3 hq]
  by_cases hl:(z3l a.F a.A).getD q false=true
  · rw[zAz hl]
    have:=(z7n hq).1 hl
    constructor
    · intro h2;split at h2 <;> omega
    · intro h2;exact absurd this h2
  · rw[zAy hl]
    exact⟨fun _ h2=>hl ((z7n hq).2 h2),fun _=>by decide⟩
 refine⟨hW.len,hW.rng,dd,fun p q hp hq hs=>?_,fun p q hp hq e=>?_⟩
 · have e1:a.F.getD p false=a.F.getD q false:=by have:=hs [];rwa [Au.acc_nil,Au.acc_nil,zfo,zfo] at this
   have e2:(z3l a.F a.A).getD p false=true↔(z3l a.F a.A).getD q false=true:=by
    rw[z7n hp,z7n hq]
    have h1:=zbg h p
    have h2:=zbg h q
    have h3:(∀ w,a.acc (p:Nat) w=false)↔(∀ w,a.acc (q:Nat) w=false):=⟨fun g w=>by rw[← hs w];exact g w,fun g w=>by rw[hs w];exact g w⟩
    have h4:=h1.trans (h3.trans h2.symm)
    constructor
    · intro x;exact Classical.byContradiction fun y=>h4.2 y x
    · intro x;exact Classical.byContradiction fun y=>h4.1 y x
   rw[zg3 hp,zg3 hq,e1]
   simp only[e2]
 · rw[zfo,zfo]
   rw[zg3 hp,zg3 hq] at e
   have nl:∀ q:Nat,q<a.F.length→¬ (z3l a.F a.A).getD q false=true→a.F.getD q false=false:=fun q hq hn=>by
    cases hf:a.F.getD q false with
    | false=>rfl
    | true =>
     refine absurd ((z7n hq).2 (.fin q ?_)) hn
     rw[List.getD,zA0 hq] at hf
     rw[zA0 hq];simp at hf;rw[hf]
   by_cases h1:(z3l a.F a.A).getD p false=true <;> by_cases h2:(z3l a.F a.A).getD q false=true
   · rw[zAz h1,zAz h2] at e
     generalize a.F.getD p false=x at *
     generalize a.F.getD q false=y at *
     cases x <;> cases y <;> simp at e ⊢
   · rw[zAz h1,zAy h2] at e
     split at e <;> omega
   · rw[zAy h1,zAz h2] at e
     split at e <;> omega
   · rw[nl p hp h1,nl q hq h2]
theorem z6j {A:List (List Arc)} {cl:List Int} {p:Nat} (hp:p<cl.length):(cl.getD p 0<0→(rnd A cl).2.getD p 0=-1)∧(0≤cl.getD p 0→(rnd A cl).2.getD p 0=((z2r (sgA A cl p) (rnd A cl).1:Nat):Int)∧sgA A cl p∈(rnd A cl).1):=by
 have hR:=(y2p A cl).at_ p hp
 exact⟨fun h=>z1n (hR.1 h),fun h=>⟨z1n (hR.2 h).2,(hR.2 h).1⟩⟩
theorem zco {a:Au} {cl:List Int} (h:zte a cl) (q:Int):-1≤clA cl q:=(za8 h.rng q).1
theorem y26 {a:Au} (h:AuW a) (hn:a.F.length≤4000000) {cl:List Int} {c:Nat} (hW:ClW a.F.length c cl) (hI:zte a cl):zte a (rnd a.A cl).2:=by
 have hA:∀ l∈a.A,∀ x∈l,0≤x.1∧x.1≤x.2.1∧x.2.1≤1114111:=fun l hl x hx=>by have:=(h.arc l hl).2 x hx;omega
 have hW2:=(zov hn hW hA).2
 have hlen:=hI.len
 have arcA:∀ p:Nat,p<a.F.length→a.arcs (p:Nat)=a.A.getD p []:=fun p _=>by rw[Au.arcs,zAy (by omega),zA9]
 have neg:∀ p:Nat,p<a.F.length→((rnd a.A cl).2.getD p 0<0↔cl.getD p 0<0):=fun p hp=>by
  have h1:=z6j (A:=a.A) (cl:=cl) (p:=p) (by omega)
  constructor
  · intro h2
    by_cases h3:cl.getD p 0<0
    · exact h3
    · rw[(h1.2 (by omega)).1] at h2;omega
  · intro h2;rw[h1.1 h2];decide
 refine⟨hW2.len,hW2.rng,fun q hq=>(neg q hq).trans (hI.dead q hq),fun p q hp hq hs=>?_,fun p q hp hq e=>?_⟩
 · have e1:=hI.same p q hp hq hs
   have h1:=z6j (A:=a.A) (cl:=cl) (p:=p) (by omega)
   have h2:=z6j (A:=a.A) (cl:=cl) (p:=q) (by omega)
   by_cases h3:cl.getD p 0<0
   · rw[h1.1 h3,h2.1 (by omega)]
   · rw[(h1.2 (by omega)).1,(h2.2 (by omega)).1]
     have hb:byC cl (a.A.getD p [])=byC cl (a.A.getD q []):=by
      rw[← arcA p hp,← arcA q hq]
      obtain⟨p1,p2⟩:=zap (zco hI) (h.arcs (p:Nat)).1
      obtain⟨q1,q2⟩:=zap (zco hI) (h.arcs (q:Nat)).1
      refine zqh p1 q1 fun c=>?_
      rw[p2,q2]
      exact hI.to (h.nx (p:Nat) c) (h.nx (q:Nat) c) fun w=>hs (c::w)
     rw[sgA,sgA,zyw,zyw,hb,e1]
 · have h1:=z6j (A:=a.A) (cl:=cl) (p:=p) (by omega)
   have h2:=z6j (A:=a.A) (cl:=cl) (p:=q) (by omega)
   by_cases h3:cl.getD p 0<0
   · have h4:cl.getD q 0<0:=(neg q hq).1 (by rw[← e];exact(neg p hp).2 h3)
     have d1:=(hI.dead p hp).1 h3 []
     have d2:=(hI.dead q hq).1 h4 []
     rw[Au.acc_nil] at d1 d2
     rw[d1,d2]
   · have h4:¬ cl.getD q 0<0:=fun h5=>h3 ((neg p hp).1 (by rw[e];exact(neg q hq).2 h5))
     obtain⟨g1,g2⟩:=h1.2 (by omega)
     obtain⟨g3,g4⟩:=h2.2 (by omega)
     rw[g1,g3] at e
     have m1:=(z2o g2).2
     have m2:=(z2o g4).2
     rw[show z2r (sgA a.A cl p) (rnd a.A cl).1=z2r (sgA a.A cl q) (rnd a.A cl).1 by omega,m2] at m1
     have hs:sgA a.A cl p=sgA a.A cl q:=by simpa using m1.symm
     have sm:∀ p:Nat,p<a.F.length→zar (byC cl (a.A.getD p [])):=fun p hp=>by
      rw[← arcA p hp]
      exact z92 hI.rng fun x hx=>by have:=(h.arcs (p:Nat)).2 x hx;omega
     have r1:=z4i hI.rng p
     have r2:=z4i hI.rng q
     exact hI.fin_ p q hp hq (zj8 ⟨by omega,by omega⟩ ⟨by omega,by omega⟩ (sm p hp) (sm q hq) hs).1
structure Cls (a:Au) (lim:Nat) (r:List Int):Prop where
 inv:zte a r
 lang:∀ p q:Nat,p<a.F.length→q<a.F.length→r.getD p 0=r.getD q 0→∀ w,a.acc (p:Nat) w=a.acc (q:Nat) w
 few:∃ c:Nat,(c≤lim∧c≤a.F.length)∧∀ q,q<a.F.length→r.getD q 0<c
theorem y5c {A:List (List Arc)} {cl:List Int} {p:Nat} (hp:p<cl.length):(rnd A cl).2.getD p 0<(rnd A cl).1.length:=by
 have h:=z6j (A:=A) hp
 by_cases h1:cl.getD p 0<0
 · rw[h.1 h1];omega
 · obtain⟨g1,g2⟩:=h.2 (by omega)
   rw[g1]
   have:=(z2o g2).1
   omega
theorem zu5 {a:Au} (h:AuW a) {cl:List Int} (hI:zte a cl) {p q:Nat} (hp:p<a.F.length) (hq:q<a.F.length) (e:(rnd a.A cl).2.getD p 0=(rnd a.A cl).2.getD q 0) (h3:¬ cl.getD p 0<0) :
 ∀ c,clA cl (a.nx (p:Nat) c)=clA cl (a.nx (q:Nat) c):=by
 have hlen:=hI.len
 have arcA:∀ p:Nat,p<a.F.length→a.arcs (p:Nat)=a.A.getD p []:=fun p _=>by rw[Au.arcs,zAy (by omega),zA9]
 have h1:=z6j (A:=a.A) (cl:=cl) (p:=p) (by omega)
 have h2:=z6j (A:=a.A) (cl:=cl) (p:=q) (by omega)
 obtain⟨g1,g2⟩:=h1.2 (by omega)
 have h4:¬ cl.getD q 0<0:=fun h5=>by rw[g1,h2.1 h5] at e;omega
 obtain⟨g3,g4⟩:=h2.2 (by omega)
 rw[g1,g3] at e
 have m1:=(z2o g2).2
 have m2:=(z2o g4).2
 rw[show z2r (sgA a.A cl p) (rnd a.A cl).1=z2r (sgA a.A cl q) (rnd a.A cl).1 by omega,m2] at m1
 have hs:sgA a.A cl p=sgA a.A cl q:=by simpa using m1.symm
 have sm:∀ p:Nat,p<a.F.length→zar (byC cl (a.A.getD p [])):=fun p hp=>by
  rw[← arcA p hp]
  exact z92 hI.rng fun x hx=>by have:=(h.arcs (p:Nat)).2 x hx;omega
 have r1:=z4i hI.rng p
 have r2:=z4i hI.rng q
 have hb:=(zj8 ⟨by omega,by omega⟩ ⟨by omega,by omega⟩ (sm p hp) (sm q hq) hs).2
 intro c
 rw[← arcA p hp,← arcA q hq] at hb
 have p2:=(zap (zco hI) (h.arcs (p:Nat)).1).2 c
 have q2:=(zap (zco hI) (h.arcs (q:Nat)).1).2 c
 rw[Au.nx,Au.nx,← p2,← q2,hb]
theorem zia {a:Au} (h:AuW a) {r:List Int} (hI:zte a r) (hst:∀ p q:Nat,p<a.F.length→q<a.F.length→r.getD p 0=r.getD q 0→∀ c,clA r (a.nx (p:Nat) c)=clA r (a.nx (q:Nat) c)) :
 ∀ (w:List Int) (p q:Int),-1≤p→p<a.F.length→-1≤q→q<a.F.length→clA r p=clA r q→a.acc p w=a.acc q w:=by
 have dd:∀ q:Int,-1≤q→q<a.F.length→clA r q=-1→∀ w,a.acc q w=false:=fun q h1 h2 e w=>by
  by_cases e2:q=-1
  · rw[e2];exact a.acc_neg w (by decide)
  · obtain⟨q,rfl⟩:∃ k:Nat,q=k:=⟨q.toNat,by omega⟩
    rw[z3g] at e
    exact(hI.dead q (by omega)).1 (by omega) w
 intro w
 induction w with
 | nil =>
  intro p q p1 p2 q1 q2 e
  by_cases e1:clA r p=-1
  · rw[dd p p1 p2 e1,dd q q1 q2 (e▸e1)]
  · have hp:p≠-1:=by rintro rfl;exact e1 (z6e r)
    have hq:q≠-1:=by rintro rfl;exact e1 (e.trans (z6e r))
    obtain⟨p,rfl⟩:∃ k:Nat,p=k:=⟨p.toNat,by omega⟩
    obtain⟨q,rfl⟩:∃ k:Nat,q=k:=⟨q.toNat,by omega⟩
    rw[z3g,z3g] at e
    rw[Au.acc_nil,Au.acc_nil]
    exact hI.fin_ p q (by omega) (by omega) e
 | cons c w ih =>
  intro p q p1 p2 q1 q2 e
  by_cases e1:clA r p=-1
  · rw[dd p p1 p2 e1,dd q q1 q2 (e▸e1)]
  · have hp:p≠-1:=by rintro rfl;exact e1 (z6e r)
    have hq:q≠-1:=by rintro rfl;exact e1 (e.trans (z6e r))
    obtain⟨p,rfl⟩:∃ k:Nat,p=k:=⟨p.toNat,by omega⟩
    obtain⟨q,rfl⟩:∃ k:Nat,q=k:=⟨q.toNat,by omega⟩
    rw[z3g,z3g] at e
    rw[Au.acc_cons,Au.acc_cons]
    have n1:=h.nx (p:Nat) c
    have n2:=h.nx (q:Nat) c
    exact ih _ _ n1.1 n1.2 n2.1 n2.2 (hst p q (by omega) (by omega) e c)
theorem zkd {a:Au} (h:AuW a) (hn:a.F.length≤4000000) {lim:Nat}:∀ {f c:Nat} {cl r:List Int},ClW a.F.length c cl→zte a cl→(c=0∨∀ q,q<a.F.length→cl.getD q 0<c)→zj0 a.A lim f c cl=some r→Cls a lim r
 | 0,_,_,_,_,_,_,e=>by rw[zj0] at e;cases e
 | f+1,c,cl,r,hW,hI,hb,e=>by
  have hA:∀ l∈a.A,∀ x∈l,0≤x.1∧x.1≤x.2.1∧x.2.1≤1114111:=fun l hl x hx=>by have:=(h.arc l hl).2 x hx;omega
  have hlen:=hI.len
  have hW2:=(zov hn hW hA).2
  have hI2:=y26 h hn hW hI
  have hlt:∀ q,q<a.F.length→(rnd a.A cl).2.getD q 0<(rnd a.A cl).1.length:=fun q hq=>y5c (by omega)
  rw[zj0] at e
  split at e
  · cases e
  rename_i hl
  split at e
  · rename_i hc
    simp only[zAh] at e
    subst e
    have arcA:∀ p:Nat,p<a.F.length→a.arcs (p:Nat)=a.A.getD p []:=fun p _=>by rw[Au.arcs,zAy (by omega),zA9]
    have hm:=(zlv (A:=a.A) hW.full (fun q hq=>by have:=z4i hI.rng q;omega) (fun q hq=>by
     rw[← arcA q (by omega)]
     exact z92 hI.rng fun x hx=>by have:=(h.arcs (q:Nat)).2 x hx;omega)).2 hc.symm
    -- old classes are new classes
    have hQ:∀ p q:Nat,p<a.F.length→q<a.F.length→cl.getD p 0=cl.getD q 0→(rnd a.A cl).2.getD p 0=(rnd a.A cl).2.getD q 0:=fun p q hp hq e=>by
     have h1:=z6j (A:=a.A) (cl:=cl) (p:=p) (by omega)
     have h2:=z6j (A:=a.A) (cl:=cl) (p:=q) (by omega)
     by_cases h3:cl.getD p 0<0
     · rw[h1.1 h3,h2.1 (by omega)]
     · have g1:=h1.2 (by omega)
       have g2:=h2.2 (by omega)
       have hlt2:cl.getD p 0<c:=by
        rcases hb with rfl|hb
        · have:=List.length_pos_of_mem g1.2;omega
        · exact hb p hp
       rw[g1.1,g2.1,hm p q (by omega) (by omega) (by omega) hlt2 e]
    have hQ2:∀ p q:Int,-1≤p→p<a.F.length→-1≤q→q<a.F.length→clA cl p=clA cl q→clA (rnd a.A cl).2 p=clA (rnd a.A cl).2 q:=fun p q p1 p2 q1 q2 e=>by
     have one:∀ q:Int,-1≤q→q<a.F.length→clA cl q=-1→clA (rnd a.A cl).2 q=-1:=fun q h1 h2 e=>by
      by_cases e2:q=-1
      · rw[e2,z6e]
      · obtain⟨q,rfl⟩:∃ k:Nat,q=k:=⟨q.toNat,by omega⟩
        rw[z3g] at e ⊢
        exact(z6j (A:=a.A) (cl:=cl) (p:=q) (by omega)).1 (by omega)
     by_cases e1:clA cl p=-1
     · rw[one p p1 p2 e1,one q q1 q2 (e▸e1)]
     · have hp:p≠-1:=by rintro rfl;exact e1 (z6e cl)
       have hq:q≠-1:=by rintro rfl;exact e1 (e.trans (z6e cl))
       obtain⟨p,rfl⟩:∃ k:Nat,p=k:=⟨p.toNat,by omega⟩
       obtain⟨q,rfl⟩:∃ k:Nat,q=k:=⟨q.toNat,by omega⟩
       rw[z3g,z3g] at e ⊢
       exact hQ p q (by omega) (by omega) e
    have hst:∀ p q:Nat,p<a.F.length→q<a.F.length→(rnd a.A cl).2.getD p 0=(rnd a.A cl).2.getD q 0→∀ c,clA (rnd a.A cl).2 (a.nx (p:Nat) c)=clA (rnd a.A cl).2 (a.nx (q:Nat) c):=fun p q hp hq e c=>by
     have n1:=h.nx (p:Nat) c
     have n2:=h.nx (q:Nat) c
     by_cases h3:(rnd a.A cl).2.getD p 0<0
     · have d1:=(hI2.dead p hp).1 h3
       have d2:=(hI2.dead q hq).1 (by rw[← e];exact h3)
       exact hI2.to n1 n2 fun w=>by
        have x1:=d1 (c::w)
        have x2:=d2 (c::w)
        rw[Au.acc_cons] at x1 x2
        rw[x1,x2]
     · have h4:¬ cl.getD p 0<0:=fun h5=>h3 (by rw[(z6j (A:=a.A) (cl:=cl) (p:=p) (by omega)).1 h5];decide)
       exact hQ2 _ _ n1.1 n1.2 n2.1 n2.2 (zu5 h hI hp hq e h4 c)
    refine⟨hI2,fun p q hp hq e w=>?_,_,⟨by omega,by have:=(y2p a.A cl).few;omega⟩,hlt⟩
    exact zia h hI2 hst w (p:Nat) (q:Nat) (by omega) (by omega) (by omega) (by omega) (by rw[z3g,z3g];exact e)
  · exact zkd h hn hW2 hI2 (.inr hlt) e
theorem zhb {a:Au} (h:AuW a) (hn:a.F.length≤4000000) {lim:Nat} (hl:a.F.length≤lim):∀ {f c:Nat} {cl:List Int},ClW a.F.length c cl→a.F.length<f+c→∃ r,zj0 a.A lim f c cl=some r
 | 0,c,cl,hW,hf=>by have:=hW.few;omega
 | f+1,c,cl,hW,hf=>by
  have hA:∀ l∈a.A,∀ x∈l,0≤x.1∧x.1≤x.2.1∧x.2.1≤1114111:=fun l hl x hx=>by have:=(h.arc l hl).2 x hx;omega
  obtain⟨h1,hW2⟩:=zov hn hW hA
  have h2:=(y2p a.A cl).few
  have h3:=hW.len
  rw[zj0,zAy (by omega)]
  split
  · exact⟨_,rfl⟩
  · exact zhb h hn hl hW2 (by omega)
theorem zvm {a:Au} (h:AuW a) (hn:a.F.length≤4000000) {lim:Nat} {r:List Int} (e:zx8 a.F a.A lim=some r):Cls a lim r :=
 zkd h hn (zri a.F a.A) (zyy h) (.inl rfl) e
theorem zt9:∀ {l:List Arc} {p:Option Arc},okA p l→∀ {e:Arc} {c:Int},e∈l→e.1≤c→c≤e.2.1→nxt l c=e.2.2
 | [],_,_,e,c,he,_,_=>by simp at he
 | x::l,p,h,e,c,he,h1,h2=>by
  rcases zAc.1 he with rfl|he
  · exact z7l h1 h2
  · have:=zge h.2.2.2 e he
    rw[nxt,zAy (by omega)]
    exact zt9 h.2.2.2 he h1 h2
theorem zkv {K:Type}:∀ {es:List (Edge K)} {a c:Int} {k:K},okE a es→kx es c=some k→a≤c∧c≤1114111
 | [],_,_,_,_,h=>by cases h
 | e::es,a,c,k,h,hk=>by
  rw[kx] at hk
  have h1:=h.1
  have h2:=h.2.1
  have h3:=h.2.2.1
  split at hk
  · omega
  · have:=zkv h.2.2.2 hk;omega
section
variable {K:Type} [DecidableEq K]
theorem y6c {fin:K→Bool} {edg:K→List (Edge K)} {first:K} {ks:List K} {a:Au} (h:Ex fin edg first ks.length ks a) (he:∀ k,okE 0 (edg k)):AuW a:=by
 have hpos:0<ks.length:=(zA1.1 h.hd).1
 refine⟨by rw[h.al,h.fl],fun l hl=>?_,by rw[h.fl];exact hpos⟩
 obtain⟨q,hq⟩:=zAw hl
 have hql:q<ks.length:=by have:=(zA1.1 hq).1;rw[h.al] at this;exact this
 obtain⟨l',e1,e2,e3,e4⟩:=h.arc q _ hql (zA0 hql)
 rw[hq] at e1;cases e1
 refine⟨e2,fun x hx=>?_⟩
 have h1:=zt6 e2 x hx
 have a1:=zt9 e2 hx (Int.le_refl _) h1
 have a2:=zt9 e2 hx h1 (Int.le_refl _)
 have p0:0≤x.2.2:=by
  have:∀ {l:List Arc} {p:Option Arc},okA p l→∀ x∈l,0≤x.2.2:=fun {l}=>by
   induction l with
   | nil=>intro p _ x hx;simp at hx
   | cons y l ih =>
    intro p h x hx
    rcases zAc.1 hx with rfl|hx
    · exact h.2.1
    · exact ih h.2.2.2 x hx
  exact this e2 x hx
 have b1:=e3 x.1
 have b2:=e3 x.2.1
 rw[a1] at b1
 rw[a2] at b2
 cases k1:kx (edg ks[q]) x.1 with
 | none=>rw[k1] at b1;simp only at b1;omega
 | some y1 =>
  cases k2:kx (edg ks[q]) x.2.1 with
  | none=>rw[k2] at b2;simp only at b2;omega
  | some y2 =>
   rw[k1] at b1;simp only at b1
   have r1:=zkv (he _) k1
   have r2:=zkv (he _) k2
   have:=(z2o (e4 _ _ k1)).1
   rw[h.fl]
   omega
end
theorem y6y {a:Au} (h:AuW a) (q c:Int) (k':Int) (e:kx (K:=Int) (a.arcs q) c=some k'):0≤k'∧k'<a.F.length:=by
 rw[ze3 (h.arcs q).1] at e
 split at e
 · cases e
 · rename_i hn
   simp only[zAh] at e
   have:=h.nx q c
   rw[Au.nx] at this
   omega
theorem znd {a:Au} (h:AuW a):∃ b,exL a.fin a.arcs a.F.length (a.F.length+1) 0 [(0:Int)] ⟨[],[]⟩=some b∧AuW b∧b.F.length≤a.F.length∧∀ w,b.acc 0 w=a.acc 0 w:=by
 have hpos:=h.pos
 have hc:∀ k:Int,(0≤k∧k<a.F.length)→∀ c k',kx (K:=Int) (a.arcs k) c=some k'→0≤k'∧k'<a.F.length:=fun k _ c k' e=>y6y h k c k' e
 have hfew:∀ l:List Int,l.Nodup→(∀ x∈l,0≤x∧x<a.F.length)→l.length≤a.F.length:=fun l h1 h2=>z9d h1 h2
 obtain⟨b,hb⟩:=z9c (fin:=a.fin) (first:=(0:Int)) (lim:=a.F.length) (ok:=fun k:Int=>0≤k∧k<a.F.length) h.okE ⟨by omega,by omega⟩ hc hfew (a.F.length+1) 0 _ _ (zyh _ _ _) (by omega)
 obtain⟨ks,hx⟩:=zgv h.okE _ _ _ _ b (zyh _ _ _) hb
 refine⟨b,hb,y6c hx h.okE,zm5 hx (ok:=fun k:Int=>0≤k∧k<a.F.length) ⟨by omega,by omega⟩ hc hfew,fun w=>?_⟩
 have:=zav hx w 0 0 hx.hd
 rw[zoq (fun q=>(h.arcs q).1)] at this
 exact this
section
variable {a:Au} (h:AuW a) {lim:Nat} {cl:List Int} (hc:Cls a lim cl) {st:Int→Nat} (hst:∀ q,q<a.F.length→st (cl.getD q 0)<a.F.length∧cl.getD (st (cl.getD q 0)) 0=cl.getD q 0)
include h hc hst
theorem zdb:∀ (w:List Int) (q:Nat),q<a.F.length→0≤cl.getD q 0→zdo (fun k=>a.fin (st k:Nat)) (fun k=>byC cl (a.arcs (st k:Nat))) (some (cl.getD q 0)) w=a.acc (q:Nat) w
 | [],q,hq,h0=>by
  obtain⟨s1,s2⟩:=hst q hq
  rw[zdo,← hc.lang _ _ s1 hq s2 []];rfl
 | c::w,q,hq,h0=>by
  obtain⟨s1,s2⟩:=hst q hq
  obtain⟨b1,b2⟩:=zap (zco hc.inv) (h.arcs (st (cl.getD q 0):Nat)).1
  have n1:=h.nx (st (cl.getD q 0):Nat) c
  rw[zdo,ze3 b1,b2,← hc.lang _ _ s1 hq s2 (c::w),Au.acc_cons]
  change zdo _ _ (if clA cl (a.nx (st (cl.getD q 0):Nat) c)=-1 then none else some (clA cl (a.nx (st (cl.getD q 0):Nat) c))) w=_
  generalize a.nx (st (cl.getD q 0):Nat) c=t at *
  by_cases e:clA cl t=-1
  · rw[zAz e]
    have hd:a.acc t w=false:=by
     by_cases e2:t=-1
     · rw[e2];exact a.acc_neg w (by decide)
     · obtain⟨t,rfl⟩:∃ k:Nat,t=k:=⟨t.toNat,by omega⟩
       rw[z3g] at e
       exact(hc.inv.dead t (by omega)).1 (by omega) w
    rw[hd];cases w <;> rfl
  · rw[zAy e]
    have e2:t≠-1:=by rintro rfl;exact e (z6e cl)
    obtain⟨t,rfl⟩:∃ k:Nat,t=k:=⟨t.toNat,by omega⟩
    rw[z3g] at e ⊢
    have:=z4i hc.inv.rng t
    exact zdb w t (by omega) (by omega)
theorem y1j (h0:0≤cl.getD 0 0):∃ b,exL (fun k=>a.fin (st k:Nat)) (fun k=>byC cl (a.arcs (st k:Nat))) lim (lim+1) 0 [cl.getD 0 0] ⟨[],[]⟩=some b∧Can b∧AuW b∧b.F.length≤a.F.length∧∀ w,b.acc 0 w=a.acc 0 w:=by
 have hpos:=h.pos
 have he:∀ k:Int,okE (K:=Int) 0 (byC cl (a.arcs (st k:Nat))):=fun k=>by
  have h1:=zfl (cl:=cl) (B:=4000000) (fun q=>(za8 hc.inv.rng q).2) (l:=a.arcs (st k:Nat)) fun x hx=>by have:=(h.arcs (st k:Nat)).2 x hx;omega
  exact zrx (zap (zco hc.inv) (h.arcs (st k:Nat)).1).1 (fun x hx=>by have:=h1 x hx;omega) fun x hx=>by have:=h1 x hx;omega
 obtain⟨c,⟨hcl,hcn⟩,hcb⟩:=hc.few
 have hok0:∃ q,q<a.F.length∧cl.getD q 0=cl.getD 0 0∧0≤cl.getD 0 0:=⟨0,hpos,rfl,h0⟩
 have hcc:∀ k:Int,(∃ q,q<a.F.length∧cl.getD q 0=k∧0≤k)→∀ d k',kx (K:=Int) (byC cl (a.arcs (st k:Nat))) d=some k'→∃ q,q<a.F.length∧cl.getD q 0=k'∧0≤k':=fun k hk d k' e=>by
  obtain⟨b1,b2⟩:=zap (zco hc.inv) (h.arcs (st k:Nat)).1
  have n1:=h.nx (st k:Nat) d
  rw[Au.nx] at n1
  rw[ze3 b1,b2] at e
  generalize nxt (a.arcs (st k:Nat)) d=t at *
  split at e
  · cases e
  · rename_i hn
    simp only[zAh] at e
    have e2:t≠-1:=by rintro rfl;exact hn (z6e cl)
    obtain⟨t,rfl⟩:∃ k:Nat,t=k:=⟨t.toNat,by omega⟩
    rw[z3g] at e hn
    have:=z4i hc.inv.rng t
    exact⟨t,by omega,e,by omega⟩
 have hfew:∀ l:List Int,l.Nodup→(∀ x∈l,∃ q,q<a.F.length∧cl.getD q 0=x∧0≤x)→l.length≤c:=fun l h1 h2 =>
  z9d (n:=c) h1 fun x hx=>by obtain⟨q,q1,q2,q3⟩:=h2 x hx;have:=hcb q q1;omega
 obtain⟨b,hb⟩:=z9c (fin:=fun k=>a.fin (st k:Nat)) (lim:=lim) (ok:=fun k:Int=>∃ q,q<a.F.length∧cl.getD q 0=k∧0≤k) he hok0 hcc (fun l h1 h2=>Nat.le_trans (hfew l h1 h2) hcl) (lim+1) 0 _ _ (zyh _ _ _) (by omega)
 obtain⟨ks,hx⟩:=zgv he _ _ _ _ b (zyh _ _ _) hb
 have hks:∀ x∈ks,∃ q,q<a.F.length∧cl.getD q 0=x∧0≤x:=fun x hxx=>by
  obtain⟨j,hj⟩:=zAw hxx
  exact zpr hx (ok:=fun k:Int=>∃ q,q<a.F.length∧cl.getD q 0=k∧0≤k) hok0 hcc j x hj
 refine⟨b,hb,zxi hx (fun x hxx y hyy hw=>?_) (fun x hxx=>?_),y6c hx he,zm5 hx (ok:=fun k:Int=>∃ q,q<a.F.length∧cl.getD q 0=k∧0≤k) hok0 hcc (fun l h1 h2=>Nat.le_trans (hfew l h1 h2) hcn),fun w=>?_⟩
 · obtain⟨p,p1,rfl,p3⟩:=hks x hxx
   obtain⟨q,q1,rfl,q3⟩:=hks y hyy
   exact hc.inv.same p q p1 q1 fun w=>by rw[← zdb h hc hst w p p1 p3,← zdb h hc hst w q q1 q3];exact hw w
 · obtain⟨p,p1,rfl,p3⟩:=hks x hxx
   have hd:¬ ∀ w,a.acc (p:Nat) w=false:=fun hd=>by have:=(hc.inv.dead p p1).2 hd;omega
   obtain⟨w,hw⟩:=Classical.not_forall.1 hd
   exact⟨w,by rw[zdb h hc hst w p p1 p3];simpa using hw⟩
 · have:=zav hx w 0 _ hx.hd
   rw[zdb h hc hst w 0 hpos h0] at this
   exact this
end
def zcu:Au:=⟨[false],[[]]⟩
theorem z7p:∀ w,zcu.acc 0 w=false
 | []=>rfl
 | c::w=>by rw[Au.acc_cons];exact zcu.acc_neg w (show zcu.nx 0 c<0 from (by decide:(-1:Int)<0))
theorem zq6:AuW zcu:=⟨rfl,fun l hl=>by simp[zcu] at hl;subst hl;exact⟨trivial,by simp⟩,by decide⟩
def Nrm (m:Au):Prop:=Can m∨m=zcu
theorem zy8 {a b:Au} (ha:Nrm a) (hb:Nrm b) (h:∀ w,a.acc 0 w=b.acc 0 w):a=b:=by
 rcases ha with ha|rfl <;> rcases hb with hb|rfl
 · exact y54 ha hb h
 · obtain⟨w,hw⟩:=ha.live 0 (by decide) (by have:=ha.pos;omega)
   rw[h w,z7p] at hw;cases hw
 · obtain⟨w,hw⟩:=hb.live 0 (by decide) (by have:=hb.pos;omega)
   rw[← h w,z7p] at hw;cases hw
 · rfl
theorem zwr {a:Au} (h:AuW a) (hn:a.F.length≤256) {st:List Int→Int→Nat} (hst:∀ cl:List Int,cl.length=a.F.length→∀ q,q<a.F.length→st cl (cl.getD q 0)<a.F.length∧cl.getD (st cl (cl.getD q 0)) 0=cl.getD q 0) :
 ∃ cl,zx8 a.F a.A 256=some cl∧∃ m,(if cl.getD 0 0<0 then some zcu else exL (fun k=>a.fin (st cl k:Nat)) (fun k=>byC cl (a.arcs (st cl k:Nat))) 256 257 0 [cl.getD 0 0] ⟨[],[]⟩)=some m∧Nrm m∧AuW m∧m.F.length≤a.F.length∧∀ w,m.acc 0 w=a.acc 0 w:=by
 have hpos:=h.pos
 obtain⟨cl,hcl⟩:=zhb h (by omega) (lim:=256) hn (f:=a.F.length+1) (zri a.F a.A) (by omega)
 have hc:=zvm h (by omega) (lim:=256) hcl
 refine⟨cl,hcl,?_⟩
 by_cases h0:cl.getD 0 0<0
 · rw[zAz h0]
   refine⟨zcu,rfl,.inr rfl,zq6,hpos,fun w=>?_⟩
   rw[z7p]
   exact((hc.inv.dead 0 hpos).1 h0 w).symm
 · rw[zAy h0]
   obtain⟨b,b1,b2,b3,b4,b5⟩:=y1j h hc (st:=st cl) (hst cl hc.inv.len) (by omega)
   exact⟨b,b1,.inl b2,b3,b4,b5⟩
structure Tbl where
 P:List Int
 F:List Bool
 N:List (List Int)
def nxE:List Int→Int
 | q::_=>q-1
 | []=>1114111
def zfv:List Int→List Int→List (Edge Int)
 | [],_=>[]
 | _::_,[]=>[]
 | p::P,n::N=>(p,nxE P,n)::zfv P N
theorem z8o (N:List Int):zfv [] N=[]:=by cases N <;> rfl
theorem zid (P:List Int):zfv P []=[]:=by cases P <;> rfl
theorem zas (p:Int) (P:List Int) (n:Int) (N:List Int):zfv (p::P) (n::N)=(p,nxE P,n)::zfv P N:=by cases P <;> rfl
theorem zya {K:Type} {l:List (Edge K)} {a b:Int} (h:okE b l) (hab:a≤b):okE a l:=by
 cases l with
 | nil=>trivial
 | cons e l=>exact⟨by have:=h.1;omega,h.2⟩
theorem zph:∀ {P N:List Int} {a:Int},P.Pairwise (· <·)→(∀ z∈P,a≤z∧z≤1114111)→okE a (zfv P N)
 | [],_,_,_,_=>by rw[z8o];trivial
 | p::P,[],_,_,_=>by rw[zid];trivial
 | p::P,n::N,a,h,hr=>by
  rw[zas]
  rw[List.pairwise_cons] at h
  have hp:=hr p (by simp)
  cases P with
  | nil=>exact⟨hp.1,hp.2,by simp[nxE],by rw[z8o];trivial⟩
  | cons q P =>
   have hq:=h.1 q (by simp)
   have hq2:=hr q (by simp)
   refine⟨hp.1,by simp only[nxE];omega,by simp only[nxE];omega,zph h.2 fun z hz=>⟨?_,(hr z (by simp[hz])).2⟩⟩
   simp only[nxE]
   rcases zAc.1 hz with rfl|hz
   · omega
   · have:=(List.pairwise_cons.1 h.2).1 z hz;omega
theorem zbe:∀ {P N:List Int} {e:Edge Int},e∈zfv P N→e.2.2∈N∧e.1∈P
 | [],_,e,h=>by rw[z8o] at h;cases h
 | p::P,[],e,h=>by rw[zid] at h;cases h
 | p::P,n::N,e,h=>by
  rw[zas] at h
  rcases zAc.1 h with rfl|h
  · simp
  · have:=zbe h;simp[this]
theorem zmp:∀ {P N:List Int} {x:Nat} {p n:Int},P[x]? =some p→N[x]? =some n→∃ e∈zfv P N,e.1=p∧e.2.2=n
 | [],_,_,_,_,h,_=>by simp at h
 | p::P,[],_,_,_,_,h=>by simp at h
 | p::P,n::N,x,p',n',h1,h2=>by
  rw[zas]
  cases x with
  | zero=>simp at h1 h2;exact⟨_,List.mem_cons_self,h1,h2⟩
  | succ x =>
   simp at h1 h2
   obtain⟨e,he,h⟩:=zmp h1 h2
   exact⟨e,List.mem_cons_of_mem _ he,h⟩
theorem y1m {K:Type}:∀ {E:List (Edge K)} {a:Int},okE a E→∀ {e:Edge K},e∈E→kx E e.1=some e.2.2
 | e'::E,a,h,e,he=>by
  rcases zAc.1 he with rfl|he
  · rw[kx,zAz ⟨by omega,h.2.1⟩]
  · have h1:=y1m h.2.2.2 he
    have h2:¬ e.1<e'.2.1+1:=fun hlt=>by rw[zhp h.2.2.2 _ hlt] at h1;cases h1
    rw[kx,zAy (by omega)]
    exact h1
theorem zcy:∀ {P N:List Int} {c n:Int},P.Pairwise (· <·)→(∀ z∈P,z≤1114111)→kx (zfv P N) c=some n→c≤1114111∧∃ (x:Nat) (p:Int),P[x]? =some p∧N[x]? =some n∧p≤c∧∀ y∈P,y≤c→y≤p
 | [],_,_,_,_,_,h=>by rw[z8o] at h;cases h
 | p::P,[],_,_,_,_,h=>by rw[zid] at h;cases h
 | p::P,m::N,c,n,ha,hr,h=>by
  rw[zas,kx] at h
  have ha':=List.pairwise_cons.1 ha
  split at h
  · rename_i hc
    simp only[zAh] at h
    subst h
    cases P with
    | nil=>simp only[nxE] at hc;exact⟨by omega,0,p,rfl,rfl,hc.1,fun y hy _=>by simp at hy;omega⟩
    | cons q P =>
     simp only[nxE] at hc
     have:=hr q (by simp)
     refine⟨by omega,0,p,rfl,rfl,hc.1,fun y hy hyc=>?_⟩
     rcases zAc.1 hy with rfl|hy
     · omega
     · rcases zAc.1 hy with rfl|hy
       · omega
       · have:=(List.pairwise_cons.1 ha'.2).1 y hy;omega
  · rename_i hc
    obtain⟨h0,x,p',h1,h2,h3,h4⟩:=zcy ha'.2 (fun z hz=>hr z (by simp[hz])) h
    refine⟨h0,x+1,p',by simpa using h1,by simpa using h2,h3,fun y hy hyc=>?_⟩
    rcases zAc.1 hy with rfl|hy
    · have:=ha'.1 p' (zA2 h1);omega
    · exact h4 y hy hyc
theorem z6v:∀ {P N:List Int} {c p:Int},P[0]? =some p→P.length=N.length→p≤c→c≤1114111→kx (zfv P N) c≠none
 | [],_,_,_,h,_,_,_=>by simp at h
 | p::P,[],_,_,_,h,_,_=>by simp at h
 | p::P,m::N,c,p',h0,hl,hc,hc2=>by
  simp at h0
  subst h0
  rw[zas,kx]
  split
  · exact fun h=>by cases h
  · rename_i hn
    cases P with
    | nil=>simp only[nxE] at hn;omega
    | cons q P=>simp only[nxE] at hn;exact z6v (p:=q) rfl (by simpa using hl) (by omega) hc2
def z9t (lv:List Bool) (cl:List Int):List (Edge Int)→List (Edge Int)
 | []=>[]
 | e::E=>if lv.getD e.2.2.toNat false=true then (e.1,e.2.1,cl.getD e.2.2.toNat 0)::z9t lv cl E else z9t lv cl E
theorem zmj {lv:List Bool} {cl:List Int}:∀ {E:List (Edge Int)} {a:Int},okE a E→okE a (z9t lv cl E)
 | [],_,_=>trivial
 | e::E,a,h=>by
  rw[z9t]
  split
  · exact⟨h.1,h.2.1,h.2.2.1,zmj h.2.2.2⟩
  · exact zya (zmj h.2.2.2) (by have:=h.1;have:=h.2.1;omega)
theorem zr9 {lv:List Bool} {cl:List Int} (c:Int):∀ {E:List (Edge Int)} {a:Int},okE a E→kx (z9t lv cl E) c=match kx E c with|none=>none|some n=>if lv.getD n.toNat false=true then some (cl.getD n.toNat 0) else none
 | [],_,_=>rfl
 | e::E,a,h=>by
  have ih:=zr9 (lv:=lv) (cl:=cl) c h.2.2.2
  have hlo:c≤e.2.1→kx (z9t lv cl E) c=none:=fun hc=>zhp (zmj h.2.2.2) c (by omega)
  rw[z9t,kx]
  by_cases hc:e.1≤c∧c≤e.2.1
  · rw[zAz hc]
    simp only
    split
    · rw[kx,zAz hc]
    · exact hlo hc.2
  · rw[zAy hc]
    split
    · rw[kx,zAy hc];exact ih
    · exact ih
theorem zqt {lv:List Bool} {cl:List Int}:∀ {E:List (Edge Int)},(∀ e∈E,¬ lv.getD e.2.2.toNat false=true)→z9t lv cl E=[]
 | [],_=>rfl
 | e::E,h=>by rw[z9t,zAy (h e (by simp))];exact zqt fun e he=>h e (by simp[he])
structure z8g (t:Tbl):Prop where
 hd:t.P[0]? =some 0
 asc:t.P.Pairwise (· <·)
 rng:∀ z∈t.P,0≤z∧z≤1114111
 pos:0<t.F.length
 len:t.N.length=t.F.length
 row:∀ r∈t.N,r.length=t.P.length∧∀ n∈r,0≤n∧n<t.F.length
def Tbl.row (t:Tbl) (s:Nat):List Int:=t.N.getD s []
def Tbl.edg (t:Tbl) (s:Nat):List (Edge Int):=zfv t.P (t.row s)
def Tbl.acc (t:Tbl):List Int→Nat→Bool
 | [],s=>t.F.getD s false
 | c::w,s=>match kx (t.edg s) c with|none=>false|some n=>t.acc w n.toNat
theorem z8g.edg_ok {t:Tbl} (h:z8g t) (s:Nat):okE 0 (t.edg s):=zph h.asc h.rng
theorem z8g.row_in {t:Tbl} (h:z8g t) {s:Nat} {n:Int} (hn:n∈t.row s):0≤n∧n<t.F.length:=by
 rw[Tbl.row,List.getD] at hn
 cases hs:t.N[s]? with
 | none=>rw[hs] at hn;simp at hn
 | some r=>rw[hs] at hn;exact(h.row r (zA2 hs)).2 n hn
theorem z8g.kx_in {t:Tbl} (h:z8g t) {s:Nat} {c n:Int} (e:kx (t.edg s) c=some n):0≤n∧n<t.F.length:=by
 obtain⟨e,he,_,_,rfl⟩:=zp9 e
 exact h.row_in (zbe he).1
section
variable {t:Tbl} (h:z8g t) {cl:List Int} {lv:List Bool} {st:Int→Nat}
 (hc:∀ i k,i<t.F.length→k<t.F.length→(cl.getD i 0=cl.getD k 0↔∀ w,t.acc w i=t.acc w k))
 (hr:∀ i,i<t.F.length→0≤cl.getD i 0∧cl.getD i 0<t.F.length)
 (hl:∀ i,i<t.F.length→(lv.getD i false=true↔∃ w,t.acc w i=true))
 (hst:∀ i,i<t.F.length→st (cl.getD i 0)<t.F.length∧cl.getD (st (cl.getD i 0)) 0=cl.getD i 0)
include h hc hl hst
theorem z8s:∀ (w:List Int) (i:Nat),i<t.F.length→zdo (fun k=>t.F.getD (st k) false) (fun k=>z9t lv cl (t.edg (st k))) (some (cl.getD i 0)) w=t.acc w i
 | [],i,hi=>by
  obtain⟨s1,s2⟩:=hst i hi
  rw[zdo]
  exact(hc _ _ s1 hi).1 s2 []
 | c::w,i,hi=>by
  obtain⟨s1,s2⟩:=hst i hi
  rw[← (hc _ _ s1 hi).1 s2 (c::w),zdo,zr9 c (h.edg_ok _),Tbl.acc]
  cases hk:kx (t.edg (st (cl.getD i 0))) c with
  | none=>cases w <;> rfl
  | some n =>
   have hn:=h.kx_in hk
   simp only
   by_cases hv:lv.getD n.toNat false=true
   · rw[zAz hv]
     exact z8s w n.toNat (by omega)
   · rw[zAy hv]
     have:t.acc w n.toNat=false:=by
      cases hx:t.acc w n.toNat with
      | false=>rfl
      | true=>exact absurd ((hl n.toNat (by omega)).2 ⟨w,hx⟩) hv
     rw[this];cases w <;> rfl
include hr
theorem zqu:∃ m,exL (fun k=>t.F.getD (st k) false) (fun k=>z9t lv cl (t.edg (st k))) t.F.length (t.F.length+1) 0 [cl.getD 0 0] ⟨[],[]⟩=some m∧Nrm m∧AuW m∧m.F.length≤t.F.length∧∀ w,m.acc 0 w=t.acc w 0:=by
 have hpos:=h.pos
 have he:∀ k:Int,okE (K:=Int) 0 (z9t lv cl (t.edg (st k))):=fun k=>zmj (h.edg_ok _)
 by_cases h0:lv.getD 0 false=true
 · have hok0:∃ i,i<t.F.length∧cl.getD i 0=cl.getD 0 0∧lv.getD i false=true:=⟨0,hpos,rfl,h0⟩
   have hcc:∀ k:Int,(∃ i,i<t.F.length∧cl.getD i 0=k∧lv.getD i false=true)→∀ d k',kx (K:=Int) (z9t lv cl (t.edg (st k))) d=some k'→∃ i,i<t.F.length∧cl.getD i 0=k'∧lv.getD i false=true:=fun k hk d k' e=>by
    rw[zr9 d (h.edg_ok _)] at e
    cases hx:kx (t.edg (st k)) d with
    | none=>rw[hx] at e;cases e
    | some n =>
     rw[hx] at e
     simp only at e
     have hn:=h.kx_in hx
     split at e
     · rename_i hv
       simp only[zAh] at e
       exact⟨n.toNat,by omega,e,hv⟩
     · cases e
   have hfew:∀ l:List Int,l.Nodup→(∀ x∈l,∃ i,i<t.F.length∧cl.getD i 0=x∧lv.getD i false=true)→l.length≤t.F.length:=fun l h1 h2 =>
    z9d (n:=t.F.length) h1 fun x hx=>by obtain⟨i,q1,q2,q3⟩:=h2 x hx;have:=hr i q1;omega
   obtain⟨b,hb⟩:=z9c (fin:=fun k=>t.F.getD (st k) false) (lim:=t.F.length) (ok:=fun k:Int=>∃ i,i<t.F.length∧cl.getD i 0=k∧lv.getD i false=true) he hok0 hcc hfew (t.F.length+1) 0 _ _ (zyh _ _ _) (by omega)
   obtain⟨ks,hx⟩:=zgv he _ _ _ _ b (zyh _ _ _) hb
   have hks:∀ x∈ks,∃ i,i<t.F.length∧cl.getD i 0=x∧lv.getD i false=true:=fun x hxx=>by
    obtain⟨j,hj⟩:=zAw hxx
    exact zpr hx (ok:=fun k:Int=>∃ i,i<t.F.length∧cl.getD i 0=k∧lv.getD i false=true) hok0 hcc j x hj
   refine⟨b,hb,.inl (zxi hx (fun x hx y hy hw=>?_) fun x hx=>?_),y6c hx he,zm5 hx hok0 hcc hfew,fun w=>?_⟩
   · obtain⟨i,i1,i2,i3⟩:=hks x hx
     obtain⟨k,k1,k2,k3⟩:=hks y hy
     rw[← i2,← k2]
     refine(hc i k i1 k1).2 fun w=>?_
     have:=hw w
     rw[← i2,← k2,z8s h hc hl hst w i i1,z8s h hc hl hst w k k1] at this
     exact this
   · obtain⟨i,i1,i2,i3⟩:=hks x hx
     obtain⟨w,hw⟩:=(hl i i1).1 i3
     exact⟨w,by rw[← i2,z8s h hc hl hst w i i1];exact hw⟩
   · have:=zav hx w 0 _ hx.hd
     rw[z8s h hc hl hst w 0 hpos] at this
     exact this
 · obtain⟨s1,s2⟩:=hst 0 hpos
   have hd0:∀ w,t.acc w 0=false:=fun w=>by
    cases hx:t.acc w 0 with
    | false=>rfl
    | true=>exact absurd ((hl 0 hpos).2 ⟨w,hx⟩) h0
   have hds:∀ w,t.acc w (st (cl.getD 0 0))=false:=fun w=>by rw[(hc _ _ s1 hpos).1 s2 w];exact hd0 w
   have hnil:z9t lv cl (t.edg (st (cl.getD 0 0)))=[]:=zqt fun e he2 hv=>by
    have hn:=h.row_in (zbe he2).1
    obtain⟨w,hw⟩:=(hl e.2.2.toNat (by omega)).1 hv
    have:=hds (e.1::w)
    rw[Tbl.acc,y1m (h.edg_ok _) he2] at this
    simp only at this
    rw[hw] at this;cases this
   have hF:t.F.getD (st (cl.getD 0 0)) false=false:=hds []
   obtain⟨n,hn⟩:∃ n,t.F.length=n+1:=⟨t.F.length-1,by omega⟩
   refine⟨zcu,?_,.inr rfl,zq6,hpos,fun w=>by rw[z7p,hd0]⟩
   rw[hn,exL]
   simp only[List.getElem?_cons_zero]
   rw[hnil,List.foldl_nil,zAy (by simp),exL]
   simp only[List.nil_append]
   rw[hF]
   rfl
end
def zoh (p:Nat→Bool):Nat→Nat→Option Nat
 | 0,_=>none
 | m+1,k=>if p k=true then some k else zoh p m (k+1)
theorem zgf {p:Nat→Bool}:∀ {m k r:Nat},zoh p m k=some r→p r=true∧k≤r∧r<k+m
 | 0,k,r,h=>by rw[zoh] at h;cases h
 | m+1,k,r,h=>by
  rw[zoh] at h
  split at h
  · rename_i hp;cases h;exact⟨hp,by omega,by omega⟩
  · obtain⟨h1,h2,h3⟩:=zgf h;exact⟨h1,by omega,by omega⟩
theorem zg8 {p:Nat→Bool}:∀ {m k:Nat},zoh p m k=none→∀ r,k≤r→r<k+m→p r=false
 | 0,k,_,r,h1,h2=>by omega
 | m+1,k,h,r,h1,h2=>by
  rw[zoh] at h
  split at h
  · cases h
  · rename_i hp
    by_cases hr:r=k
    · rw[hr];simpa using hp
    · exact zg8 h r (by omega) (by omega)
def zjs (p:Nat→Bool):Nat→Nat→Bool
 | 0,_=>false
 | m+1,k=>p k||zjs p m (k+1)
theorem z9k {p:Nat→Bool}:∀ {m k:Nat},zjs p m k=true↔∃ r,k≤r∧r<k+m∧p r=true
 | 0,k=>by rw[zjs];exact⟨fun h=>(by cases h),fun ⟨r,h1,h2,_⟩=>by omega⟩
 | m+1,k=>by
  rw[zjs,zAu,z9k]
  constructor
  · rintro(h|⟨r,h1,h2,h3⟩)
    · exact⟨k,by omega,by omega,h⟩
    · exact⟨r,by omega,by omega,h3⟩
  · rintro⟨r,h1,h2,h3⟩
    by_cases hr:r=k
    · exact .inl (hr▸h3)
    · exact .inr ⟨r,by omega,by omega,h3⟩
abbrev cAt (c:List Int) (n:Int):Int:=c.getD n.toNat 0
def zud (c:List Int):List Int→List Int→Bool
 | a::r,b::s=>decide (cAt c a=cAt c b)&&zud c r s
 | _,_=>true
theorem zmc {c:List Int}:∀ {r s:List Int},r.length=s.length→(zud c r s=true↔r.map (cAt c)=s.map (cAt c))
 | [],[],_=>by simp[zud]
 | a::r,[],h=>by simp at h
 | [],b::s,h=>by simp at h
 | a::r,b::s,h=>by
  rw[zud,zA7,zA3,zmc (by simpa using h),List.map_cons,List.map_cons,List.cons.injEq]
def Tbl.alk (t:Tbl) (c:List Int) (i k:Nat):Bool:=decide (c.getD i 0=c.getD k 0)&&zud c (t.row i) (t.row k)
def Tbl.dOne (t:Tbl) (c:List Int) (s:List Int × Int) (i:Nat):List Int × Int:=match zoh (t.alk c i) i 0 with
 | some k=>(s.1++[s.1.getD k 0],s.2)
 | none=>(s.1++[s.2],s.2+1)
def Tbl.dAll (t:Tbl) (c:List Int):Nat→Nat→List Int × Int→List Int × Int
 | 0,_,s=>s
 | m+1,i,s=>t.dAll c m (i+1) (t.dOne c s i)
def y1g (c d:List Int) (i k:Nat):Bool:=decide (c.getD i 0=c.getD k 0)&&decide (d.getD i 0≠d.getD k 0)
def spl (c d:List Int) (n:Nat):Bool:=zjs (fun i=>zjs (y1g c d i) i 0) n 0
def Tbl.clsT (t:Tbl):Nat→List Int→Option (List Int)
 | 0,_=>none
 | f+1,c=>if spl c (t.dAll c t.F.length 0 ([],0)).1 t.F.length=true then t.clsT f (t.dAll c t.F.length 0 ([],0)).1 else some (t.dAll c t.F.length 0 ([],0)).1
def Tbl.c0 (t:Tbl):List Int:=t.F.map fun b=>if b=true then 1 else 0
theorem z8g.z3m {t:Tbl} (h:z8g t) {i:Nat} (hi:i<t.F.length):(t.row i).length=t.P.length:=by
 obtain⟨r,hr⟩:∃ r,t.N[i]? =some r:=⟨_,zA0 (by rw[h.len];exact hi)⟩
 rw[Tbl.row,List.getD,hr];exact(h.row r (zA2 hr)).1
theorem z8g.alk_iff {t:Tbl} (h:z8g t) {c:List Int} {i k:Nat} (hi:i<t.F.length) (hk:k<t.F.length):t.alk c i k=true↔c.getD i 0=c.getD k 0∧(t.row i).map (cAt c)=(t.row k).map (cAt c):=by
 rw[Tbl.alk,zA7,zA3,zmc (by rw[h.z3m hi,h.z3m hk])]
structure DS (t:Tbl) (c:List Int) (q:Nat) (s:List Int × Int):Prop where
 len:s.1.length=q
 cnt:0≤s.2∧s.2≤q
 rng:∀ i,i<q→0≤s.1.getD i 0∧s.1.getD i 0<s.2
 eqv:∀ i k,i<q→k<q→(s.1.getD i 0=s.1.getD k 0↔t.alk c i k=true)
theorem ziy {l:List Int} {x:Int} {i:Nat} (h:i<l.length):(l++[x]).getD i 0=l.getD i 0:=by
 rw[List.getD,List.getD,zAb h]
theorem zk1 {l:List Int} {x:Int}:(l++[x]).getD l.length 0=x:=by
 rw[List.getD,zAg (zAj _)];simp
theorem DS.step {t:Tbl} (h:z8g t) {c:List Int} {q:Nat} {s:List Int × Int} (hs:DS t c q s) (hq:q<t.F.length):DS t c (q+1) (t.dOne c s q):=by
 obtain⟨l,m⟩:=s
 obtain⟨h1,h2,h3,h4⟩:=hs
 simp only at h1 h2 h3 h4
 have key:∀ (v:Int) (m':Int),m≤m'→m'≤(q:Int)+1→0≤v→v<m'→(∀ i,i<q→(l.getD i 0=v↔t.alk c i q=true))→DS t c (q+1) (l++[v],m'):=fun v m' m1 m2 v0 v1 hv=>by
  have hg:∀ i,i<q→(l++[v]).getD i 0=l.getD i 0:=fun i hi=>ziy (by omega)
  have hgq:(l++[v]).getD q 0=v:=by rw[← h1];exact zk1
  have hsy:∀ i,i<q→(t.alk c q i=true↔t.alk c i q=true):=fun i hi=>by
   rw[h.alk_iff hq (by omega),h.alk_iff (by omega) hq]
   exact⟨fun h=>⟨h.1.symm,h.2.symm⟩,fun h=>⟨h.1.symm,h.2.symm⟩⟩
  refine⟨by simp[h1],by simp only;omega,fun i hi=>?_,fun i k hi hk=>?_⟩
  · simp only
    by_cases hiq:i=q
    · rw[hiq,hgq];exact⟨v0,v1⟩
    · rw[hg i (by omega)];have:=h3 i (by omega);omega
  · simp only
    by_cases hiq:i=q
    · by_cases hkq:k=q
      · rw[hiq,hkq,h.alk_iff hq hq];exact⟨fun _=>⟨rfl,rfl⟩,fun _=>rfl⟩
      · rw[hiq,hgq,hg k (by omega),hsy k (by omega),← hv k (by omega)];exact eq_comm
    · by_cases hkq:k=q
      · rw[hkq,hgq,hg i (by omega)];exact hv i (by omega)
      · rw[hg i (by omega),hg k (by omega)];exact h4 i k (by omega) (by omega)
 rw[Tbl.dOne]
 cases hf:zoh (t.alk c q) q 0 with
 | some k =>
  obtain⟨k1,k2,k3⟩:=zgf hf
  have hk:=h3 k (by omega)
  refine key _ m (Int.le_refl _) (by omega) hk.1 hk.2 fun i hi=>?_
  rw[h4 i k hi (by omega),h.alk_iff (by omega) (by omega),h.alk_iff (by omega) hq]
  rw[h.alk_iff hq (by omega)] at k1
  exact⟨fun g=>⟨g.1.trans k1.1.symm,g.2.trans k1.2.symm⟩,fun g=>⟨g.1.trans k1.1,g.2.trans k1.2⟩⟩
 | none =>
  have hn:=zg8 hf
  refine key m (m+1) (by omega) (by omega) h2.1 (by omega) fun i hi=>⟨fun e=>?_,fun e=>?_⟩
  · have:=h3 i hi;omega
  · have:=hn i (by omega) (by omega)
    rw[h.alk_iff (by omega) hq] at e
    rw[(h.alk_iff hq (by omega)).2 ⟨e.1.symm,e.2.symm⟩] at this
    cases this
theorem zil {t:Tbl} (h:z8g t) (c:List Int):∀ (m i:Nat) (s:List Int × Int),i+m=t.F.length→DS t c i s→DS t c t.F.length (t.dAll c m i s)
 | 0,i,s,hi,hs=>by rw[Tbl.dAll,← show i=t.F.length by omega];exact hs
 | m+1,i,s,hi,hs=>by rw[Tbl.dAll];exact zil h c m (i+1) _ (by omega) (hs.step h (by omega))
structure CI (t:Tbl) (c:List Int):Prop where
 len:c.length=t.F.length
 rng:∀ i,i<t.F.length→0≤c.getD i 0∧c.getD i 0≤t.F.length
 fin_:∀ i k,i<t.F.length→k<t.F.length→c.getD i 0=c.getD k 0→t.F.getD i false=t.F.getD k false
 lang:∀ i k,i<t.F.length→k<t.F.length→(∀ w,t.acc w i=t.acc w k)→c.getD i 0=c.getD k 0
theorem y87 {t:Tbl} (h:z8g t):CI t t.c0:=by
 have hg:∀ i,i<t.F.length→t.c0.getD i 0=if t.F.getD i false=true then 1 else 0:=fun i hi=>by
  obtain⟨b,hb⟩:∃ b,t.F[i]? =some b:=⟨_,zA0 hi⟩
  rw[Tbl.c0,List.getD,zAd,hb,List.getD,hb];rfl
 have hp:=h.pos
 refine⟨by simp[Tbl.c0],fun i hi=>by rw[hg i hi];split <;> omega,fun i k hi hk e=>?_,fun i k hi hk hw=>?_⟩
 · rw[hg i hi,hg k hk] at e
   cases h1:t.F.getD i false <;> cases h2:t.F.getD k false <;> rw[h1,h2] at e <;> first|rfl|(exfalso;revert e;decide)
 · have:=hw []
   rw[Tbl.acc,Tbl.acc] at this
   rw[hg i hi,hg k hk,this]
theorem zcv {t:Tbl} (h:z8g t) {i x:Nat} {n p:Int} (hp:t.P[x]? =some p) (hn:(t.row i)[x]? =some n) (w:List Int):t.acc (p::w) i=t.acc w n.toNat:=by
 obtain⟨e,he,e1,e2⟩:=zmp hp hn
 have:=y1m (h.edg_ok i) (e:=e) he
 rw[e1,e2] at this
 rw[Tbl.acc,this]
theorem y9g {t:Tbl} (h:z8g t) {c:List Int} (hc:CI t c):CI t (t.dAll c t.F.length 0 ([],0)).1∧(∀ i,i<t.F.length→(t.dAll c t.F.length 0 ([],0)).1.getD i 0<t.F.length)∧∀ i k,i<t.F.length→k<t.F.length→((t.dAll c t.F.length 0 ([],0)).1.getD i 0=(t.dAll c t.F.length 0 ([],0)).1.getD k 0↔c.getD i 0=c.getD k 0∧(t.row i).map (cAt c)=(t.row k).map (cAt c)):=by
 have hd:=zil h c t.F.length 0 ([],0) (by omega) ⟨rfl,by simp,fun i hi=>by omega,fun i k hi=>by omega⟩
 generalize t.dAll c t.F.length 0 ([],0)=s at *
 have he:∀ i k,i<t.F.length→k<t.F.length→(s.1.getD i 0=s.1.getD k 0↔c.getD i 0=c.getD k 0∧(t.row i).map (cAt c)=(t.row k).map (cAt c)):=fun i k hi hk=>by rw[hd.eqv i k hi hk,h.alk_iff hi hk]
 refine⟨⟨hd.len,fun i hi=>by have:=hd.rng i hi;have:=hd.cnt;omega,fun i k hi hk e=>hc.fin_ i k hi hk ((he i k hi hk).1 e).1,fun i k hi hk hw=>(he i k hi hk).2 ⟨hc.lang i k hi hk hw,?_⟩⟩,fun i hi=>by have:=hd.rng i hi;have:=hd.cnt;omega,he⟩
 refine List.ext_getElem? fun x=>?_
 have hli:=h.z3m hi
 have hlk:=h.z3m hk
 rw[zAd,zAd]
 by_cases hx:x<t.P.length
 · obtain⟨p,hp⟩:∃ p,t.P[x]? =some p:=⟨_,zA0 hx⟩
   obtain⟨n,hn⟩:∃ n,(t.row i)[x]? =some n:=⟨_,zA0 (by omega)⟩
   obtain⟨m,hm⟩:∃ m,(t.row k)[x]? =some m:=⟨_,zA0 (by omega)⟩
   have n1:=h.row_in (zA2 hn)
   have m1:=h.row_in (zA2 hm)
   rw[hn,hm,Option.map_some,Option.map_some,zAh]
   refine hc.lang n.toNat m.toNat (by omega) (by omega) fun w=>?_
   have:=hw (p::w)
   rw[zcv h hp hn,zcv h hp hm] at this
   exact this
 · rw[zAv (by omega),zAv (by omega)]
def y4a (t:Tbl) (c:List Int) (m:Nat):Prop:=∃ L:List Nat,(∀ i∈L,i<t.F.length)∧(L.map fun i=>c.getD i 0).Nodup∧L.length=m
theorem zf6 {L:List Nat} {f:Nat→Int} (h:(L.map f).Nodup):L.Nodup:=by
 induction L with
 | nil=>exact List.nodup_nil
 | cons a L ih =>
  rw[List.map_cons,List.nodup_cons] at h
  exact List.nodup_cons.2 ⟨fun hm=>h.1 (List.mem_map_of_mem hm),ih h.2⟩
theorem y14 {t:Tbl} {c:List Int} {m:Nat} (h:y4a t c m):m≤t.F.length:=by
 obtain⟨L,h1,h2,rfl⟩:=h
 have:=z5u (l:=L) (m:=List.range t.F.length) (zf6 h2) fun x hx=>List.mem_range.2 (h1 x hx)
 simpa using this
theorem znb {L:List Nat} {f g:Nat→Int} (h:(L.map f).Nodup) (hfg:∀ i∈L,∀ k∈L,g i=g k→f i=f k):(L.map g).Nodup:=by
 induction L with
 | nil=>exact List.nodup_nil
 | cons a L ih =>
  rw[List.map_cons,List.nodup_cons] at h ⊢
  refine⟨fun hm=>?_,ih h.2 fun i hi k hk=>hfg i (by simp[hi]) k (by simp[hk])⟩
  obtain⟨b,hb,e⟩:=List.mem_map.1 hm
  exact h.1 (List.mem_map.2 ⟨b,hb,hfg b (by simp[hb]) a (by simp) e⟩)
theorem znz {t:Tbl} {c d:List Int} {m:Nat} (h:y4a t c m) (hcd:∀ i k,i<t.F.length→k<t.F.length→d.getD i 0=d.getD k 0→c.getD i 0=c.getD k 0) {i k:Nat} (hi:i<t.F.length) (hk:k<t.F.length)
 (e1:c.getD i 0=c.getD k 0) (e2:d.getD i 0≠d.getD k 0):y4a t d (m+1):=by
 obtain⟨L,h1,h2,rfl⟩:=h
 have hd:=znb (g:=fun i=>d.getD i 0) h2 fun a ha b hb e=>hcd a b (h1 a ha) (h1 b hb) e
 have key:∀ j,j<t.F.length→(∀ r∈L,d.getD r 0≠d.getD j 0)→y4a t d (L.length+1):=fun j hj hr =>
  ⟨j::L,fun i hi=>by rcases zAc.1 hi with rfl|hi;exact hj;exact h1 i hi,by
    rw[List.map_cons,List.nodup_cons]
    refine⟨fun hm=>?_,hd⟩
    obtain⟨b,hb,e⟩:=List.mem_map.1 hm
    exact hr b hb e,rfl⟩
 by_cases hex:∃ r∈L,d.getD r 0=d.getD i 0
 · obtain⟨r,hr,er⟩:=hex
   refine key k hk fun r' hr' er'=>?_
   have c1:=hcd r i (h1 r hr) hi er
   have c2:=hcd r' k (h1 r' hr') hk er'
   have:r=r':=by
    obtain⟨x,hx⟩:=zAw hr
    obtain⟨y,hy⟩:=zAw hr'
    obtain⟨x1,x2⟩:=zA1.1 hx
    obtain⟨y1,y2⟩:=zA1.1 hy
    have hxy:x=y:=by
     rcases Nat.lt_trichotomy x y with hlt|hlt|hlt
     · exact absurd (by rw[List.getElem_map,List.getElem_map,x2,y2];first|rw[c1,c2,e1]|rw[c2,c1,e1]) (List.pairwise_iff_getElem.1 h2 x y (by simpa using x1) (by simpa using y1) hlt)
     · exact hlt
     · exact absurd (by rw[List.getElem_map,List.getElem_map,x2,y2];first|rw[c1,c2,e1]|rw[c2,c1,e1]) (List.pairwise_iff_getElem.1 h2 y x (by simpa using y1) (by simpa using x1) hlt)
    subst hxy;rw[hx] at hy;exact Option.some.inj hy
   rw[this] at er
   exact e2 (er.symm.trans er')
 · exact key i hi fun r hr e=>hex ⟨r,hr,e⟩
theorem zhe {t:Tbl} (h:z8g t):∀ (f m:Nat) (c:List Int),CI t c→y4a t c m→t.F.length<f+m→∃ r,t.clsT f c=some r∧CI t r∧(∀ i,i<t.F.length→r.getD i 0<t.F.length)∧∀ i k,i<t.F.length→k<t.F.length→r.getD i 0=r.getD k 0→(t.row i).map (cAt r)=(t.row k).map (cAt r)
 | 0,m,c,hc,hm,hf=>by have:=y14 hm;omega
 | f+1,m,c,hc,hm,hf=>by
  obtain⟨d1,d3,d2⟩:=y9g h hc
  rw[Tbl.clsT]
  generalize (t.dAll c t.F.length 0 ([],0)).1=d at *
  by_cases hs:spl c d t.F.length=true
  · rw[zAz hs]
    rw[spl,z9k] at hs
    obtain⟨i,_,hi,hs⟩:=hs
    rw[z9k] at hs
    obtain⟨k,_,hk,hs⟩:=hs
    rw[y1g,zA7,zA3,zA3] at hs
    exact zhe h f (m+1) d d1 (znz hm (fun i k hi hk e=>((d2 i k hi hk).1 e).1) (by omega) (by omega) hs.1 hs.2) (by omega)
  · rw[zAy hs]
    refine⟨d,rfl,d1,d3,fun i k hi hk e=>?_⟩
    have hcd:∀ i k,i<t.F.length→k<t.F.length→c.getD i 0=c.getD k 0→d.getD i 0=d.getD k 0:=fun i k hi hk e=>by
     have hn:∀ i k,i<t.F.length→k<i→c.getD i 0=c.getD k 0→d.getD i 0=d.getD k 0:=fun i k hi hk e=>by
      refine Decidable.byContradiction fun hne=>hs ?_
      rw[spl,z9k]
      exact⟨i,by omega,by omega,z9k.2 ⟨k,by omega,by omega,by rw[y1g,zAi e,zAi hne];rfl⟩⟩
     rcases Nat.lt_trichotomy i k with hlt|rfl|hlt
     · exact(hn k i hk hlt e.symm).symm
     · rfl
     · exact hn i k hi hlt e
    have e2:=((d2 i k hi hk).1 e).2
    refine List.ext_getElem? fun x=>?_
    have e3:=congrArg (fun l=>l[x]?) e2
    simp only[zAd] at e3 ⊢
    cases hx:(t.row i)[x]? with
    | none=>rw[hx] at e3;cases hy:(t.row k)[x]? with
     | none=>rfl
     | some m=>rw[hy] at e3;cases e3
    | some n=>rw[hx] at e3;cases hy:(t.row k)[x]? with
     | none=>rw[hy] at e3;cases e3
     | some m =>
      rw[hy] at e3
      simp only[Option.map_some,zAh] at e3 ⊢
      have n1:=h.row_in (zA2 hx)
      have m1:=h.row_in (zA2 hy)
      exact hcd n.toNat m.toNat (by omega) (by omega) e3
theorem ze8 {t:Tbl} (h:z8g t) {r:List Int} (hr:CI t r) (hst:∀ i k,i<t.F.length→k<t.F.length→r.getD i 0=r.getD k 0→(t.row i).map (cAt r)=(t.row k).map (cAt r)) :
 ∀ (w:List Int) (i k:Nat),i<t.F.length→k<t.F.length→r.getD i 0=r.getD k 0→t.acc w i=t.acc w k
 | [],i,k,hi,hk,e=>hr.fin_ i k hi hk e
 | c::w,i,k,hi,hk,e=>by
  have hli:=h.z3m hi
  have hlk:=h.z3m hk
  rw[Tbl.acc,Tbl.acc]
  have hrn:∀ j,j<t.F.length→kx (t.edg j) c=none→c<0∨1114111<c:=fun j hj hx=>by
   refine Decidable.byContradiction fun hn=>?_
   exact z6v h.hd (h.z3m hj).symm (by omega) (by omega) hx
  have hrs:∀ j n,kx (t.edg j) c=some n→0≤c∧c≤1114111:=fun j n hx=>by
   obtain⟨h1,x,p,h2,_,h3,_⟩:=zcy h.asc (fun z hz=>(h.rng z hz).2) hx
   have:=h.rng p (zA2 h2)
   omega
  cases hx:kx (t.edg i) c with
  | none=>cases hy:kx (t.edg k) c with
   | none=>rfl
   | some m=>have:=hrn i hi hx;have:=hrs k m hy;omega
  | some n=>cases hy:kx (t.edg k) c with
   | none=>have:=hrn k hk hy;have:=hrs i n hx;omega
   | some m =>
    simp only
    obtain⟨_,x,p,x1,x2,x3,x4⟩:=zcy h.asc (fun z hz=>(h.rng z hz).2) hx
    obtain⟨_,y,q,y1,y2,y3,y4⟩:=zcy h.asc (fun z hz=>(h.rng z hz).2) hy
    have hpq:p=q:=by
     have:=x4 q (zA2 y1) y3
     have:=y4 p (zA2 x1) x3
     omega
    have hxy:x=y:=by
     obtain⟨a1,a2⟩:=zA1.1 x1
     obtain⟨b1,b2⟩:=zA1.1 y1
     rcases Nat.lt_trichotomy x y with hlt|hlt|hlt
     · have:=List.pairwise_iff_getElem.1 h.asc x y a1 b1 hlt;omega
     · exact hlt
     · have:=List.pairwise_iff_getElem.1 h.asc y x b1 a1 hlt;omega
    subst hxy
    have n1:=h.kx_in hx
    have m1:=h.kx_in hy
    have e3:=congrArg (fun l=>l[x]?) (hst i k hi hk e)
    simp only[zAd,x2,y2,Option.map_some,zAh] at e3
    exact ze8 h hr hst w n.toNat m.toNat (by omega) (by omega) e3
theorem zue {t:Tbl} (h:z8g t):∃ cl,t.clsT (t.F.length+1) t.c0=some cl∧CI t cl∧(∀ i,i<t.F.length→0≤cl.getD i 0∧cl.getD i 0<t.F.length)∧∀ i k,i<t.F.length→k<t.F.length→(cl.getD i 0=cl.getD k 0↔∀ w,t.acc w i=t.acc w k):=by
 obtain⟨r,h1,h2,h4,h3⟩:=zhe h (t.F.length+1) 0 t.c0 (y87 h) ⟨[],by simp,List.nodup_nil,rfl⟩ (by omega)
 exact⟨r,h1,h2,fun i hi=>⟨(h2.rng i hi).1,h4 i hi⟩,fun i k hi hk=>⟨fun e w=>ze8 h h2 h3 w i k hi hk e,h2.lang i k hi hk⟩⟩
def leB:List Bool→List Bool→Prop
 | [],[]=>True
 | a::l,b::m=>(a=true→b=true)∧leB l m
 | _,_=>False
theorem zch:∀ l:List Bool,leB l l
 | []=>trivial
 | a::l=>⟨id,zch l⟩
theorem z9g:∀ {l m k:List Bool},leB l m→leB m k→leB l k
 | [],[],[],_,_=>trivial
 | [],[],_::_,_,h=>h.elim
 | [],_::_,_,h,_=>h.elim
 | _::_,[],_,h,_=>h.elim
 | _::_,_::_,[],_,h=>h.elim
 | a::l,b::m,c::k,h,g=>⟨fun x=>g.1 (h.1 x),z9g h.2 g.2⟩
theorem zi9:∀ {l m:List Bool},leB l m→l.length=m.length
 | [],[],_=>rfl
 | [],_::_,h=>h.elim
 | _::_,[],h=>h.elim
 | a::l,b::m,h=>by rw[zAk,zAk,zi9 h.2]
theorem zy9:∀ {l m:List Bool},leB l m→∀ i,l.getD i false=true→m.getD i false=true
 | [],[],_,i,h=>h
 | [],_::_,h,_,_=>h.elim
 | _::_,[],h,_,_=>h.elim
 | a::l,b::m,h,0,g=>h.1 g
 | a::l,b::m,h,i+1,g=>by
  rw[List.getD_cons_succ] at g ⊢
  exact zy9 h.2 i g
def ztf:List Bool→Nat
 | []=>0
 | a::l=>(if a=true then 1 else 0)+ztf l
theorem zx3:∀ l:List Bool,ztf l≤l.length
 | []=>zAj _
 | a::l=>by rw[ztf,zAk];have:=zx3 l;split <;> omega
theorem zcs:∀ {l m:List Bool},leB l m→ztf l≤ztf m∧(ztf m≤ztf l→l=m)
 | [],[],_=>⟨zAj _,fun _=>rfl⟩
 | [],_::_,h=>h.elim
 | _::_,[],h=>h.elim
 | a::l,b::m,h=>by
  obtain⟨h1,h2⟩:=zcs h.2
  rw[ztf,ztf]
  have h3:=h.1
  cases a <;> cases b <;> simp at h3 ⊢
  · exact⟨h1,h2⟩
  · exact⟨by omega,by omega⟩
  · exact⟨h1,fun g=>h2 (by omega)⟩
theorem zj3:∀ (l:List Bool) (i:Nat) (b:Bool),leB l (l.set i (l.getD i false||b))
 | [],i,b=>by cases i <;> trivial
 | a::l,0,b=>⟨fun h=>by simp[h],zch l⟩
 | a::l,i+1,b=>by rw[List.set_cons_succ,List.getD_cons_succ];exact⟨id,zj3 l i b⟩
def lvS (i:Nat) (l:List Bool) (n:Int):List Bool:=l.set i (l.getD i false||l.getD n.toNat false)
def Tbl.lvRow (t:Tbl) (l:List Bool) (i:Nat):List Bool:=(t.row i).foldl (lvS i) l
def Tbl.lvRnd (t:Tbl):Nat→Nat→List Bool→List Bool
 | 0,_,l=>l
 | m+1,i,l=>t.lvRnd m (i+1) (t.lvRow l i)
def Tbl.lvT (t:Tbl):Nat→List Bool→List Bool
 | 0,l=>l
 | m+1,l=>t.lvT m (t.lvRnd t.F.length 0 l)
theorem zmf (i:Nat):∀ (r:List Int) (l:List Bool),leB l (r.foldl (lvS i) l)
 | [],l=>zch l
 | n::r,l=>by rw[List.foldl_cons];exact z9g (zj3 l i _) (zmf i r _)
theorem z9s (t:Tbl):∀ (m i:Nat) (l:List Bool),leB l (t.lvRnd m i l)
 | 0,i,l=>zch l
 | m+1,i,l=>by rw[Tbl.lvRnd];exact z9g (zmf i _ l) (z9s t m (i+1) _)
theorem zxf {l m:List Bool} (h:leB l m) (g:leB m l):l=m:=(zcs h).2 (zcs g).1
theorem zoy (i:Nat):∀ (r:List Int) (l:List Bool),i<l.length→r.foldl (lvS i) l=l→∀ n∈r,l.getD n.toNat false=true→l.getD i false=true
 | [],l,_,_,n,hn,_=>by cases hn
 | m::r,l,hi,h,n,hn,hv=>by
  rw[List.foldl_cons] at h
  have h1:lvS i l m=l:=(zxf (zj3 l i _) (by have:=zmf i r (lvS i l m);rw[h] at this;exact this)).symm
  rw[h1] at h
  rcases zAc.1 hn with rfl|hn
  · have:=congrArg (fun x=>x.getD i false) h1
    rw[lvS] at this
    simp only[List.getD,zAp hi,Option.getD_some] at this
    rw[List.getD] at hv ⊢
    rw[hv,Bool.or_true] at this
    exact this.symm
  · exact zoy i r l hi h n hn hv
theorem zgl (t:Tbl):∀ (m i:Nat) (l:List Bool),t.lvRnd m i l=l→∀ k,i≤k→k<i+m→t.lvRow l k=l
 | 0,i,l,_,k,h1,h2=>by omega
 | m+1,i,l,h,k,h1,h2=>by
  rw[Tbl.lvRnd] at h
  have e:t.lvRow l i=l:=(zxf (zmf i _ l) (by have:=z9s t m (i+1) (t.lvRow l i);rw[h] at this;exact this)).symm
  rw[e] at h
  by_cases hk:k=i
  · rw[hk];exact e
  · exact zgl t m (i+1) l h k (by omega) (by omega)
theorem ziz (t:Tbl):∀ (m r:Nat) (l:List Bool),l.length=t.F.length→(t.lvRnd t.F.length 0 l=l∨r≤ztf l)→t.F.length≤m+r→t.lvRnd t.F.length 0 (t.lvT m l)=t.lvT m l
 | 0,r,l,hl,h,hm=>by
  rw[Tbl.lvT]
  rcases h with h|h
  · exact h
  · have h1:=z9s t t.F.length 0 l
    have h2:=zx3 (t.lvRnd t.F.length 0 l)
    have h3:=zi9 h1
    exact((zcs h1).2 (by omega)).symm
 | m+1,r,l,hl,h,hm=>by
  rw[Tbl.lvT]
  have h1:=z9s t t.F.length 0 l
  have h3:=zi9 h1
  by_cases e:t.lvRnd t.F.length 0 l=l
  · rw[e];exact ziz t m t.F.length l hl (.inl e) (by omega)
  · refine ziz t m (r+1) _ (by omega) (.inr ?_) (by omega)
    rcases h with h|h
    · exact absurd h e
    · have:=zcs h1
      refine Decidable.byContradiction fun hn=>e (this.2 (by omega)).symm
theorem zy6 (t:Tbl):∀ (m:Nat) (l:List Bool),leB l (t.lvT m l)
 | 0,l=>zch l
 | m+1,l=>by rw[Tbl.lvT];exact z9g (z9s t _ 0 l) (zy6 t m _)
def Snd (t:Tbl) (l:List Bool):Prop:=l.length=t.F.length∧∀ q,q<t.F.length→l.getD q false=true→∃ w,t.acc w q=true
theorem y0z {t:Tbl} (h:z8g t) {i:Nat} (hi:i<t.F.length) {n:Int} (hn:n∈t.row i) {w:List Int} (hw:t.acc w n.toNat=true):∃ w,t.acc w i=true:=by
 obtain⟨x,hx⟩:=zAw hn
 have hx1:=(zA1.1 hx).1
 rw[h.z3m hi] at hx1
 exact⟨t.P[x]::w,by rw[zcv h (zA0 hx1) hx];exact hw⟩
theorem y37 {t:Tbl} (h:z8g t) {i:Nat} (hi:i<t.F.length):∀ (r:List Int) (l:List Bool),(∀ n∈r,n∈t.row i)→Snd t l→Snd t (r.foldl (lvS i) l)
 | [],l,_,hs=>hs
 | n::r,l,hr,hs=>by
  rw[List.foldl_cons]
  refine y37 h hi r _ (fun m hm=>hr m (by simp[hm])) ⟨by rw[lvS,List.length_set];exact hs.1,fun q hq hv=>?_⟩
  rw[lvS,List.getD,List.getElem?_set] at hv
  split at hv
  · rename_i e
    subst e
    rw[zAz (by rw[hs.1];exact hi),Option.getD_some,zAu] at hv
    rcases hv with hv|hv
    · exact hs.2 i hi hv
    · have hn:=h.row_in (hr n (by simp))
      obtain⟨w,hw⟩:=hs.2 n.toNat (by omega) hv
      exact y0z h hi (hr n (by simp)) hw
  · exact hs.2 q hq hv
theorem zsu {t:Tbl} (h:z8g t):∀ (m i:Nat) (l:List Bool),i+m≤t.F.length→Snd t l→Snd t (t.lvRnd m i l)
 | 0,i,l,_,hs=>hs
 | m+1,i,l,hi,hs=>by rw[Tbl.lvRnd];exact zsu h m (i+1) _ (by omega) (y37 h (by omega) _ l (fun _ h=>h) hs)
theorem y5w {t:Tbl} (h:z8g t):∀ (m:Nat) (l:List Bool),Snd t l→Snd t (t.lvT m l)
 | 0,l,hs=>hs
 | m+1,l,hs=>by rw[Tbl.lvT];exact y5w h m _ (zsu h _ 0 l (by omega) hs)
def Tbl.live (t:Tbl):List Bool:=t.lvT t.F.length t.F
theorem zhg {t:Tbl} (h:z8g t):t.live.length=t.F.length∧∀ i,i<t.F.length→(t.live.getD i false=true↔∃ w,t.acc w i=true):=by
 have hs:=y5w h t.F.length t.F ⟨rfl,fun q hq hv=>⟨[],hv⟩⟩
 have hf:=ziz t t.F.length 0 t.F rfl (.inr (zAf _)) (by omega)
 have hle:=zy6 t t.F.length t.F
 rw[Tbl.live]
 generalize t.lvT t.F.length t.F=l at *
 refine⟨hs.1,fun i hi=>⟨hs.2 i hi,fun ⟨w,hw⟩=>?_⟩⟩
 induction w generalizing i with
 | nil=>exact zy9 hle i hw
 | cons c w ih =>
  rw[Tbl.acc] at hw
  cases hk:kx (t.edg i) c with
  | none=>rw[hk] at hw;cases hw
  | some n =>
   rw[hk] at hw
   have hn:=h.kx_in hk
   obtain⟨e,he,_,_,rfl⟩:=zp9 hk
   exact zoy i (t.row i) l (by rw[hs.1];exact hi) (zgl t _ 0 l hf i (by omega) (by omega)) e.2.2 (zbe he).1 (ih e.2.2.toNat (by omega) ⟨w,hw⟩ hw)
def zfb (l:List Int) (c:Int):Nat→Nat
 | 0=>0
 | k+1=>if c<l.getD k 0 then zfb l c k else k+1
def ptI (l:List Int) (c:Int):List Int :=
 if 1114111<c∨(0<zfb l c l.length∧l.getD (zfb l c l.length-1) 0=c) then l else l.take (zfb l c l.length)++[c]++l.drop (zfb l c l.length)
def ptR (l:List Int) (r:Int × Int):List Int:=ptI (ptI l r.1) (r.2+1)
def z8b (L:List (List (Int × Int))):List Int:=L.foldl (fun l r=>r.foldl ptR l) [0]
theorem zr7 (l:List Int) (c:Int):∀ k,zfb l c k≤k
 | 0=>zAj _
 | k+1=>by rw[zfb];split;have:=zr7 l c k;omega;omega
theorem zio (l:List Int) (c:Int):∀ k i,zfb l c k≤i→i<k→c<l.getD i 0
 | 0,i,_,h=>by omega
 | k+1,i,h1,h2=>by
  rw[zfb] at h1
  split at h1
  · rename_i hc
    by_cases hi:i=k
    · rw[hi];exact hc
    · exact zio l c k i h1 (by omega)
  · omega
theorem zre (l:List Int) (c:Int):∀ k,0<zfb l c k→l.getD (zfb l c k-1) 0≤c
 | 0,h=>by rw[zfb] at h;omega
 | k+1,h=>by
  rw[zfb] at h ⊢
  split
  · rename_i hc;rw[zAz hc] at h;exact zre l c k h
  · rename_i hc;simp only[Nat.add_sub_cancel];omega
theorem zj7 (l:List Int) (c:Int):(ptI l c).length≤l.length+1:=by
 rw[ptI]
 split
 · omega
 · simp[zAm,List.length_drop];omega
theorem zsn (l:List Int) (r:Int × Int):(ptR l r).length≤l.length+2:=by
 have h1:=zj7 l r.1
 have h2:=zj7 (ptI l r.1) (r.2+1)
 rw[ptR];omega
structure Pts (l:List Int):Prop where
 hd:l[0]? =some 0
 asc:l.Pairwise (· <·)
 rng:∀ z∈l,0≤z∧z≤1114111
theorem Pts.get {l:List Int} (h:Pts l) {i j:Nat} (hi:i<l.length) (hj:j<l.length) (hij:i≤j):l.getD i 0≤l.getD j 0:=by
 rw[List.getD,List.getD,zA0 hi,zA0 hj,Option.getD_some,Option.getD_some]
 rcases Nat.lt_or_eq_of_le hij with hlt|rfl
 · have:=List.pairwise_iff_getElem.1 h.asc i j hi hj hlt;omega
 · omega
theorem Pts.ins {l:List Int} (h:Pts l) {c:Int} (hc:0≤c):Pts (ptI l c)∧∀ x,x∈ptI l c↔x∈l∨(x=c∧c≤1114111):=by
 have hlp:0<l.length:=(zA1.1 h.hd).1
 have hk:=zr7 l c l.length
 have h0:0<zfb l c l.length:=by
  refine Decidable.byContradiction fun hn=>?_
  have:=zio l c l.length 0 (by omega) hlp
  rw[List.getD,h.hd] at this
  simp only[Option.getD_some] at this;omega
 have hat:=zre l c l.length h0
 have hge:=zio l c l.length
 rw[ptI]
 generalize zfb l c l.length=k at *
 have hmem:l.getD (k-1) 0∈l:=by rw[List.getD,zA0 (by omega)];exact List.getElem_mem _
 by_cases hb:1114111<c∨(0<k∧l.getD (k-1) 0=c)
 · rw[zAz hb]
   refine⟨h,fun x=>⟨.inl,fun g=>?_⟩⟩
   rcases g with g|⟨rfl,g⟩
   · exact g
   · rcases hb with hb|hb
     · omega
     · exact hb.2▸hmem
 · rw[zAy hb]
   have hlt:∀ x∈l.take k,x<c:=fun x hx=>by
    obtain⟨i,hi⟩:=zAw hx
    have hi1:=(zA1.1 hi).1
    rw[zAm] at hi1
    rw[List.getElem?_take_of_lt (by omega)] at hi
    have:=h.get (i:=i) (j:=k-1) (by omega) (by omega) (by omega)
    rw[z1n hi] at this
    omega
   have hgt:∀ x∈l.drop k,c<x:=fun x hx=>by
    obtain⟨i,hi⟩:=zAw hx
    have hi1:=(zA1.1 hi).1
    rw[List.length_drop] at hi1
    rw[List.getElem?_drop] at hi
    have:=hge (k+i) (by omega) (by omega)
    rwa [z1n hi] at this
   have hm:∀ x,x∈l.take k++[c]++l.drop k↔x∈l∨(x=c∧c≤1114111):=fun x=>by
    have:x∈l↔x∈l.take k∨x∈l.drop k:=by rw[← zAt,List.take_append_drop]
    rw[this,zAt,zAt,zAq]
    constructor
    · rintro((g|g)|g)
      · exact .inl (.inl g)
      · exact .inr ⟨g,by omega⟩
      · exact .inl (.inr g)
    · rintro((g|g)|g)
      · exact .inl (.inl g)
      · exact .inr g
      · exact .inl (.inr g.1)
   refine⟨⟨?_,?_,fun z hz=>?_⟩,hm⟩
   · rw[zAl,zAb (by rw[zAm];omega),List.getElem?_take_of_lt h0];exact h.hd
   · rw[List.pairwise_append,List.pairwise_append]
     refine⟨⟨h.asc.sublist (List.take_sublist _ _),List.pairwise_singleton _ _,fun x hx y hy=>by rw[zAq] at hy;subst hy;exact hlt x hx⟩,h.asc.sublist (List.drop_sublist _ _),fun x hx y hy=>?_⟩
     have:=hgt y hy
     rw[zAt,zAq] at hx
     rcases hx with hx|rfl
     · have:=hlt x hx;omega
     · exact this
   · rcases (hm z).1 hz with g|⟨rfl,g⟩
     · exact h.rng z g
     · exact⟨hc,g⟩
theorem Pts.ptR {l:List Int} (h:Pts l) {r:Int × Int} (h1:0≤r.1) (h2:0≤r.2):Pts (ptR l r)∧∀ x,x∈Go.Ax.ptR l r↔x∈l∨(x=r.1∧r.1≤1114111)∨(x=r.2+1∧r.2+1≤1114111):=by
 obtain⟨a1,a2⟩:=h.ins h1
 obtain⟨b1,b2⟩:=a1.ins (c:=r.2+1) (by omega)
 exact⟨b1,fun x=>by rw[Go.Ax.ptR,b2,a2,or_assoc]⟩
theorem Pts.fold1:∀ (r:List (Int × Int)) {l:List Int},Pts l→(∀ x∈r,0≤x.1∧x.1≤1114111∧0≤x.2∧x.2≤1114111)→Pts (r.foldl Go.Ax.ptR l)∧(∀ z∈l,z∈r.foldl Go.Ax.ptR l)∧∀ x∈r,x.1∈r.foldl Go.Ax.ptR l∧(x.2+1≤1114111→x.2+1∈r.foldl Go.Ax.ptR l)
 | [],l,h,_=>⟨h,fun z hz=>hz,by simp⟩
 | x::r,l,h,hr=>by
  have hx:=hr x (by simp)
  obtain⟨a1,a2⟩:=h.ptR (r:=x) (by omega) (by omega)
  obtain⟨b1,b2,b3⟩:=Pts.fold1 r a1 fun y hy=>hr y (by simp[hy])
  rw[List.foldl_cons]
  refine⟨b1,fun z hz=>b2 z ((a2 z).2 (.inl hz)),fun y hy=>?_⟩
  rcases zAc.1 hy with rfl|hy
  · exact⟨b2 _ ((a2 _).2 (.inr (.inl ⟨rfl,by omega⟩))),fun g=>b2 _ ((a2 _).2 (.inr (.inr ⟨rfl,g⟩)))⟩
  · exact b3 y hy
theorem Pts.fold2:∀ (L:List (List (Int × Int))) {l:List Int},Pts l→(∀ r∈L,∀ x∈r,0≤x.1∧x.1≤1114111∧0≤x.2∧x.2≤1114111) →
 Pts (L.foldl (fun l r=>r.foldl Go.Ax.ptR l) l)∧(∀ z∈l,z∈L.foldl (fun l r=>r.foldl Go.Ax.ptR l) l)∧∀ r∈L,∀ x∈r,x.1∈L.foldl (fun l r=>r.foldl Go.Ax.ptR l) l∧(x.2+1≤1114111→x.2+1∈L.foldl (fun l r=>r.foldl Go.Ax.ptR l) l)
 | [],l,h,_=>⟨h,fun z hz=>hz,by simp⟩
 | r::L,l,h,hr=>by
  obtain⟨a1,a2,a3⟩:=Pts.fold1 r h fun x hx=>hr r (by simp) x hx
  obtain⟨b1,b2,b3⟩:=Pts.fold2 L a1 fun y hy=>hr y (by simp[hy])
  rw[List.foldl_cons]
  refine⟨b1,fun z hz=>b2 z (a2 z hz),fun y hy=>?_⟩
  rcases zAc.1 hy with rfl|hy
  · exact fun x hx=>⟨b2 _ (a3 x hx).1,fun g=>b2 _ ((a3 x hx).2 g)⟩
  · exact b3 y hy
theorem zwc {L:List (List (Int × Int))} (hr:∀ r∈L,∀ x∈r,0≤x.1∧x.1≤1114111∧0≤x.2∧x.2≤1114111):Pts (z8b L)∧∀ r∈L,∀ x∈r,x.1∈z8b L∧(x.2+1≤1114111→x.2+1∈z8b L):=by
 obtain⟨a,_,c⟩:=Pts.fold2 L (l:=[0]) ⟨rfl,by simp,by simp⟩ hr
 exact⟨a,c⟩
theorem z8r {P:List Int}:∀ {l:List Arc},(∀ x∈l,x.2.1≤1114111∧x.1∈P∧(x.2.1+1≤1114111→x.2.1+1∈P))→∀ {p c:Int},p≤c→c≤1114111→(∀ y∈P,y≤c→y≤p)→nxt l c=nxt l p
 | [],_,_,_,_,_,_=>rfl
 | x::l,h,p,c,hp,hc,hy=>by
  obtain⟨h1,h2,h3⟩:=h x (by simp)
  have ih:=z8r (l:=l) (fun y hy=>h y (List.mem_cons_of_mem _ hy)) hp hc hy
  rw[nxt,nxt,ih]
  have e1:x.1≤c↔x.1≤p:=⟨fun g=>hy _ h2 g,fun g=>by omega⟩
  have e2:c≤x.2.1↔p≤x.2.1:=⟨fun g=>by omega,fun g=>by
   refine Decidable.byContradiction fun hn=>?_
   have:=hy _ (h3 (by omega)) (by omega)
   omega⟩
  simp only[e1,e2]
def zcr (a b:Au) (p:Int × Int) (s:List (Int × Int) × List Int) (c:Int):List (Int × Int) × List Int:=(z5b s.1 (a.nx p.1 c,b.nx p.2 c),s.2++[((z2r (a.nx p.1 c,b.nx p.2 c) s.1:Nat):Int)])
def prL (a b:Au) (dec:Bool→Bool→Bool) (P:List Int):Nat→Nat→List (Int × Int)→List Bool→List (List Int)→Option Tbl
 | 0,_,_,_,_=>none
 | n+1,i,L,F,N=>match L[i]? with
  | none=>some ⟨P,F,N⟩
  | some p=>prL a b dec P n (i+1) (P.foldl (zcr a b p) (L,[])).1 (F++[dec (a.fin p.1) (b.fin p.2)]) (N++[(P.foldl (zcr a b p) (L,[])).2])
def zo8 (a b:Au) (p:Int × Int):Prop:=-1≤p.1∧p.1<a.F.length∧-1≤p.2∧p.2<b.F.length
structure PrS (a b:Au) (p:Int × Int) (L:List (Int × Int)) (Q:List Int) (s:List (Int × Int) × List Int):Prop where
 pre:∃ e,s.1=L++e
 nod:s.1.Nodup
 ok:∀ p∈s.1,zo8 a b p
 len:s.2.length=Q.length
 at_:∀ (x:Nat) (c:Int),Q[x]? =some c→∃ k:Nat,s.2[x]? =some (k:Int)∧s.1[k]? =some (a.nx p.1 c,b.nx p.2 c)
theorem PrS.step {a b:Au} (ha:AuW a) (hb:AuW b) {p:Int × Int} {L:List (Int × Int)} {Q:List Int} {s:List (Int × Int) × List Int} (h:PrS a b p L Q s) (c:Int):PrS a b p L (Q++[c]) (zcr a b p s c):=by
 obtain⟨s1,s2⟩:=s
 obtain⟨⟨e,he⟩,h2,h3,h4,h5⟩:=h
 simp only at he h2 h3 h4 h5
 rw[zcr]
 have hmem:=z8y s1 (a.nx p.1 c,b.nx p.2 c)
 obtain⟨r,hr⟩:=z6b s1 (a.nx p.1 c,b.nx p.2 c)
 refine⟨⟨e++r,by simp only;rw[hr,he,zAl]⟩,za9 h2,fun q hq=>?_,by simp[h4],fun x c' hx=>?_⟩
 · simp only[z5b] at hq
   split at hq
   · exact h3 q hq
   · rw[zAt,zAq] at hq
     rcases hq with hq|rfl
     · exact h3 q hq
     · have:=ha.nx p.1 c;have:=hb.nx p.2 c;exact⟨by omega,by omega,by omega,by omega⟩
 · simp only
   by_cases hlt:x<Q.length
   · rw[zAb hlt] at hx
     obtain⟨k,k1,k2⟩:=h5 x c' hx
     refine⟨k,by rw[zAb (by omega)];exact k1,by rw[hr,zAb (zA1.1 k2).1];exact k2⟩
   · have hx1:=(zA1.1 hx).1
     rw[zAa,zAn] at hx1
     obtain rfl:x=Q.length:=by omega
     rw[zAg (zAj _)] at hx
     simp at hx
     subst hx
     refine⟨z2r (a.nx p.1 c,b.nx p.2 c) s1,by rw[← h4,zAg (zAj _)];simp,?_⟩
     have:=(z2o hmem).2
     rwa [zfp] at this
theorem zlx {a b:Au} (ha:AuW a) (hb:AuW b) {p:Int × Int} {L:List (Int × Int)}:∀ (P Q:List Int) (s:List (Int × Int) × List Int),PrS a b p L Q s→PrS a b p L (Q++P) (P.foldl (zcr a b p) s)
 | [],Q,s,h=>by rw[List.append_nil];exact h
 | c::P,Q,s,h=>by
  rw[List.foldl_cons,show Q++c::P=(Q++[c])++P by simp]
  exact zlx ha hb P _ _ (h.step ha hb c)
structure PrI (a b:Au) (dec:Bool→Bool→Bool) (P:List Int) (i:Nat) (L:List (Int × Int)) (F:List Bool) (N:List (List Int)):Prop where
 le:i≤L.length
 fl:F.length=i
 nl:N.length=i
 hd:L[0]? =some (0,0)
 nod:L.Nodup
 ok:∀ p∈L,zo8 a b p
 fin_:∀ q p,q<i→L[q]? =some p→F[q]? =some (dec (a.fin p.1) (b.fin p.2))
 row:∀ q p,q<i→L[q]? =some p→∃ r,N[q]? =some r∧r.length=P.length∧∀ (x:Nat) (c:Int),P[x]? =some c→∃ k:Nat,r[x]? =some (k:Int)∧L[k]? =some (a.nx p.1 c,b.nx p.2 c)
theorem PrI.step {a b:Au} (ha:AuW a) (hb:AuW b) {dec:Bool→Bool→Bool} {P:List Int} {i:Nat} {L:List (Int × Int)} {F:List Bool} {N:List (List Int)} (h:PrI a b dec P i L F N) {p:Int × Int} (hp:L[i]? =some p) :
 PrI a b dec P (i+1) (P.foldl (zcr a b p) (L,[])).1 (F++[dec (a.fin p.1) (b.fin p.2)]) (N++[(P.foldl (zcr a b p) (L,[])).2]):=by
 have hi:=(zA1.1 hp).1
 have hs:=zlx ha hb (p:=p) (L:=L) P [] (L,[]) ⟨⟨[],by simp⟩,h.nod,h.ok,rfl,by simp⟩
 rw[List.nil_append] at hs
 generalize P.foldl (zcr a b p) (L,[])=s at *
 obtain⟨⟨e,he⟩,h2,h3,h4,h5⟩:=hs
 have hget:∀ {q:Nat},q<L.length→s.1[q]? =L[q]?:=fun hq=>by rw[he,zAb hq]
 have hle:=h.le
 have hfl:=h.fl
 have hnl:=h.nl
 refine⟨by rw[he,zAa];omega,by simp[hfl],by simp[hnl],by rw[hget (by omega)];exact h.hd,h2,h3,fun q p' hq hp'=>?_,fun q p' hq hp'=>?_⟩
 · rw[hget (by omega)] at hp'
   by_cases hqi:q=i
   · subst hqi
     rw[hp] at hp';cases hp'
     rw[zAg (by omega),hfl];simp
   · rw[zAb (by omega)]
     exact h.fin_ q p' (by omega) hp'
 · rw[hget (by omega)] at hp'
   by_cases hqi:q=i
   · subst hqi
     rw[hp] at hp';cases hp'
     exact⟨s.2,by rw[zAg (by omega),hnl];simp,h4,h5⟩
   · obtain⟨r,r1,r2,r3⟩:=h.row q p' (by omega) hp'
     refine⟨r,by rw[zAb (by omega)];exact r1,r2,fun x c hx=>?_⟩
     obtain⟨k,k1,k2⟩:=r3 x c hx
     exact⟨k,k1,by rw[hget (zA1.1 k2).1];exact k2⟩
theorem zou {a b:Au} {L:List (Int × Int)} (hn:L.Nodup) (hok:∀ p∈L,zo8 a b p):L.length≤(a.F.length+1)*(b.F.length+1):=by
 have h1:(L.map fun p=>(p.1+1)*((b.F.length+1:Nat):Int)+(p.2+1)).Nodup:=by
  rw[List.nodup_iff_pairwise_ne] at hn
  rw[List.nodup_iff_pairwise_ne,List.pairwise_map]
  refine hn.imp_of_mem fun {p q} hp hq hpq e=>hpq ?_
  have o1:=hok p hp
  have o2:=hok q hq
  unfold zo8 at o1 o2
  have hq1:p.1=q.1:=by
   rcases Int.lt_trichotomy p.1 q.1 with hlt|hlt|hlt
   · have:(p.1+1+1)*((b.F.length+1:Nat):Int)≤(q.1+1)*((b.F.length+1:Nat):Int):=Int.mul_le_mul_of_nonneg_right (by omega) (by omega)
     rw[Int.add_mul,Int.one_mul] at this
     omega
   · exact hlt
   · have:(q.1+1+1)*((b.F.length+1:Nat):Int)≤(p.1+1)*((b.F.length+1:Nat):Int):=Int.mul_le_mul_of_nonneg_right (by omega) (by omega)
     rw[Int.add_mul,Int.one_mul] at this
     omega
  rw[hq1] at e
  exact Prod.ext hq1 (by omega)
 have h2:=z9d (n:=(a.F.length+1)*(b.F.length+1)) h1 fun x hx=>by
  obtain⟨p,hp,rfl⟩:=List.mem_map.1 hx
  have o1:=hok p hp
  unfold zo8 at o1
  have l1:0≤(p.1+1)*((b.F.length+1:Nat):Int):=Int.mul_nonneg (by omega) (by omega)
  have l2:(p.1+1)*((b.F.length+1:Nat):Int)≤(a.F.length:Int)*((b.F.length+1:Nat):Int):=Int.mul_le_mul_of_nonneg_right (by omega) (by omega)
  rw[Nat.add_mul,Nat.one_mul]
  push_cast at l1 l2 ⊢
  omega
 simpa using h2
theorem zlr {a b:Au} (ha:AuW a) (hb:AuW b) {dec:Bool→Bool→Bool} {P:List Int}:∀ (n i:Nat) (L:List (Int × Int)) (F:List Bool) (N:List (List Int)),PrI a b dec P i L F N→(a.F.length+1)*(b.F.length+1)+1≤n+i→∃ L' F' N',prL a b dec P n i L F N=some ⟨P,F',N'⟩∧PrI a b dec P L'.length L' F' N'
 | 0,i,L,F,N,h,hn=>by have:=zou h.nod h.ok;have:=h.le;omega
 | n+1,i,L,F,N,h,hn=>by
  rw[prL]
  cases hk:L[i]? with
  | none =>
   have hle:=h.le
   have:L.length≤i:=by simpa using hk
   obtain rfl:i=L.length:=by omega
   exact⟨L,F,N,rfl,h⟩
  | some p=>exact zlr ha hb n (i+1) _ _ _ (h.step ha hb hk) (by omega)
def vld (w:List Int):Bool:=w.all fun c=>decide (0≤c)&&decide (c≤1114111)
structure PrT (a b:Au) (dec:Bool→Bool→Bool) (t:Tbl):Prop where
 w:z8g t
 few:t.F.length≤(a.F.length+1)*(b.F.length+1)
 acc:∀ w,t.acc w 0=(vld w&&dec (a.acc 0 w) (b.acc 0 w))
theorem zn1 {a b:Au} (ha:AuW a) (hb:AuW b) {dec:Bool→Bool→Bool} {P:List Int} (hP:Pts P) (hPa:∀ l∈a.A,∀ x∈l,x.1∈P∧(x.2.1+1≤1114111→x.2.1+1∈P)) (hPb:∀ l∈b.A,∀ x∈l,x.1∈P∧(x.2.1+1≤1114111→x.2.1+1∈P)) :
 ∃ t,prL a b dec P ((a.F.length+1)*(b.F.length+1)+1) 0 [(0,0)] [] []=some t∧t.P=P∧PrT a b dec t:=by
 have p1:=ha.pos
 have p2:=hb.pos
 obtain⟨L,F,N,h1,h2⟩:=zlr ha hb (dec:=dec) (P:=P) ((a.F.length+1)*(b.F.length+1)+1) 0 [(0,0)] [] [] ⟨zAf _,rfl,rfl,rfl,by simp,by simp[zo8];omega,fun q p h=>by omega,fun q p h=>by omega⟩ (by omega)
 refine⟨⟨P,F,N⟩,h1,rfl,?_⟩
 have hW:z8g ⟨P,F,N⟩:=⟨hP.hd,hP.asc,hP.rng,by simp only;rw[h2.fl];exact(zA1.1 h2.hd).1,by simp only;rw[h2.fl,h2.nl],fun r hr=>by
  simp only at hr ⊢
  obtain⟨q,hq⟩:=zAw hr
  have hq1:=(zA1.1 hq).1
  rw[h2.nl] at hq1
  obtain⟨r',r1,r2,r3⟩:=h2.row q L[q] hq1 (zA0 hq1)
  rw[hq] at r1;cases r1
  refine⟨r2,fun n hn=>?_⟩
  obtain⟨x,hx⟩:=zAw hn
  have hx1:=(zA1.1 hx).1
  obtain⟨k,k1,k2⟩:=r3 x P[x] (zA0 (by omega))
  rw[hx] at k1;cases k1
  have:=(zA1.1 k2).1
  rw[h2.fl];omega⟩
 have hcon:∀ {a:Au},AuW a→(∀ l∈a.A,∀ x∈l,x.1∈P∧(x.2.1+1≤1114111→x.2.1+1∈P))→∀ (q:Int) {p c:Int},p≤c→c≤1114111→(∀ y∈P,y≤c→y≤p)→a.nx q c=a.nx q p:=fun {a} ha hPa q p c g1 g2 g3=>by
  rw[Au.nx,Au.nx]
  refine z8r (P:=P) (fun x hx=>⟨((ha.arcs q).2 x hx).2.2.1,?_⟩) g1 g2 g3
  rw[Au.arcs] at hx
  split at hx
  · cases hx
  · rw[List.getD] at hx
    cases hs:a.A[q.toNat]? with
    | none=>rw[hs] at hx;simp at hx
    | some l=>rw[hs] at hx;exact hPa l (zA2 hs) x hx
 have key:∀ (w:List Int) (i:Nat) (p:Int × Int),L[i]? =some p→Tbl.acc ⟨P,F,N⟩ w i=(vld w&&dec (a.acc p.1 w) (b.acc p.2 w)):=by
  intro w
  induction w with
  | nil =>
   intro i p hp
   have hi:=(zA1.1 hp).1
   rw[Tbl.acc,List.getD,h2.fin_ i p hi hp];rfl
  | cons c w ih =>
   intro i p hp
   have hi:=(zA1.1 hp).1
   obtain⟨r,r1,r2,r3⟩:=h2.row i p hi hp
   have hrow:Tbl.row ⟨P,F,N⟩ i=r:=by rw[Tbl.row,List.getD,r1];rfl
   rw[Tbl.acc]
   cases hk:kx (Tbl.edg ⟨P,F,N⟩ i) c with
   | none =>
    simp only
    rw[Tbl.edg,hrow] at hk
    have:¬ (0≤c∧c≤1114111):=fun g=>z6v hP.hd r2.symm g.1 g.2 hk
    have hv:vld (c::w)=false:=by
     rw[vld,List.all_cons,← Bool.decide_and,zAo this];rfl
    rw[hv];rfl
   | some n =>
    simp only
    rw[Tbl.edg,hrow] at hk
    obtain⟨c1,x,pt,x1,x2,x3,x4⟩:=zcy hP.asc (fun z hz=>(hP.rng z hz).2) hk
    obtain⟨k,k1,k2⟩:=r3 x pt x1
    rw[x2] at k1
    simp only[zAh] at k1
    subst k1
    rw[zA9,ih k _ k2,Au.acc_cons,Au.acc_cons,hcon ha hPa p.1 x3 c1 x4,hcon hb hPb p.2 x3 c1 x4]
    have:=hP.rng pt (zA2 x1)
    rw[show vld (c::w)=vld w by rw[vld,List.all_cons,zAi (show 0≤c by omega),zAi c1];rfl]
 exact⟨hW,by simp only;rw[h2.fl];exact zou h2.nod h2.ok,fun w=>key w 0 (0,0) h2.hd⟩
section
variable {K:Type}
def ztc (f:Int→Option K) (x y:Int):Option (Edge K):=(f x).map fun k=>(x,y-1,k)
def zo4 (f:Int→Option K):List Int→List (Edge K)
 | x::y::P=>match ztc f x y with
  | none=>zo4 f (y::P)
  | some e=>e::zo4 f (y::P)
 | _=>[]
theorem ze5 (f:Int→Option K):∀ P:List Int,(List.range (P.length-1)).filterMap (fun i=>ztc f (P.getD i 0) (P.getD (i+1) 0))=zo4 f P
 | []=>rfl
 | [x]=>rfl
 | x::y::P=>by
  have ih:=ze5 f (y::P)
  rw[zo4,← ih]
  show (List.range (P.length+1)).filterMap _=_
  rw[List.range_succ_eq_map,List.filterMap_cons]
  have e:(List.map Nat.succ (List.range P.length)).filterMap (fun i=>ztc f ((x::y::P).getD i 0) ((x::y::P).getD (i+1) 0))=(List.range ((y::P).length-1)).filterMap (fun i=>ztc f ((y::P).getD i 0) ((y::P).getD (i+1) 0)):=by
   rw[List.filterMap_map];rfl
  rw[e]
  have e0:ztc f ((x::y::P).getD 0 0) ((x::y::P).getD (0+1) 0)=ztc f x y:=rfl
  rw[e0]
  cases ztc f x y <;> rfl
theorem zi8 {f:Int→Option K}:∀ {P:List Int} {a:Int},P.Pairwise (· <·)→(∀ z∈P,a≤z∧z≤1114112)→okE a (zo4 f P)
 | [],_,_,_=>trivial
 | [x],_,_,_=>trivial
 | x::y::P,a,h,hr=>by
  have hxy:x<y:=(List.pairwise_cons.1 h).1 y (by simp)
  have h1:=hr x (by simp)
  have h2:=hr y (by simp)
  have hy:∀ z∈y::P,y≤z∧z≤1114112:=fun z hz=>by
   rcases zAc.1 hz with rfl|hz'
   · exact⟨Int.le_refl _,h2.2⟩
   · exact⟨Int.le_of_lt ((List.pairwise_cons.1 (List.pairwise_cons.1 h).2).1 z hz'),(hr z (List.mem_cons_of_mem _ hz)).2⟩
  have ih:=zi8 (f:=f) (List.pairwise_cons.1 h).2 hy
  rw[zo4,ztc]
  cases f x with
  | none=>exact zya ih (by omega)
  | some k=>exact⟨h1.1,by simp only;omega,by simp only;omega,by show okE (y-1+1) _;rw[Int.sub_add_cancel];exact ih⟩
theorem zym {f:Int→Option K} {c:Int}:∀ {P:List Int},P.Pairwise (· <·)→(∀ p∈P,p≤c→(∀ y∈P,y≤c→y≤p)→f p=f c)→(∀ p∈P,p≤c→(∃ q∈P,c<q)→kx (zo4 f P) c=f c)∧((∀ p∈P,c<p)∨(∀ p∈P,p≤c)→kx (zo4 f P) c=none)
 | [],_,_=>⟨fun p hp=>by simp at hp,fun _=>rfl⟩
 | [x],_,_=>⟨fun p hp hpc hq=>by obtain⟨q,hq,h⟩:=hq;simp at hp hq;subst hp;subst hq;omega,fun _=>rfl⟩
 | x::y::P,h,hc=>by
  obtain⟨hx,h'⟩:=List.pairwise_cons.1 h
  have hxy:x<y:=hx y (by simp)
  have hyP:∀ z∈y::P,y≤z:=fun z hz=>by
   rcases zAc.1 hz with rfl|hz'
   · exact Int.le_refl _
   · exact Int.le_of_lt ((List.pairwise_cons.1 h').1 z hz')
  obtain⟨i1,i2⟩:=zym (f:=f) (c:=c) h' fun p hp hpc hy=>by
   refine hc p (List.mem_cons_of_mem _ hp) hpc fun z hz hzc=>?_
   rcases zAc.1 hz with rfl|hz
   · have:=hyP p hp;omega
   · exact hy z hz hzc
  have key:kx (zo4 f (x::y::P)) c=if x≤c∧c<y∧(f x).isSome then f x else kx (zo4 f (y::P)) c:=by
   rw[zo4,ztc]
   cases hf:f x with
   | none=>rw[zAy (by simp)];rfl
   | some k =>
    show (if x≤c∧c≤y-1 then some k else _)=_
    by_cases g:x≤c∧c<y
    · rw[zAz ⟨g.1,by omega⟩,zAz ⟨g.1,g.2,rfl⟩]
    · rw[zAy (by omega),zAy (fun w=>g ⟨w.1,w.2.1⟩)]
  by_cases g:x≤c∧c<y
  · have e:f x=f c:=hc x (by simp) g.1 fun z hz hzc=>by
     rcases zAc.1 hz with rfl|hz
     · exact Int.le_refl _
     · have:=hyP z hz;omega
    refine⟨fun p hp hpc hq=>?_,fun ho=>?_⟩
    · rw[key]
      by_cases s:(f x).isSome=true
      · rw[zAz ⟨g.1,g.2,s⟩,e]
      · rw[zAy (fun w=>s w.2.2),i2 (.inl fun p hp=>by have:=hyP p hp;omega),← e]
        cases hf:f x with
        | none=>rfl
        | some k=>rw[hf] at s;exact absurd rfl s
    · rcases ho with ho|ho
      · have:=ho x (by simp);omega
      · have:=ho y (by simp);omega
  · rw[zAy (fun w=>g ⟨w.1,w.2.1⟩)] at key
    rw[key]
    refine⟨fun p hp hpc hq=>?_,fun ho=>?_⟩
    · obtain⟨q,hq,hcq⟩:=hq
      have hq2:q∈y::P:=by
       rcases zAc.1 hq with rfl|h2
       · rcases zAc.1 hp with rfl|h3
         · omega
         · have:=hx p h3;omega
       · exact h2
      rcases zAc.1 hp with rfl|h3
      · exact i1 y (by simp) (by omega) ⟨q,hq2,hcq⟩
      · exact i1 p h3 hpc ⟨q,hq2,hcq⟩
    · exact i2 (ho.imp (fun w p hp=>w p (List.mem_cons_of_mem _ hp)) fun w p hp=>w p (List.mem_cons_of_mem _ hp))
end
theorem zk6 {lv:List Bool} {cl:List Int}:∀ {P r r':List Int},r.length=P.length→r'.length=P.length→(∀ (x:Nat) (a b:Int),r[x]? =some a→r'[x]? =some b→cl.getD a.toNat 0=cl.getD b.toNat 0∧lv.getD a.toNat false=lv.getD b.toNat false)→z9t lv cl (zfv P r)=z9t lv cl (zfv P r')
 | [],r,r',_,_,_=>by rw[z8o,z8o]
 | p::P,[],_,h,_,_=>by simp at h
 | p::P,_::_,[],_,h,_=>by simp at h
 | p::P,a::r,b::r',h1,h2,h=>by
  obtain⟨e1,e2⟩:=h 0 a b rfl rfl
  rw[zas,zas,z9t,z9t,zk6 (by simpa using h1) (by simpa using h2) fun x a b ha hb=>h (x+1) a b (by simpa using ha) (by simpa using hb)]
  simp only[e1,e2]
theorem zwg {t:Tbl} (h:z8g t) {cl:List Int} {lv:List Bool} (hc:∀ i k,i<t.F.length→k<t.F.length→(cl.getD i 0=cl.getD k 0↔∀ w,t.acc w i=t.acc w k)) (hl:∀ i,i<t.F.length→(lv.getD i false=true↔∃ w,t.acc w i=true))
 {i k:Nat} (hi:i<t.F.length) (hk:k<t.F.length) (e:cl.getD i 0=cl.getD k 0):z9t lv cl (t.edg i)=z9t lv cl (t.edg k):=by
 have hw:=(hc i k hi hk).1 e
 refine zk6 (h.z3m hi) (h.z3m hk) fun x a b ha hb=>?_
 have hx:=(zA1.1 ha).1
 rw[h.z3m hi] at hx
 have ra:=h.row_in (zA2 ha)
 have rb:=h.row_in (zA2 hb)
 have hs:∀ w,t.acc w a.toNat=t.acc w b.toNat:=fun w=>by
  have:=hw (t.P[x]::w)
  rwa [zcv h (zA0 hx) ha,zcv h (zA0 hx) hb] at this
 refine⟨(hc _ _ (by omega) (by omega)).2 hs,?_⟩
 have:lv.getD a.toNat false=true↔lv.getD b.toNat false=true:=by
  rw[hl _ (by omega),hl _ (by omega)]
  exact⟨fun ⟨w,g⟩=>⟨w,by rw[← hs];exact g⟩,fun ⟨w,g⟩=>⟨w,by rw[hs];exact g⟩⟩
 cases h1:lv.getD a.toNat false <;> cases h2:lv.getD b.toNat false <;> rw[h1,h2] at this <;> simp at this ⊢
theorem zfj {a:Au} (h:AuW a):∀ (w:List Int) (q:Int),a.acc q w=true→vld w=true
 | [],_,_=>rfl
 | c::w,q,e=>by
  rw[Au.acc_cons] at e
  have hv:=zfj h w _ e
  have hn:a.nx q c≠-1:=fun g=>by rw[g,a.acc_neg w (by decide)] at e;cases e
  have hr:=ze3 (h.arcs q).1 c
  rw[Au.nx] at hn
  rw[zAy hn] at hr
  obtain⟨x,hx,h1,h2,_⟩:=zp9 hr
  have:=(h.arcs q).2 x hx
  rw[vld,List.all_cons,← vld,hv,zAi (show 0≤c by omega),zAi (show c≤1114111 by omega)];rfl
theorem zky:∀ (L:List (List (Int × Int))) (l:List Int) (N:Nat),(∀ r∈L,r.length≤N)→(L.foldl (fun l r=>r.foldl ptR l) l).length≤l.length+L.length*(2*N)
 | [],l,N,_=>by simp
 | r::L,l,N,h=>by
  have hf:∀ (r:List (Int × Int)) (l:List Int),(r.foldl ptR l).length≤l.length+2*r.length:=by
   intro r
   induction r with
   | nil=>intro l;simp
   | cons x r ih=>intro l;rw[List.foldl_cons,zAk];have:=ih (ptR l x);have:=zsn l x;omega
  rw[List.foldl_cons,zAk,Nat.succ_mul]
  have h1:=zky L (r.foldl ptR l) N fun r hr=>h r (by simp[hr])
  have h2:=hf r l
  have h3:=h r (by simp)
  omega
def z88 (x:Arc):Int:=if x.1<55296∨57343<x.1 then x.1 else if 57343<x.2.1 then 57344 else -1
def zoi (L:List Int) (d:Int) (x:Arc):Bool:=decide (L.getD x.2.2.toNat 0=d-1)&&decide (0≤z88 x)
def y2h (q:Nat) (d:Int) (s:List Int × Bool) (x:Arc):List Int × Bool:=if s.1.getD q 0<0∧zoi s.1 d x=true then (s.1.set q d,true) else s
def zg2 (q:Nat) (d:Int) (l:List Arc) (s:List Int × Bool):List Int × Bool:=l.foldl (y2h q d) s
def zdg (d:Int):Nat→List (List Arc)→List Int × Bool→List Int × Bool
 | _,[],s=>s
 | q,l::A,s=>zdg d (q+1) A (zg2 q d l s)
def nwD (L:List Int) (d:Int) (i:Nat) (l:List Arc):Bool:=decide (L.getD i 0<0)&&l.any (zoi L d)
def y3r (L:List Int) (d:Int) (M:List Int):Prop:=M.length=L.length∧∀ i,M.getD i 0=L.getD i 0∨L.getD i 0<0∧M.getD i 0=d
theorem y27 {L M:List Int} {d:Int} (hd:1≤d) (h:y3r L d M) (x:Arc):zoi M d x=zoi L d x:=by
 rw[zoi,zoi]
 have:(M.getD x.2.2.toNat 0=d-1)↔(L.getD x.2.2.toNat 0=d-1):=by rcases h.2 x.2.2.toNat with g|g <;> omega
 rw[decide_eq_decide.2 this]
theorem zm6 (q:Nat) (d:Int):∀ (l:List Arc) (s:List Int × Bool),0≤s.1.getD q 0→zg2 q d l s=s
 | [],s,_=>rfl
 | x::l,s,h=>by
  rw[zg2,List.foldl_cons,y2h,zAy (by omega)]
  exact zm6 q d l s h
theorem zc6 {M:List Int} {q:Nat} (h:q<M.length) (d:Int) (i:Nat):(M.set q d).getD i 0=if i=q then d else M.getD i 0:=by
 by_cases e:i=q
 · subst e;rw[zAz rfl];simp[List.getD,h]
 · rw[zAy e];simp[List.getD,List.getElem?_set_ne (Ne.symm e)]
theorem zrs {L:List Int} {d:Int} (hd:1≤d) {q:Nat} (hq:q<L.length):∀ (l:List Arc) (s:List Int × Bool),y3r L d s.1→s.1.getD q 0=L.getD q 0→zg2 q d l s=if nwD L d q l=true then (s.1.set q d,true) else s
 | [],s,_,_=>by
  have:nwD L d q []=false:=by simp[nwD]
  rw[this,zAy (by decide)];rfl
 | x::l,s,hm,he=>by
  rw[zg2,List.foldl_cons,y2h,y27 hd hm,he]
  by_cases h:L.getD q 0<0∧zoi L d x=true
  · rw[zAz h]
    have hn:nwD L d q (x::l)=true:=by
     rw[nwD,zAi h.1,List.any_cons,h.2];rfl
    rw[hn,zAz rfl]
    refine zm6 q d l _ ?_
    show 0≤(s.1.set q d).getD q 0
    rw[zc6 (by rw[hm.1];exact hq),zAz rfl];omega
  · rw[zAy h]
    have hn:nwD L d q (x::l)=nwD L d q l:=by
     rw[nwD,nwD,List.any_cons]
     by_cases h1:L.getD q 0<0
     · have h2:zoi L d x=false:=by
        cases e:zoi L d x with
        | false=>rfl
        | true=>exact absurd ⟨h1,e⟩ h
       rw[h2];rfl
     · rw[zAo h1];rfl
    rw[hn]
    exact zrs hd hq l s hm he
theorem y1q {L M:List Int} {d:Int} {q:Nat} (hq:q<L.length) (h:y3r L d M) (h0:L.getD q 0<0):y3r L d (M.set q d) :=
 ⟨by rw[List.length_set,h.1],fun i=>by
   rw[zc6 (by rw[h.1];exact hq)]
   by_cases e:i=q
   · subst e;rw[zAz rfl];exact .inr ⟨h0,rfl⟩
   · rw[zAy e];exact h.2 i⟩
theorem zk2 {L:List Int} {d:Int} (hd:1≤d):∀ (A:List (List Arc)) (q:Nat) (s:List Int × Bool),q+A.length≤L.length→y3r L d s.1→(∀ i,q≤i→s.1.getD i 0=L.getD i 0) →
 (zdg d q A s).1.length=L.length∧(∀ i,(zdg d q A s).1.getD i 0=if q≤i∧nwD L d i (A.getD (i-q) [])=true then d else s.1.getD i 0)∧((zdg d q A s).2=true↔s.2=true∨∃ i,q≤i∧nwD L d i (A.getD (i-q) [])=true)
 | [],q,s,_,hm,_=>by
  have hn:∀ i,nwD L d i (([]:List (List Arc)).getD (i-q) [])=false:=fun i=>by simp[nwD]
  refine⟨hm.1,fun i=>?_,?_⟩
  · rw[hn,zAy (by simp)];rfl
  · constructor
    · exact .inl
    · rintro(h|⟨i,_,h⟩)
      · exact h
      · rw[hn] at h;cases h
 | l::A,q,s,hl,hm,he=>by
  rw[zAk] at hl
  have hr:=zrs hd (show q<L.length by omega) l s hm (he q (zAj _))
  have hsh:∀ i,q+1≤i→(l::A).getD (i-q) []=A.getD (i-(q+1)) []:=fun i hi=>by
   rw[show i-q=(i-(q+1))+1 by omega,List.getD_cons_succ]
  have h0:(l::A).getD (q-q) []=l:=by rw[Nat.sub_self];rfl
  rw[zdg,hr]
  by_cases g:nwD L d q l=true
  · rw[zAz g]
    have g':=g
    rw[nwD,zA7,zA3] at g'
    have hset:=fun i=>zc6 (M:=s.1) (q:=q) (by rw[hm.1];omega) d i
    obtain⟨i1,i2,i3⟩:=zk2 hd A (q+1) (s.1.set q d,true) (by omega) (y1q (by omega) hm g'.1) (fun i hi=>by
     show (s.1.set q d).getD i 0=_
     rw[hset,zAy (by omega),he i (by omega)])
    refine⟨i1,fun i=>?_,?_⟩
    · rw[i2 i]
      show (if _ then d else (s.1.set q d).getD i 0)=_
      rw[hset]
      by_cases e:i=q
      · subst e
        rw[zAy (by omega),zAz rfl,h0,zAz ⟨zAj _,g⟩]
      · by_cases e2:q+1≤i
        · rw[zAy e,hsh i e2]
          exact zD84
        · rw[zAy (fun h=>e2 h.1),zAy e,zAy (fun h=>by omega)]
    · rw[i3]
      constructor
      · intro _
        exact .inr ⟨q,zAj _,by rw[h0];exact g⟩
      · intro _;exact .inl rfl
  · rw[zAy g]
    obtain⟨i1,i2,i3⟩:=zk2 hd A (q+1) s (by omega) hm (fun i hi=>he i (by omega))
    refine⟨i1,fun i=>?_,?_⟩
    · rw[i2 i]
      by_cases e2:q+1≤i
      · rw[hsh i e2]
        exact zD84
      · rw[zAy (fun h=>e2 h.1),zAy]
        rintro⟨h1,h2⟩
        obtain rfl:i=q:=by omega
        rw[h0] at h2
        exact g h2
    · rw[i3]
      constructor
      · rintro(h|⟨i,hi,h⟩)
        · exact .inl h
        · exact .inr ⟨i,by omega,by rw[hsh i hi];exact h⟩
      · rintro(h|⟨i,hi,h⟩)
        · exact .inl h
        · by_cases e:i=q
          · subst e;rw[h0] at h;exact absurd h g
          · exact .inr ⟨i,by omega,by rw[hsh i (by omega)] at h;exact h⟩
theorem z9a {L:List Int} {d:Int} (hd:1≤d) {A:List (List Arc)} (hl:A.length=L.length) (b:Bool) :
 (zdg d 0 A (L,b)).1.length=L.length∧(∀ i,(zdg d 0 A (L,b)).1.getD i 0=if nwD L d i (A.getD i [])=true then d else L.getD i 0)∧((zdg d 0 A (L,b)).2=true↔b=true∨∃ i,nwD L d i (A.getD i [])=true):=by
 obtain⟨h1,h2,h3⟩:=zk2 (L:=L) hd A 0 (L,b) (by omega) ⟨rfl,fun i=>.inl rfl⟩ (fun i _=>rfl)
 refine⟨h1,fun i=>?_,?_⟩
 · rw[h2 i,Nat.sub_zero]
   by_cases g:nwD L d i (A.getD i [])=true
   · rw[zAz ⟨zAf _,g⟩,zAz g]
   · rw[zAy (fun h=>g h.2),zAy g]
 · rw[h3]
   simp only[Nat.sub_zero,zAf,true_and]
theorem zc9 {L:List Int} {d:Int} {i:Nat} {l:List Arc}:nwD L d i l=true↔L.getD i 0<0∧∃ x∈l,L.getD x.2.2.toNat 0=d-1∧0≤z88 x:=by
 rw[nwD,zA7,zA3,List.any_eq_true]
 simp only[zoi,zA7,zA3]
theorem y3k {L:List Int} {d:Int} {i:Nat} {l:List Arc} (h:nwD L d i l=true):i<L.length:=by
 have:=(zc9.1 h).1
 by_cases g:i<L.length
 · exact g
 · rw[List.getD,zAv (by omega)] at this
   exact absurd this (by decide)
structure znq (a:Au) (k:Int) (L:List Int):Prop where
 len:L.length=a.F.length
 rng:∀ i,i<L.length→-1≤L.getD i 0∧L.getD i 0≤k
 zer:∀ i,i<L.length→(L.getD i 0=0↔a.F.getD i false=true)
 bck:∀ i j,i<L.length→0≤j→L.getD i 0=j+1→∃ x∈a.A.getD i [],0≤z88 x∧L.getD x.2.2.toNat 0=j
 fwd:∀ i x,i<L.length→x∈a.A.getD i []→0≤z88 x→0≤L.getD x.2.2.toNat 0→L.getD x.2.2.toNat 0<k→0≤L.getD i 0∧L.getD i 0≤L.getD x.2.2.toNat 0+1
structure zq7 (a:Au) (L:List Int):Prop where
 len:L.length=a.F.length
 rng:∀ i,i<L.length→-1≤L.getD i 0∧L.getD i 0<a.F.length
 zer:∀ i,i<L.length→(L.getD i 0=0↔a.F.getD i false=true)
 bck:∀ i j,i<L.length→0≤j→L.getD i 0=j+1→∃ x∈a.A.getD i [],0≤z88 x∧L.getD x.2.2.toNat 0=j
 fwd:∀ i x,i<L.length→x∈a.A.getD i []→0≤z88 x→0≤L.getD x.2.2.toNat 0→0≤L.getD i 0∧L.getD i 0≤L.getD x.2.2.toNat 0+1
def zba (F:List Bool):List Int:=F.map fun f=>if f=true then 0 else -1
theorem zfk (F:List Bool) {i:Nat} (h:i<F.length):(zba F).getD i 0=if F.getD i false=true then 0 else -1:=by
 simp[zba,List.getD,zA0 h]
theorem zs7 (a:Au):znq a 0 (zba a.F):=by
 have hl:(zba a.F).length=a.F.length:=by simp[zba]
 refine⟨hl,fun i hi=>?_,fun i hi=>?_,fun i j hi hj h=>?_,fun i x hi hx h1 h2 h3=>by omega⟩
 · rw[zfk _ (by omega)];split <;> omega
 · rw[zfk _ (by omega)]
   split
   · rename_i h;exact⟨fun _=>h,fun _=>rfl⟩
   · rename_i h;exact⟨fun g=>absurd g (by omega),fun g=>absurd g h⟩
 · rw[zfk _ (by omega)] at h;split at h <;> omega
theorem zkh {a:Au} (h:AuW a) {i:Nat} {x:Arc} (hx:x∈a.A.getD i []):0≤x.1∧x.1≤x.2.1∧x.2.1≤1114111∧0≤x.2.2∧x.2.2<a.F.length:=by
 by_cases g:i<a.A.length
 · rw[List.getD,zA0 g] at hx
   exact(h.arc _ (List.getElem_mem g)).2 x hx
 · rw[List.getD,zAv (by omega)] at hx
   cases hx
theorem z6p {a:Au} {k:Int} {L:List Int} (hl:a.A.length=a.F.length) (hk:0≤k) (h:znq a k L) (b:Bool):znq a (k+1) (zdg (k+1) 0 a.A (L,b)).1:=by
 obtain⟨p1,p2,p3⟩:=z9a (L:=L) (d:=k+1) (by omega) (A:=a.A) (by rw[hl,h.len]) b
 generalize (zdg (k+1) 0 a.A (L,b)).1=t at *
 have hold:∀ i,0≤L.getD i 0→t.getD i 0=L.getD i 0:=fun i hi=>by
  rw[p2,zAy]
  intro g;have:=(zc9.1 g).1;omega
 refine⟨by rw[p1,h.len],fun i hi=>?_,fun i hi=>?_,fun i j hi hj e=>?_,fun i x hi hx h1 h2 h3=>?_⟩
 · have:=h.rng i (by omega)
   rw[p2];split <;> omega
 · rw[← h.zer i (by omega),p2]
   split
   · rename_i g;have:=(zc9.1 g).1;omega
   · rfl
 · rw[p2] at e
   split at e
   · rename_i g
     obtain⟨g1,x,hx,g2,g3⟩:=zc9.1 g
     exact⟨x,hx,g3,by rw[hold _ (by omega)];omega⟩
   · obtain⟨x,hx,g1,g2⟩:=h.bck i j (by omega) hj e
     exact⟨x,hx,g1,by rw[hold _ (by omega)];exact g2⟩
 · have e:t.getD x.2.2.toNat 0=L.getD x.2.2.toNat 0:=by
    rw[p2] at h3 ⊢
    split at h3
    · omega
    · rename_i g;rw[zAy g]
   rw[e] at h2 h3 ⊢
   by_cases g:L.getD x.2.2.toNat 0<k
   · have:=h.fwd i x (by omega) hx h1 h2 g
     rw[hold i this.1];exact this
   · by_cases g2:0≤L.getD i 0
     · have:=h.rng i (by omega)
       rw[hold i g2];omega
     · have hn:nwD L (k+1) i (a.A.getD i [])=true:=zc9.2 ⟨by omega,x,hx,by omega,h1⟩
       rw[p2,zAz hn];omega
theorem zlb {a:Au} {k:Int} {L:List Int} (hw:AuW a) (h:znq a k L):∀ (j:Nat) (i:Nat),i<L.length→L.getD i 0=j→∀ m:Nat,m≤j→∃ i',i'<L.length∧L.getD i' 0=m
 | 0,i,hi,e,m,hm=>by obtain rfl:m=0:=by omega
                     exact⟨i,hi,e⟩
 | j+1,i,hi,e,m,hm=>by
  by_cases g:m=j+1
  · subst g;exact⟨i,hi,e⟩
  · obtain⟨x,hx,_,g2⟩:=h.bck i j hi (by omega) (by omega)
    have hx2:=zkh hw hx
    exact zlb hw h j x.2.2.toNat (by rw[h.len];omega) g2 m (by omega)
theorem ziv {a:Au} {k:Int} {L:List Int} (hw:AuW a) (h:znq a k L) (i:Nat) (hi:i<L.length):L.getD i 0<a.F.length:=by
 by_cases g:L.getD i 0<0
 · omega
 · obtain⟨j,hj⟩:∃ j:Nat,L.getD i 0=j:=⟨(L.getD i 0).toNat,by omega⟩
   have hall:=zlb hw h j i hi hj
   have hn:((List.range (j+1)).map fun n:Nat=>(n:Int)).Nodup:=by
    refine List.pairwise_map.2 ?_
    exact List.Pairwise.imp (fun {x y} (h:x≠y)=>by omega) (List.nodup_range (n:=j+1))
   have:=z5u hn (m:=L) fun x hx=>by
    obtain⟨n,hn,rfl⟩:=List.mem_map.1 hx
    obtain⟨i',h1,h2⟩:=hall n (by have:=List.mem_range.1 hn;omega)
    rw[← h2,List.getD,zA0 h1]
    exact List.getElem_mem h1
   rw[zA4,List.length_range,h.len] at this
   omega
theorem zxd {a:Au} {k:Int} {L:List Int} (hw:AuW a) (h:znq a k L) (hk:∀ i,i<L.length→L.getD i 0<k):zq7 a L :=
 ⟨h.len,fun i hi=>⟨(h.rng i hi).1,ziv hw h i hi⟩,h.zer,h.bck,fun i x hi hx h1 h2=>h.fwd i x hi hx h1 h2 (hk _ (by have:=zkh hw hx;rw[h.len];omega))⟩
theorem y16 {a:Au} {k:Int} {L:List Int} (hw:AuW a) (hk:0≤k) (h:znq a k L) (he:(zdg (k+1) 0 a.A (L,false)).2=false):zq7 a (zdg (k+1) 0 a.A (L,false)).1:=by
 obtain⟨p1,p2,p3⟩:=z9a (L:=L) (d:=k+1) (by omega) (A:=a.A) (by rw[hw.len,h.len]) false
 refine zxd hw (z6p hw.len hk h false) fun i hi=>?_
 rw[p2,zAy]
 · have:=h.rng i (by omega);omega
 · intro g
   have:=p3.2 (.inr ⟨i,g⟩)
   rw[he] at this;cases this
theorem zti {a:Au} {k:Int} {L:List Int} (hw:AuW a) (hk:0≤k) (h:znq a k L) (he:(zdg (k+1) 0 a.A (L,false)).2=true):k+1<a.F.length:=by
 obtain⟨p1,p2,p3⟩:=z9a (L:=L) (d:=k+1) (by omega) (A:=a.A) (by rw[hw.len,h.len]) false
 rcases p3.1 he with g|⟨i,g⟩
 · cases g
 · have:=ziv hw (z6p hw.len hk h false) i (by rw[p1];exact y3k g)
   rw[p2,zAz g] at this;exact this
theorem y5i {a:Au} {L:List Int} (hw:AuW a) (h:znq a a.F.length L):zq7 a L:=zxd hw h fun i hi=>ziv hw h i hi
def itD (a:Au):Nat→List Int
 | 0=>zba a.F
 | k+1=>(zdg ((k:Int)+1) 0 a.A (itD a k,false)).1
theorem zx2 {a:Au} (hw:AuW a):∀ k:Nat,znq a k (itD a k)
 | 0=>zs7 a
 | k+1=>z6p hw.len (by omega) (zx2 hw k) false
def zv9 (a:Au):List Int:=itD a a.F.length
theorem zjt {a:Au} (hw:AuW a):zq7 a (zv9 a):=y5i hw (zx2 hw _)
theorem zms {a:Au} {L M:List Int} (hw:AuW a) (h:zq7 a L) (g:zq7 a M):∀ (j i:Nat),i<L.length→L.getD i 0=j→0≤M.getD i 0∧M.getD i 0≤j
 | 0,i,hi,e=>by
  have hm:=h.len.trans g.len.symm
  have:=(g.zer i (by omega)).2 ((h.zer i hi).1 e)
  omega
 | j+1,i,hi,e=>by
  have hm:=h.len.trans g.len.symm
  obtain⟨x,hx,g1,g2⟩:=h.bck i j hi (by omega) (by omega)
  have hx2:=zkh hw hx
  have ih:=zms hw h g j x.2.2.toNat (by rw[h.len];omega) g2
  have:=g.fwd i x (by omega) hx g1 ih.1
  omega
theorem zyu {a:Au} {L M:List Int} (hw:AuW a) (h:zq7 a L) (g:zq7 a M):L=M:=by
 have hm:=h.len.trans g.len.symm
 refine List.ext_getElem hm fun i h1 h2=>?_
 have e1:L.getD i 0=L[i]:=by simp[List.getD,h1]
 have e2:M.getD i 0=M[i]:=by simp[List.getD,h2]
 rw[← e1,← e2]
 have r1:=(h.rng i h1).1
 have r2:=(g.rng i h2).1
 by_cases k1:0≤L.getD i 0
 · have a1:=zms hw h g (L.getD i 0).toNat i h1 (by omega)
   have a2:=zms hw g h (M.getD i 0).toNat i h2 (by omega)
   omega
 · by_cases k2:0≤M.getD i 0
   · have a2:=zms hw g h (M.getD i 0).toNat i h2 (by omega)
     omega
   · omega
def zof (L:List Int) (k:Int) (x:Arc):Bool:=decide (0≤z88 x)&&decide (L.getD x.2.2.toNat 0=k)
def zoj (A:List (List Arc)) (L:List Int):Nat→Nat→List Int
 | 0,_=>[]
 | k+1,q=>match (A.getD q []).find? (zof L k) with
  | some x=>z88 x::zoj A L k x.2.2.toNat
  | none=>[]
theorem y00 {a:Au} {L:List Int} (hd:zq7 a L) {q k:Nat} (hq:q<L.length) (e:L.getD q 0=(k:Int)+1):∃ x,(a.A.getD q []).find? (zof L k)=some x∧x∈a.A.getD q []∧0≤z88 x∧L.getD x.2.2.toNat 0=k:=by
 obtain⟨x,hx,g1,g2⟩:=hd.bck q k hq (by omega) e
 cases hf:(a.A.getD q []).find? (zof L k) with
 | none =>
  have:=List.find?_eq_none.1 hf x hx
  rw[zof,zAi g1,zAi g2] at this
  exact absurd rfl this
 | some y =>
  have h1:=List.find?_some hf
  rw[zof,zA7,zA3,zA3] at h1
  exact⟨y,rfl,List.mem_of_find?_eq_some hf,h1.1,h1.2⟩
end Go.Ax
