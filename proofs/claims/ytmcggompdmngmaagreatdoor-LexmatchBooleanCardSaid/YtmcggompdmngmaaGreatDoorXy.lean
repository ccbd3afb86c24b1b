/- A part. -/
import Derived.Test.YtmcggompdmngmaaGreatDoorX0
set_option linter.all false
namespace Go.Ax
abbrev Arc:=Int × Int × Int
structure Au where
 F:List Bool
 A:List (List Arc)
def nxt:List Arc→Int→Int
 | [],_=> -1
 | x::l,c=>if x.1≤c∧c≤x.2.1 then x.2.2 else nxt l c
def Au.arcs(a:Au)(q:Int):List Arc:=if q<0 then []else a.A.getD q.toNat []
def Au.fin(a:Au)(q:Int):Bool:=if q<0 then false else a.F.getD q.toNat false
def Au.nx(a:Au)(q c:Int):Int:=nxt (a.arcs q) c
def Au.run(a:Au):Int→List Int→Int
 | q,[]=>q
 | q,c::w=>a.run (a.nx q c) w
def Au.acc(a:Au)(q:Int)(w:List Int):Bool:=a.fin (a.run q w)
theorem Au.acc_nil(a:Au)(q:Int):a.acc q []=a.fin q:=rfl
theorem Au.acc_cons(a:Au)(q c:Int)(w:List Int):a.acc q (c::w)=a.acc (a.nx q c) w:=rfl
theorem Au.nx_neg(a:Au){q:Int}(h:q<0)(c:Int):a.nx q c=-1:=by rw[nx,arcs,zAz h];rfl
theorem Au.acc_neg(a:Au):∀(w:List Int) {q:Int},q<0→a.acc q w=false
 | [],q,h=>by rw[acc_nil,fin,zAz h]
 | c::w,q,h=>by rw[acc_cons,a.nx_neg h c];exact a.acc_neg w (by decide)
def okA:Option Arc→List Arc→Prop
 | _,[]=>True
 | p,x::l=>x.1≤x.2.1∧0≤x.2.2∧(∀y,p=some y→y.2.1<x.1∧¬(y.2.1+1=x.1∧y.2.2=x.2.2))∧okA (some x) l
theorem z9b:∀ {l:List Arc} {y:Arc},okA (some y) l→∀c,c≤y.2.1→nxt l c=-1
 | [],_,_,_,_=>rfl
 | x::l,y,h,c,hc=>by
  have h1:=(h.2.2.1 y rfl).1
  rw[nxt,zAy (by omega)]
  exact z9b h.2.2.2 c (by have:=h.1;omega)
theorem zhn{x:Arc}{l:List Arc}{p:Option Arc}(h:okA p (x::l)){c:Int}(hc:c<x.1):nxt (x::l) c=-1:=by
 rw[nxt,zAy (by omega)]
 exact z9b h.2.2.2 c (by have:=h.1;omega)
theorem z7r{x:Arc}{l:List Arc}{c:Int}(h1:x.1≤c)(h2:c≤x.2.1):nxt (x::l) c=x.2.2:=by rw[nxt,zAz ⟨h1,h2⟩]
theorem zo1{l:List Arc}{y:Arc}(h:okA (some y) l):nxt l (y.2.1+1)≠y.2.2∨y.2.2<0:=by
 cases l with
 | nil=>simp only[nxt];omega
 | cons x l =>
  have h1:=h.2.2.1 y rfl
  by_cases hc:x.1=y.2.1+1
  ·left
   rw[z7r (by omega) (by have:=h.1;omega)]
   exact fun e=>h1.2 ⟨hc.symm,e.symm⟩
  ·rw[zhn h (by omega)]
   omega
theorem y2b:∀ {l m:List Arc} {p:Option Arc},okA p l→okA p m→(∀c,nxt l c=nxt m c)→l=m
 | [],[],_,_,_,_=>rfl
 | [],y::m,p,_,h2,h=>by
  have:=h y.1
  rw[z7r (Int.le_refl _) h2.1]at this
  have:=h2.2.1
  simp only[nxt]at *;omega
 | x::l,[],p,h1,_,h=>by
  have:=h x.1
  rw[z7r (Int.le_refl _) h1.1]at this
  have:=h1.2.1
  simp only[nxt]at *;omega
 | x::l,y::m,p,h1,h2,h=>by
  have e1:x.1=y.1:=by
   rcases Int.lt_trichotomy x.1 y.1 with g|g|g
   ·have:=h x.1
    rw[z7r (Int.le_refl _) h1.1,zhn h2 g]at this
    have:=h1.2.1;omega
   ·exact g
   ·have:=h y.1
    rw[z7r (Int.le_refl _) h2.1,zhn h1 g]at this
    have:=h2.2.1;omega
  have e2:x.2.2=y.2.2:=by
   have:=h x.1
   rw[z7r (Int.le_refl _) h1.1,z7r (by omega) (by have:=h2.1;omega)]at this
   exact this
  have e3:x.2.1=y.2.1:=by
   rcases Int.lt_trichotomy x.2.1 y.2.1 with g|g|g
   ·have:=h (x.2.1+1)
    rw[z7r (x:=y) (by have:=h1.1;omega) (by omega),nxt,zAy (by omega)]at this
    rcases zo1 h1.2.2.2 with g2|g2
    ·exact absurd (this.trans e2.symm) g2
    ·have:=h1.2.1;omega
   ·exact g
   ·have:=h (y.2.1+1)
    rw[z7r (x:=x) (by have:=h2.1;omega) (by omega),nxt,zAy (by omega)]at this
    rcases zo1 h2.2.2.2 with g2|g2
    ·exact absurd (this.symm.trans e2) g2
    ·have:=h2.2.1;omega
  have e:x=y:=by
   obtain⟨a,b,c⟩:=x;obtain⟨a',b',c'⟩:=y
   simp only at e1 e2 e3;rw[e1,e2,e3]
  subst e
  congr 1
  refine y2b h1.2.2.2 h2.2.2.2 fun c=>?_
  by_cases hc:c≤x.2.1
  ·rw[z9b h1.2.2.2 c hc,z9b h2.2.2.2 c hc]
  ·have:=h c
   rw[nxt,nxt,zAy (by omega),zAy (by omega)]at this
   exact this
def before(i c j d:Int):Prop:=i<j∨i=j∧c<d
structure Can(a:Au):Prop where
 pos:0<a.F.length
 len:a.A.length=a.F.length
 ok:∀l∈a.A,okA none l
 rng:∀q c,a.nx q c<a.F.length
 bfs:∀j:Int,1≤j→j<a.F.length→∃i c,0≤i∧i<j∧a.nx i c=j∧∀i' c',0≤i'→before i' c' i c→a.nx i' c'<j
 dif:∀i j:Int,0≤i→i<a.F.length→0≤j→j<a.F.length→(∀w,a.acc i w=a.acc j w)→i=j
 live:∀i:Int,0≤i→i<a.F.length→∃w,a.acc i w=true
theorem y0y{p:Option Arc}:∀ {l:List Arc} {p:Option Arc},okA p l→∀c,-1≤nxt l c
 | [],_,_,_=>Int.le_refl _
 | x::l,p,h,c=>by
  rw[nxt]
  split
  ·have:=h.2.1;omega
  ·exact y0y (p:=none) h.2.2.2 c
section
variable{a b:Au}(ha:Can a)(hb:Can b)(h0:∀w,a.acc 0 w=b.acc 0 w)
include ha hb
end
def z8n:Option Arc→List Arc→Option Arc
 | p,[]=>p
 | _,x::l=>z8n (some x) l
theorem z2s:∀(l:List Arc) (p:Option Arc) (x:Arc),z8n p (l++[x])=some x
 | [],_,_=>rfl
 | y::l,p,x=>by rw[List.cons_append,z8n,z2s l]
theorem zi4:∀ {l:List Arc} {p:Option Arc} {x:Arc},okA p l→x.1≤x.2.1→0≤x.2.2→(∀y,z8n p l=some y→y.2.1<x.1∧¬(y.2.1+1=x.1∧y.2.2=x.2.2))→okA p (l++[x])
 | [],p,x,_,h1,h2,h3=>⟨h1,h2,h3,trivial⟩
 | z::l,p,x,h,h1,h2,h3=>⟨h.1,h.2.1,h.2.2.1,zi4 h.2.2.2 h1 h2 h3⟩
theorem zoy:∀ {l:List Arc} {p:Option Arc} {x:Arc},okA p (l++[x])→okA p l∧x.1≤x.2.1∧0≤x.2.2∧∀y,z8n p l=some y→y.2.1<x.1∧¬(y.2.1+1=x.1∧y.2.2=x.2.2)
 | [],p,x,h=>⟨trivial,h.1,h.2.1,h.2.2.1⟩
 | z::l,p,x,h=>by
  obtain⟨h1,h2⟩:=zoy (l:=l) (p:=some z) h.2.2.2
  exact⟨⟨h.1,h.2.1,h.2.2.1,h1⟩,h2⟩
theorem zgi:∀ {l:List Arc} {p:Option Arc},okA p l→∀(m:List Arc) (c:Int),nxt (l++m) c=if nxt l c=-1 then nxt m c else nxt l c
 | [],_,_,m,c=>by simp[nxt]
 | x::l,p,h,m,c=>by
  rw[List.cons_append,nxt,nxt]
  by_cases hc:x.1≤c∧c≤x.2.1
  ·rw[zAz hc,zAz hc,zAy (by have:=h.2.1;omega)]
  ·rw[zAy hc,zAy hc]
   exact zgi h.2.2.2 m c
theorem zo7:∀ {l:List Arc} {p:Option Arc} {y:Arc},okA p l→z8n p l=some y→(∀z,p=some z→z=y∨z.2.1<y.1∨True)→∀c,y.2.1<c→nxt l c=-1
 | [],_,_,_,_,_,_,_=>rfl
 | x::l,p,y,h,hl,_,c,hc=>by
  have h1:nxt l c=-1:=zo7 h.2.2.2 hl (fun _ _=>.inr (.inr trivial)) c hc
  have h2:x.2.1≤y.2.1:=by
   have key:∀(l:List Arc) (x y:Arc),okA (some x) l→z8n (some x) l=some y→x.2.1≤y.2.1:=fun l=>by
    induction l with
    | nil=>intro x y _ h;rw[z8n]at h;cases h;exact Int.le_refl _
    | cons z l ih =>
     intro x y h hl
     have:=ih z y h.2.2.2 hl
     have:=(h.2.2.1 x rfl).1
     have:=h.1
     omega
   exact key l x y h.2.2.2 hl
  rw[nxt,zAy (by omega)];exact h1
def ext(l:List Arc)(f t q:Int):List Arc:=match l.getLast? with
 | some y=>if y.2.1+1=f∧y.2.2=q then l.dropLast++[(y.1,t,q)]else l++[(f,t,q)]
 | none=>[(f,t,q)]
theorem ext_nil(f t q:Int):ext [] f t q=[(f,t,q)]:=rfl
theorem z47(l:List Arc)(y:Arc)(f t q:Int):ext (l++[y]) f t q=if y.2.1+1=f∧y.2.2=q then l++[(y.1,t,q)]else l++[y]++[(f,t,q)]:=by
 rw[ext,List.getLast?_append]
 simp
theorem zqy{α:Type}(l:List α):l=[]∨∃m x,l=m++[x]:=by
 rcases List.eq_nil_or_concat l with h|⟨m,x,h⟩
 ·exact .inl h
 ·exact .inr ⟨m,x,by rw[h,List.concat_eq_append]⟩
theorem y15{l:List Arc}{f t q:Int}(h:okA none l)(hft:f≤t)(hq:0≤q)(hl:∀y,z8n none l=some y→y.2.1<f):okA none (ext l f t q)∧z8n none (ext l f t q)≠none∧(∀y,z8n none (ext l f t q)=some y→y.2.1=t) ∧
 ∀c,nxt (ext l f t q) c=if f≤c∧c≤t then q else nxt l c:=by
 rcases zqy l with rfl|⟨m,y,rfl⟩
 ·rw[ext_nil]
  refine⟨⟨hft,hq,(fun y hy=>by cases hy),trivial⟩,by simp[z8n],fun y hy=>?_,fun c=>?_⟩
  ·simp only[z8n,zAh]at hy;rw[←hy]
  ·simp only[nxt]
 ·have hy:=hl y (z2s _ _ _)
  obtain⟨h1,h2,h3,h4⟩:=zoy h
  rw[z47]
  have hm:∀c,y.1≤c→nxt m c=-1:=fun c hc=>by
   rcases zqy m with rfl|⟨m',z,rfl⟩
   ·rfl
   ·have:=(h4 z (z2s _ _ _)).1
    exact zo7 h1 (z2s _ _ _) (fun _ _=>.inr (.inr trivial)) c (by omega)
  by_cases hj:y.2.1+1=f∧y.2.2=q
  ·rw[zAz hj]
   refine⟨zi4 h1 (by simp only;omega) (by simp only;omega) fun z hz=>?_,by rw[z2s];simp,fun z hz=>?_,fun c=>?_⟩
   ·have:=h4 z hz
    simp only
    exact⟨this.1,fun g=>this.2 ⟨g.1,by rw[g.2,hj.2]⟩⟩
   ·rw[z2s]at hz;cases hz;rfl
   ·rw[zgi h1,zgi h1]
    simp only[nxt]
    by_cases hc:f≤c∧c≤t
    ·rw[zAz hc,zAz (hm c (by omega)),zAz (by omega)]
    ·rw[zAy hc]
     by_cases hmc:nxt m c=-1
     ·rw[zAz hmc,zAz hmc]
      by_cases hc2:y.1≤c∧c≤y.2.1
      ·rw[zAz hc2,zAz (by omega),hj.2]
      ·rw[zAy hc2,zAy (by omega)]
     ·rw[zAy hmc,zAy hmc]
  ·rw[zAy hj]
   refine⟨zi4 h (by simpa using hft) (by simpa using hq) fun z hz=>?_,by rw[z2s];simp,fun z hz=>?_,fun c=>?_⟩
   ·rw[z2s]at hz
    cases hz
    exact⟨hy,hj⟩
   ·rw[z2s]at hz;cases hz;rfl
   ·rw[zgi h]
    simp only[nxt]
    by_cases hc:f≤c∧c≤t
    ·have:nxt (m++[y]) c=-1:=zo7 h (z2s _ _ _) (fun _ _=>.inr (.inr trivial)) c (by omega)
     rw[zAz hc,zAz this,zAz hc]
    ·rw[zAy hc,zAy hc]
     split
     ·rename_i h5;rw[h5]
     ·rfl
abbrev Edge(K:Type):=Int × Int × K
def kx{K:Type}:List (Edge K)→Int→Option K
 | [],_=>none
 | e::l,c=>if e.1≤c∧c≤e.2.1 then some e.2.2 else kx l c
def okE{K:Type}:Int→List (Edge K)→Prop
 | _,[]=>True
 | a,e::l=>a≤e.1∧e.1≤e.2.1∧e.2.1≤1114111∧okE (e.2.1+1) l
theorem zv8{K:Type}:∀ {l:List (Edge K)} {a:Int},okE a l→∀c,c<a→kx l c=none
 | [],_,_,_,_=>rfl
 | e::l,a,h,c,hc=>by
  rw[kx,zAy (by have:=h.1;omega)]
  exact zv8 h.2.2.2 c (by have:=h.1;have:=h.2.1;omega)
section
variable{K:Type}[DecidableEq K]
def z3o(k:K):List K→Nat
 | []=>0
 | x::l=>if x=k then 0 else z3o k l+1
theorem z36{k:K}:∀ {l:List K},k∈l→z3o k l<l.length∧l[z3o k l]? =some k
 | [],h=>by simp at h
 | x::l,h=>by
  rw[z3o]
  by_cases hx:x=k
  ·rw[zAz hx];exact⟨by simp,by simp[hx]⟩
  ·rw[zAy hx]
   rw[zAc]at h
   have:=z36 (h.resolve_left fun g=>hx g.symm)
   exact⟨by rw[zAk];omega,by rw[List.getElem?_cons_succ];exact this.2⟩
theorem z48{k:K}:∀ {l:List K},k∉l→z3o k l=l.length
 | [],_=>rfl
 | x::l,h=>by
  rw[zAc,not_or]at h
  rw[z3o,zAy fun g=>h.1 g.symm,z48 h.2];rfl
theorem zcu{k:K}:∀ {l m:List K},k∈l→z3o k (l++m)=z3o k l
 | [],m,h=>by simp at h
 | x::l,m,h=>by
  rw[List.cons_append,z3o,z3o]
  by_cases hx:x=k
  ·rw[zAz hx,zAz hx]
  ·rw[zAy hx,zAy hx,zcu ((zAc.1 h).resolve_left fun g=>hx g.symm)]
def z7j(ks:List K)(k:K):List K:=if k∈ks then ks else ks++[k]
theorem z9l(ks:List K)(k:K):k∈z7j ks k:=by rw[z7j];split <;> simp[*]
theorem zgg(ks:List K)(k:K):z3o k (z7j ks k)=z3o k ks:=by
 rw[z7j];split
 ·rfl
 ·rename_i h
  rw[z48 h]
  have key:∀l:List K,k∉l→z3o k (l++[k])=l.length:=fun l=>by
   induction l with
   | nil=>intro _;simp[z3o]
   | cons x l ih =>
    intro h
    rw[zAc,not_or]at h
    rw[List.cons_append,z3o,zAy fun g=>h.1 g.symm,ih h.2];rfl
  exact key ks h
theorem z89(ks:List K)(k:K):∃r,z7j ks k=ks++r:=by
 rw[z7j];split
 ·exact⟨[],by simp⟩
 ·exact⟨[k],rfl⟩
theorem zbi{ks:List K}{k:K}(h:ks.Nodup):(z7j ks k).Nodup:=by
 rw[z7j];split
 ·exact h
 ·rename_i hk
  rw[List.nodup_append]
  exact⟨h,by simp,fun a ha b hb=>by rw[zAq]at hb;subst hb;exact fun g=>hk (g▸ha)⟩
def z7f(s:List K × List Arc)(e:Edge K):List K × List Arc:=(z7j s.1 e.2.2,ext s.2 e.1 e.2.1 (z3o e.2.2 s.1:Nat))
def exL(fin:K→Bool)(edg:K→List (Edge K))(lim:Nat):Nat→Nat→List K→Au→Option Au
 | 0,_,_,_=>none
 | n+1,i,ks,a=>match ks[i]? with
  | none=>some a
  | some k=>if lim<((edg k).foldl z7f (ks,[])).1.length then none else exL fin edg lim n (i+1) ((edg k).foldl z7f (ks,[])).1 ⟨a.F++[fin k],a.A++[((edg k).foldl z7f (ks,[])).2]⟩
end
section
variable{K:Type}[DecidableEq K]
theorem zgv{l:List K}(h:l.Nodup){i:Nat}{k:K}(hi:l[i]? =some k):z3o k l=i:=by
 have hm:k∈l:=zA2 hi
 obtain⟨h1,h2⟩:=z36 hm
 obtain⟨h3,h4⟩:=zA1.1 hi
 obtain⟨h5,h6⟩:=zA1.1 h2
 exact(List.getElem_inj (h₀:=h5) (h₁:=h3) h).1 (h6.trans h4.symm)
structure Fold(es:List (Edge K))(a:Int)(ks:List K)(l:List Arc)(r:List K × List Arc):Prop where
 pre:∃e,r.1=ks++e
 nod:ks.Nodup→r.1.Nodup
 ok:okA none r.2
 nx:∀c,nxt r.2 c=match kx es c with|some k=>((z3o k r.1:Nat):Int)|none=>nxt l c
 mem:∀c k,kx es c=some k→k∈r.1
 bfs:∀j k,ks.length≤j→r.1[j]? =some k→∃c,a≤c∧kx es c=some k∧∀c' k',c'<c→kx es c'=some k'→z3o k' r.1<j
theorem zum:∀(es:List (Edge K)) (a:Int) (ks:List K) (l:List Arc),okE a es→okA none l→(∀y,z8n none l=some y→y.2.1<a)→Fold es a ks l (es.foldl z7f (ks,l))
 | [],a,ks,l,_,h2,_=>⟨⟨[],by simp⟩,fun h=>h,h2,fun c=>rfl,fun c k h=>by simp[kx]at h,fun j k h1 h2=>by
     rw[List.foldl_nil]at h2
     have:=(zA1.1 h2).1
     simp only at this;omega⟩
 | e::es,a,ks,l,h1,h2,h3=>by
  have hx:=y15 (q:=(z3o e.2.2 ks:Nat)) h2 h1.2.1 (by omega) fun y hy=>by have:=h3 y hy;have:=h1.1;omega
  obtain⟨x1,x2,x3,x4⟩:=hx
  have ih:=zum es (e.2.1+1) (z7j ks e.2.2) (ext l e.1 e.2.1 (z3o e.2.2 ks:Nat)) h1.2.2.2 x1 fun y hy=>by rw[x3 y hy];omega
  rw[List.foldl_cons]
  change Fold (e::es) a ks l (es.foldl z7f (z7j ks e.2.2,ext l e.1 e.2.1 (z3o e.2.2 ks:Nat)))
  obtain⟨g1,g2,g3,g4,g5,g6⟩:=ih
  generalize es.foldl z7f (z7j ks e.2.2,ext l e.1 e.2.1 (z3o e.2.2 ks:Nat))=r at *
  obtain⟨q1,hq1⟩:=g1
  obtain⟨q2,hq2⟩:=z89 ks e.2.2
  have hix:z3o e.2.2 r.1=z3o e.2.2 ks:=by rw[hq1,zcu (z9l ks e.2.2),zgg]
  have hem:e.2.2∈r.1:=by rw[hq1];exact List.mem_append_left _ (z9l _ _)
  refine⟨⟨q2++q1,by rw[hq1,hq2,zAl]⟩,fun h=>g2 (zbi h),g3,fun c=>?_,fun c k h=>?_,fun j k hj hk=>?_⟩
  ·rw[g4 c,kx]
   by_cases hc:e.1≤c∧c≤e.2.1
   ·rw[zAz hc,zv8 h1.2.2.2 c (by omega)]
    simp only
    rw[x4 c,zAz hc,hix]
   ·rw[zAy hc]
    cases kx es c with
    | some k=>rfl
    | none=>simp only;rw[x4 c,zAy hc]
  ·rw[kx]at h
   split at h
   ·simp only[zAh]at h;rw[←h];exact hem
   ·exact g5 c k h
  ·by_cases hj2:(z7j ks e.2.2).length≤j
   ·obtain⟨c,c1,c2,c3⟩:=g6 j k hj2 hk
    refine⟨c,by have:=h1.1;have:=h1.2.1;omega,by rw[kx,zAy (by omega)];exact c2,fun c' k' hc' hk'=>?_⟩
    rw[kx]at hk'
    split at hk'
    ·simp only[zAh]at hk'
     subst hk'
     have:=(z36 (z9l ks e.2.2)).1
     rw[zgg]at this
     rw[hix];omega
    ·exact c3 c' k' hc' hk'
   · -- the new key of this edge
     have hnew:e.2.2∉ks:=fun g=>hj2 (by rw[z7j,zAz g];exact hj)
     have hadd:z7j ks e.2.2=ks++[e.2.2]:=by rw[z7j,zAy hnew]
     rw[hadd,zAa,zAn]at hj2
     obtain rfl:j=ks.length:=by omega
     have hke:k=e.2.2:=by
      rw[hq1,hadd,zAl,zAg (zAj _),Nat.sub_self]at hk
      simpa using hk.symm
     refine⟨e.1,h1.1,by rw[kx,zAz ⟨Int.le_refl _,h1.2.1⟩,hke],fun c' k' hc' hk'=>?_⟩
     rw[kx,zAy (by omega),zv8 h1.2.2.2 c' (by have:=h1.2.1;omega)]at hk'
     cases hk'
def zku(fin:K→Bool)(edg:K→List (Edge K)):Option K→List Int→Bool
 | none,_=>false
 | some k,[]=>fin k
 | some k,c::w=>zku fin edg (kx (edg k) c) w
structure Ex(fin:K→Bool)(edg:K→List (Edge K))(first:K)(i:Nat)(ks:List K)(a:Au):Prop where
 le:i≤ks.length
 fl:a.F.length=i
 al:a.A.length=i
 hd:ks[0]? =some first
 nod:ks.Nodup
 fin_:∀q k,q<i→ks[q]? =some k→a.F[q]? =some (fin k)
 arc:∀q k,q<i→ks[q]? =some k→∃l,a.A[q]? =some l∧okA none l∧(∀c,nxt l c=match kx (edg k) c with|some k'=>((z3o k' ks:Nat):Int)|none=> -1)∧∀c k',kx (edg k) c=some k'→k'∈ks
 bfs:∀j:Nat,1≤j→j<ks.length→∃q k c,q<i∧q<j∧ks[q]? =some k∧(∃k',kx (edg k) c=some k'∧ks[j]? =some k') ∧
  ∀q' k0 c' k',(q'<q∨q'=q∧c'<c)→ks[q']? =some k0→kx (edg k0) c'=some k'→z3o k' ks<j
theorem zw6{fin:K→Bool}{edg:K→List (Edge K)}{first:K}{i:Nat}{ks:List K}{a:Au}(h:Ex fin edg first i ks a){k:K}(hk:ks[i]? =some k)(he:okE 0 (edg k)) :
 Ex fin edg first (i+1) ((edg k).foldl z7f (ks,[])).1 ⟨a.F++[fin k],a.A++[((edg k).foldl z7f (ks,[])).2]⟩:=by
 have hf:=zum (edg k) 0 ks [] he trivial fun y hy=>by cases hy
 generalize (edg k).foldl z7f (ks,[])=r at *
 obtain⟨⟨e,hp⟩,g2,g3,g4,g5,g6⟩:=hf
 obtain⟨hi,_⟩:=zA1.1 hk
 have hget:∀ {q:Nat} {x:K},q<ks.length→r.1[q]? =some x→ks[q]? =some x:=fun {q x} hq hx=>by
  rw[hp,zAb hq]at hx;exact hx
 have hget2:∀ {q:Nat} {x:K},ks[q]? =some x→r.1[q]? =some x:=fun {q x} hx=>by
  rw[hp,zAb (zA1.1 hx).1];exact hx
 have hix:∀ {x:K},x∈ks→z3o x r.1=z3o x ks:=fun {x} hx=>by rw[hp,zcu hx]
 have hmem:∀ {x:K},x∈ks→x∈r.1:=fun {x} hx=>by rw[hp];exact List.mem_append_left _ hx
 have hkr:=hget2 hk
 refine⟨?_,by simp[h.fl],by simp[h.al],hget2 h.hd,g2 h.nod,fun q x hq hx=>?_,fun q x hq hx=>?_,fun j hj1 hj2=>?_⟩
 ·rw[hp,zAa];omega
 ·by_cases hqi:q<i
  ·have:=h.fin_ q x hqi (hget (by omega) hx)
   simp only
   rw[zAb (by rw[h.fl];omega)];exact this
  ·obtain rfl:q=i:=by omega
   rw[hkr]at hx;cases hx
   simp only
   rw[zAg (by rw[h.fl];omega),h.fl,Nat.sub_self];rfl
 ·by_cases hqi:q<i
  ·obtain⟨l,l1,l2,l3,l4⟩:=h.arc q x hqi (hget (by omega) hx)
   refine⟨l,?_,l2,fun c=>?_,fun c k' hk'=>hmem (l4 c k' hk')⟩
   ·simp only
    rw[zAb (by rw[h.al];omega)];exact l1
   ·rw[l3 c]
    cases hc:kx (edg x) c with
    | none=>rfl
    | some k'=>simp only;rw[hix (l4 c k' hc)]
  ·obtain rfl:q=i:=by omega
   rw[hkr]at hx;cases hx
   refine⟨r.2,?_,g3,fun c=>?_,fun c k' hk'=>g5 c k' hk'⟩
   ·simp only
    rw[zAg (by rw[h.al];omega),h.al,Nat.sub_self];rfl
   ·rw[g4 c];rfl
 ·by_cases hjk:j<ks.length
  ·obtain⟨q,x,c,q1,q2,q3,⟨k',k1,k2⟩,q4⟩:=h.bfs j hj1 hjk
   refine⟨q,x,c,by omega,q2,hget2 q3,⟨k',k1,hget2 k2⟩,fun q' k0 c' k2' hb h0 h1=>?_⟩
   have hq':q'<ks.length:=by have:=(zA1.1 q3).1;omega
   have h0':=hget hq' h0
   have hm:k2'∈ks:=by
    obtain⟨l,_,_,_,l4⟩:=h.arc q' k0 (by omega) h0'
    exact l4 c' k2' h1
   rw[hix hm]
   exact q4 q' k0 c' k2' hb h0' h1
  ·obtain⟨k',hk'⟩:∃k',r.1[j]? =some k':=⟨_,zA0 hj2⟩
   obtain⟨c,c1,c2,c3⟩:=g6 j k' (by omega) hk'
   refine⟨i,k,c,by omega,by omega,hkr,⟨k',c2,hk'⟩,fun q' k0 c' k2' hb h0 h1=>?_⟩
   rcases hb with hb|⟨rfl,hb⟩
   ·have h0':=hget (by omega) h0
    obtain⟨l,_,_,_,l4⟩:=h.arc q' k0 hb h0'
    have hm:=l4 c' k2' h1
    rw[hix hm]
    have:=(z36 hm).1
    omega
   ·rw[hkr]at h0;cases h0
    exact c3 c' k2' hb h1
theorem zre{fin:K→Bool}{edg:K→List (Edge K)}{first:K}{lim:Nat}(he:∀k,okE 0 (edg k)):∀(n i:Nat) (ks:List K) (a b:Au),Ex fin edg first i ks a→exL fin edg lim n i ks a=some b→∃ks',Ex fin edg first ks'.length ks' b
 | 0,i,ks,a,b,_,h=>by rw[exL]at h;cases h
 | n+1,i,ks,a,b,hx,h=>by
  rw[exL]at h
  split at h
  ·rename_i hn
   simp only[zAh]at h
   subst h
   have:ks.length≤i:=by simpa using hn
   have:=hx.le
   obtain rfl:i=ks.length:=by omega
   exact⟨ks,hx⟩
  ·rename_i k hk
   split at h
   ·cases h
   ·exact zre he n _ _ _ b (zw6 hx hk (he k)) h
theorem yb3(fin:K→Bool)(edg:K→List (Edge K))(first:K):Ex fin edg first 0 [first] ⟨[],[]⟩ :=
 ⟨zAf _,rfl,rfl,rfl,by simp,fun q k h=>absurd h (Nat.not_lt_zero _),fun q k h=>absurd h (Nat.not_lt_zero _),fun j h1 h2=>by simp at h2;omega⟩
theorem zg5{fin:K→Bool}{edg:K→List (Edge K)}{first:K}{ks:List K}{a:Au}(h:Ex fin edg first ks.length ks a):∀(w:List Int) (q:Nat) (k:K),ks[q]? =some k→a.acc (q:Nat) w=zku fin edg (some k) w
 | [],q,k,hk=>by
  have hq:=(zA1.1 hk).1
  rw[Au.acc_nil,Au.fin,zAy (by omega),zA9,List.getD,h.fin_ q k hq hk,zku];rfl
 | c::w,q,k,hk=>by
  have hq:=(zA1.1 hk).1
  obtain⟨l,l1,l2,l3,l4⟩:=h.arc q k hq hk
  have e1:a.nx (q:Nat) c=nxt l c:=by rw[Au.nx,Au.arcs,zAy (by omega),zA9,List.getD,l1];rfl
  rw[Au.acc_cons,zku,e1,l3 c]
  cases hc:kx (edg k) c with
  | none=>simp only;rw[a.acc_neg w (by decide),zku]
  | some k'=>simp only;exact zg5 h w _ k' (z36 (l4 c k' hc)).2
theorem y91{fin:K→Bool}{edg:K→List (Edge K)}{first:K}{ks:List K}{a:Au}(h:Ex fin edg first ks.length ks a)
 (hd:∀x∈ks,∀y∈ks,(∀w,zku fin edg (some x) w=zku fin edg (some y) w)→x=y) (hl:∀x∈ks,∃w,zku fin edg (some x) w=true):Can a:=by
 have hpos:0<ks.length:=(zA1.1 h.hd).1
 have hnx:∀(q:Nat) (k:K) (c:Int),ks[q]? =some k→a.nx (q:Nat) c=match kx (edg k) c with|some k'=>((z3o k' ks:Nat):Int)|none=> -1:=fun q k c hk=>by
  obtain⟨l,l1,l2,l3,l4⟩:=h.arc q k (zA1.1 hk).1 hk
  rw[Au.nx,Au.arcs,zAy (by omega),zA9,List.getD,l1]
  exact l3 c
 have hout:∀(q c:Int),q<0∨(ks.length:Int)≤q→a.nx q c=-1:=fun q c hq=>by
  rw[Au.nx,Au.arcs]
  split
  ·rfl
  ·rw[List.getD,zAv (by rw[h.al];omega)];rfl
 have hget:∀q:Int,0≤q→q<ks.length→∃k,ks[q.toNat]? =some k:=fun q h0 h1=>⟨_,zA0 (by omega)⟩
 refine⟨by rw[h.fl];exact hpos,by rw[h.al,h.fl],fun l hl'=>?_,fun q c=>?_,fun j j1 j2=>?_,fun i j i0 i1 j0 j1 hw=>?_,fun i i0 i1=>?_⟩
 ·obtain⟨q,hq⟩:=List.mem_iff_getElem?.1 hl'
  have hq1:q<ks.length:=by have:=(zA1.1 hq).1;rw[h.al]at this;exact this
  obtain⟨k,hk⟩:∃k,ks[q]? =some k:=⟨_,zA0 hq1⟩
  obtain⟨l',l1,l2,_,_⟩:=h.arc q k hq1 hk
  rw[hq]at l1;cases l1;exact l2
 ·rw[h.fl]
  by_cases hq:q<0∨(ks.length:Int)≤q
  ·rw[hout q c hq];omega
  ·obtain⟨k,hk⟩:=hget q (by omega) (by omega)
   have:=hnx q.toNat k c hk
   rw[show((q.toNat:Nat):Int)=q by omega]at this
   rw[this]
   obtain⟨l,_,_,_,l4⟩:=h.arc q.toNat k (zA1.1 hk).1 hk
   cases hc:kx (edg k) c with
   | none=>simp only;omega
   | some k'=>simp only;have:=(z36 (l4 c k' hc)).1;omega
 ·rw[h.fl]at j2
  obtain⟨q,k,c,q1,q2,q3,⟨k',k1,k2⟩,q4⟩:=h.bfs j.toNat (by omega) (by omega)
  refine⟨(q:Nat),c,by omega,by omega,?_,fun i' c' hi' hb=>?_⟩
  ·rw[hnx q k c q3,k1]
   simp only
   rw[zgv h.nod k2];omega
  ·by_cases hi2:(ks.length:Int)≤i'
   ·rw[hout i' c' (.inr hi2)];omega
   ·obtain⟨k0,hk0⟩:=hget i' hi' (by omega)
    have:=hnx i'.toNat k0 c' hk0
    rw[show((i'.toNat:Nat):Int)=i' by omega]at this
    rw[this]
    cases hc:kx (edg k0) c' with
    | none=>simp only;omega
    | some k2' =>
     simp only
     have:=q4 i'.toNat k0 c' k2' (by unfold before at hb;omega) hk0 hc
     omega
 ·rw[h.fl]at i1 j1
  obtain⟨x,hx⟩:=hget i i0 i1
  obtain⟨y,hy⟩:=hget j j0 j1
  have hxy:=hd x (zA2 hx) y (zA2 hy) fun w=>by
   have e1:=zg5 h w i.toNat x hx
   have e2:=zg5 h w j.toNat y hy
   rw[show((i.toNat:Nat):Int)=i by omega]at e1
   rw[show((j.toNat:Nat):Int)=j by omega]at e2
   rw[←e1,←e2,hw w]
  have e1:=zgv h.nod hx
  have e2:=zgv h.nod hy
  rw[hxy]at e1
  omega
 ·rw[h.fl]at i1
  obtain⟨x,hx⟩:=hget i i0 i1
  obtain⟨w,hw⟩:=hl x (zA2 hx)
  refine⟨w,?_⟩
  have e1:=zg5 h w i.toNat x hx
  rw[show((i.toNat:Nat):Int)=i by omega]at e1
  rw[e1,hw]
end
def y2z(n:Int)(x:Arc):Bool:=decide (x.1<0)||decide (x.1>x.2.1)||decide (x.2.1>1114111)||decide (x.2.2<0)||decide (x.2.2≥n)
def zwt(p x:Arc):Bool:=decide (x.1≤p.2.1)||(decide (x.1=p.2.1+1)&&decide (x.2.2=p.2.2))
def zme(n:Int):Option Arc→List Arc→Int
 | _,[]=>0
 | p,x::l=>if y2z n x=true then 8 else match p with
  | some y=>if zwt y x=true then 6 else zme n (some x) l
  | none=>zme n (some x) l
theorem ze2(n:Int)(p:Option Arc)(x:Arc)(l:List Arc):zme n p (x::l)=if y2z n x=true then 8 else match p with
 | some y=>if zwt y x=true then 6 else zme n (some x) l
 | none=>zme n (some x) l:=by cases p <;> rfl
def zez(n:Int):List (List Arc)→Int
 | []=>0
 | l::A=>if zme n none l≠0 then zme n none l else zez n A
def vAu(a:Au):Int:=if 256<a.F.length then 2 else if a.F.length=0∨a.A.length≠a.F.length then 15 else zez a.F.length a.A
theorem zh7:∀ {n:Int} {l:List Arc} {p:Option Arc},zme n p l=0→okA p l∧∀x∈l,0≤x.1∧x.1≤x.2.1∧x.2.1≤1114111∧0≤x.2.2∧x.2.2<n
 | n,[],p,_=>⟨trivial,by simp⟩
 | n,x::l,p,h=>by
  rw[ze2]at h
  split at h
  ·cases h
  rename_i hb
  simp only[y2z,zAu,zA3,not_or]at hb
  have hx:0≤x.1∧x.1≤x.2.1∧x.2.1≤1114111∧0≤x.2.2∧x.2.2<n:=by omega
  have fin:zme n (some x) l=0→∀y∈x::l,0≤y.1∧y.1≤y.2.1∧y.2.1≤1114111∧0≤y.2.2∧y.2.2<n:=fun h y hy=>by
   rw[zAc]at hy
   rcases hy with rfl|hy
   ·exact hx
   ·exact(zh7 h).2 y hy
  cases p with
  | none =>
   simp only at h
   exact⟨⟨hx.2.1,hx.2.2.2.1,(fun y hy=>by cases hy),(zh7 h).1⟩,fin h⟩
  | some y =>
   simp only at h
   split at h
   ·cases h
   ·rename_i ho
    simp only[zwt,zAu,zA7,zA3,not_or,not_and]at ho
    refine⟨⟨hx.2.1,hx.2.2.2.1,fun z hz=>?_,(zh7 h).1⟩,fin h⟩
    cases hz
    refine⟨by omega,fun g=>?_⟩
    exact ho.2 (by omega) g.2.symm
theorem zp4:∀ {n:Int} {A:List (List Arc)},zez n A=0→∀l∈A,zme n none l=0
 | n,[],_,l,hl=>by simp at hl
 | n,m::A,h,l,hl=>by
  rw[zez]at h
  split at h
  ·rename_i h1;exact absurd h h1
  ·rename_i h1
   rw[zAc]at hl
   rcases hl with rfl|hl
   ·exact Classical.not_not.1 h1
   ·exact zp4 h l hl
structure yds(a:Au):Prop where
 few:a.F.length≤256
 pos:0<a.F.length
 len:a.A.length=a.F.length
 arc:∀l∈a.A,okA none l∧∀x∈l,0≤x.1∧x.1≤x.2.1∧x.2.1≤1114111∧0≤x.2.2∧x.2.2<a.F.length
theorem zsx{a:Au}(h:vAu a=0):yds a:=by
 rw[vAu]at h
 split at h
 ·cases h
 split at h
 ·cases h
 ·exact⟨by omega,by omega,by omega,fun l hl=>zh7 (zp4 h l hl)⟩
def zif(c:Int):List Arc→Nat
 | []=>0
 | x::l=>if x.2.1<c then zif c l+1 else 0
theorem zri(c:Int):∀l:List Arc,zif c l≤l.length
 | []=>zAj _
 | x::l=>by rw[zif];split <;> simp[zri c l]
theorem y0z{c:Int}:∀ {l:List Arc} {p:Nat} {x:Arc},p<zif c l→l[p]? =some x→x.2.1<c
 | [],p,x,h,_=>absurd h (Nat.not_lt_zero _)
 | y::l,p,x,h,hx=>by
  rw[zif]at h
  split at h
  ·rename_i hy
   cases p with
   | zero=>simp only[List.getElem?_cons_zero,zAh]at hx;rw[←hx];exact hy
   | succ p=>exact y0z (l:=l) (p:=p) (by omega) (by rw[List.getElem?_cons_succ]at hx;exact hx)
  ·exact absurd h (Nat.not_lt_zero _)
theorem y1s{c:Int}:∀ {l:List Arc} {x:Arc},l[zif c l]? =some x→¬x.2.1<c
 | [],x,h=>by simp at h
 | y::l,x,h=>by
  rw[zif]at h
  split at h
  ·rw[List.getElem?_cons_succ]at h;exact y1s h
  ·rename_i hy
   simp only[List.getElem?_cons_zero,zAh]at h;rw[←h];exact hy
theorem zoi:∀ {l:List Arc} {p:Option Arc},okA p l→∀(i j:Nat) (x y:Arc),i≤j→l[i]? =some x→l[j]? =some y→x.2.1≤y.2.1
 | [],_,_,i,j,x,y,_,h,_=>by simp at h
 | z::l,p,h,i,j,x,y,hij,hx,hy=>by
  have low:∀(l:List Arc) (z:Arc),okA (some z) l→∀(j:Nat) (y:Arc),l[j]? =some y→z.2.1≤y.2.1:=fun l=>by
   induction l with
   | nil=>intro z _ j y h;simp at h
   | cons w l ih =>
    intro z h j y hy
    have h1:=(h.2.2.1 z rfl).1
    have h2:=h.1
    cases j with
    | zero=>simp only[List.getElem?_cons_zero,zAh]at hy;rw[←hy];omega
    | succ j=>rw[List.getElem?_cons_succ]at hy;have:=ih w h.2.2.2 j y hy;omega
  cases i with
  | zero =>
   simp only[List.getElem?_cons_zero,zAh]at hx
   subst hx
   cases j with
   | zero=>simp only[List.getElem?_cons_zero,zAh]at hy;rw[hy];exact Int.le_refl _
   | succ j=>rw[List.getElem?_cons_succ]at hy;exact low l _ h.2.2.2 j y hy
  | succ i =>
   obtain⟨j,rfl⟩:∃j',j=j'+1:=⟨j-1,by omega⟩
   rw[List.getElem?_cons_succ]at hx hy
   exact zoi h.2.2.2 i j x y (by omega) hx hy
theorem y99{c:Int}{l:List Arc}{i:Nat}(hi:i≤l.length)(h1:∀p x,p<i→l[p]? =some x→x.2.1<c)(h2:∀x,l[i]? =some x→¬x.2.1<c):i=zif c l:=by
 have hl:=zri c l
 rcases Nat.lt_trichotomy i (zif c l)with h|h|h
 ·obtain⟨x,hx⟩:∃x,l[i]? =some x:=⟨_,zA0 (by omega)⟩
  exact absurd (y0z h hx) (h2 x hx)
 ·exact h
 ·obtain⟨x,hx⟩:∃x,l[zif c l]? =some x:=⟨_,zA0 (by omega)⟩
  exact absurd (h1 _ x h hx) (y1s hx)
theorem zw3{c:Int}:∀ {l:List Arc} {p:Option Arc},okA p l→nxt l c=match l[zif c l]? with|none=> -1|some x=>if c<x.1 then -1 else x.2.2
 | [],_,_=>rfl
 | x::l,p,h=>by
  rw[zif,nxt]
  by_cases hx:x.2.1<c
  ·rw[zAz hx,zAy (by omega),List.getElem?_cons_succ]
   exact zw3 h.2.2.2
  ·rw[zAy hx,List.getElem?_cons_zero]
   simp only
   by_cases hc:c<x.1
   ·rw[zAy (by omega),zAz hc,z9b h.2.2.2 c (by omega)]
   ·rw[zAz (by omega),zAy hc]
def clA(cl:List Int)(q:Int):Int:=if q<0 then -1 else cl.getD q.toNat 0
def zbe(cl:List Int)(out:List Arc)(x:Arc):List Arc:=if clA cl x.2.2<0 then out else ext out x.1 x.2.1 (clA cl x.2.2)
def byC(cl:List Int)(l:List Arc):List Arc:=l.foldl (zbe cl) []
theorem ze4(l:List Arc)(f t q:Int):(ext l f t q).length≤l.length+1:=by
 rcases zqy l with rfl|⟨m,y,rfl⟩
 ·simp[ext_nil]
 ·rw[z47];split <;> simp
theorem ext_mem{l:List Arc}{f t q:Int}{y:Arc}(h:y∈ext l f t q):y.2.1=t∨y∈l:=by
 rcases zqy l with rfl|⟨m,z,rfl⟩
 ·rw[ext_nil,zAq]at h;exact .inl (by rw[h])
 ·rw[z47]at h
  split at h
  ·rw[zAt,zAq]at h
   rcases h with h|h
   ·exact .inr (List.mem_append_left _ h)
   ·exact .inl (by rw[h])
  ·rw[zAt,zAq]at h
   rcases h with h|h
   ·exact .inr h
   ·exact .inl (by rw[h])
end Go.Ax
namespace Go.Ax
def zwn(i:Nat)(xss:List (List Int))(x:Arc):List (List Int):=xss.set x.2.2.toNat (xss.getD x.2.2.toNat []++[(i:Int)])
def y30:Nat→List (List Arc)→List (List Int)→List (List Int)
 | _,[],xss=>xss
 | i,l::A,xss=>y30 (i+1) A (l.foldl (zwn i) xss)
theorem zno(i:Nat)(xss:List (List Int))(x:Arc):(zwn i xss x).length=xss.length:=by simp[zwn]
theorem zmv(i:Nat):∀(l:List Arc) (xss:List (List Int)),(l.foldl (zwn i) xss).length=xss.length
 | [],_=>rfl
 | x::l,xss=>by rw[List.foldl_cons,zmv i l,zno]
theorem zxf{i:Nat}{xss:List (List Int)}{x:Arc}{s:Nat}(hx:x.2.2.toNat<xss.length)(p:Int):p∈(zwn i xss x).getD s []↔p∈xss.getD s []∨(x.2.2.toNat=s∧p=i):=by
 rw[zwn,List.getD,List.getD]
 by_cases h:x.2.2.toNat=s
 ·subst h
  rw[zAp hx]
  simp[List.getD]
 ·rw[List.getElem?_set_ne h]
  simp[h]
theorem zp0{i s:Nat}{p:Int}:∀ {l:List Arc} {xss:List (List Int)},(∀x∈l,x.2.2.toNat<xss.length)→(p∈(l.foldl (zwn i) xss).getD s []↔p∈xss.getD s []∨(∃x∈l,x.2.2.toNat=s)∧p=i)
 | [],xss,_=>by simp
 | x::l,xss,h=>by
  rw[List.foldl_cons,zp0 fun y hy=>by rw[zno];exact h y (by simp[hy]),zxf (h x (by simp))]
  constructor
  ·rintro((h1|⟨h1,h2⟩)|⟨⟨y,hy,h1⟩,h2⟩)
   ·exact .inl h1
   ·exact .inr ⟨⟨x,by simp,h1⟩,h2⟩
   ·exact .inr ⟨⟨y,by simp[hy],h1⟩,h2⟩
  ·rintro(h1|⟨⟨y,hy,h1⟩,h2⟩)
   ·exact .inl (.inl h1)
   ·rw[zAc]at hy
    rcases hy with rfl|hy
    ·exact .inl (.inr ⟨h1,h2⟩)
    ·exact .inr ⟨⟨y,hy,h1⟩,h2⟩
theorem zpr{s:Nat}{p:Int}:∀ {A:List (List Arc)} {i:Nat} {xss:List (List Int)},(∀l∈A,∀x∈l,x.2.2.toNat<xss.length)→(p∈(y30 i A xss).getD s []↔p∈xss.getD s []∨∃k l x,A[k]? =some l∧x∈l∧x.2.2.toNat=s∧p=((i+k:Nat):Int))
 | [],i,xss,_=>by simp[y30]
 | l::A,i,xss,h=>by
  rw[y30,zpr fun m hm x hx=>by rw[zmv];exact h m (by simp[hm]) x hx,zp0 (h l (by simp))]
  constructor
  ·rintro((h1|⟨⟨x,hx,h1⟩,h2⟩)|⟨k,m,x,h1,h2,h3,h4⟩)
   ·exact .inl h1
   ·exact .inr ⟨0,l,x,rfl,hx,h1,by simpa using h2⟩
   ·exact .inr ⟨k+1,m,x,by simpa using h1,h2,h3,by rw[h4,show i+1+k=i+(k+1) by omega]⟩
  ·rintro(h1|⟨k,m,x,h1,h2,h3,h4⟩)
   ·exact .inl (.inl h1)
   ·cases k with
    | zero =>
     simp at h1;subst h1
     exact .inl (.inr ⟨⟨x,h2,h3⟩,by simpa using h4⟩)
    | succ k=>exact .inr ⟨k,m,x,by simpa using h1,h2,h3,by rw[h4,show i+1+k=i+(k+1) by omega]⟩
inductive z57(F:List Bool)(A:List (List Arc)):Nat→Prop
 | fin (q:Nat) (h:F[q]? =some true):z57 F A q
 | arc (q:Nat) (l:List Arc) (x:Arc) (h:A[q]? =some l) (hx:x∈l) (h2:z57 F A x.2.2.toNat):z57 F A q
end Go.Ax
namespace Go.Ax
theorem count_set{l:List Bool}{i:Nat}(h:l[i]? =some false):(l.set i true).count false+1=l.count false:=by
 induction l generalizing i with
 | nil=>simp at h
 | cons x l ih =>
  cases i with
  | zero=>simp at h;subst h;simp
  | succ i =>
   have:=ih (i:=i) (by simpa using h)
   simp only[List.set_cons_succ,List.count_cons];omega
structure Reach(F:List Bool)(A:List (List Arc))(X:List (List Int))(out:List Bool)(stk:List Int)(skip:Nat→Prop):Prop where
 len:out.length=F.length
 onS:∀z∈stk,∃s:Nat,z=(s:Int)∧out[s]? =some true
 sound:∀s:Nat,out[s]? =some true→z57 F A s
 fin:∀s:Nat,F[s]? =some true→out[s]? =some true
 clos:∀s:Nat,out[s]? =some true→(s:Int)∈stk∨skip s∨∀p∈X.getD s [],out[p.toNat]? =some true
 few:stk.length+out.count false≤F.length
theorem Reach.done{F:List Bool}{A:List (List Arc)}{X:List (List Int)}{out:List Bool}(h:Reach F A X out [] fun _=>False)
 (hX:∀(s:Nat) (p:Int),p∈X.getD s []↔∃(k:Nat) (l:List Arc) (x:Arc),A[k]? =some l∧x∈l∧x.2.2.toNat=s∧p=k) (q:Nat):out[q]? =some true↔z57 F A q:=by
 refine⟨h.sound q,fun hq=>?_⟩
 induction hq with
 | fin q h1=>exact h.fin q h1
 | arc q l x h1 h2 h3 ih =>
  rcases h.clos _ ih with h4|h4|h4
  ·simp at h4
  ·exact h4.elim
  ·have:=h4 (q:Int) ((hX _ _).2 ⟨q,l,x,h1,h2,rfl,rfl⟩)
   rwa [zA9]at this
theorem Reach.push{F:List Bool}{A:List (List Arc)}{X:List (List Int)}{out:List Bool}{stk:List Int}{skip:Nat→Prop}(h:Reach F A X out stk skip){p:Nat}(hp:out[p]? =some false)(hl:z57 F A p):Reach F A X (out.set p true) (stk++[(p:Int)]) skip:=by
 have hpl:=(zA1.1 hp).1
 have hc:=count_set hp
 have up:∀s:Nat,out[s]? =some true→(out.set p true)[s]? =some true:=fun s hs=>by
  by_cases e:p=s
  ·subst e;exact zAp hpl
  ·rw[List.getElem?_set_ne e];exact hs
 have down:∀s:Nat,(out.set p true)[s]? =some true→s=p∨out[s]? =some true:=fun s hs=>by
  by_cases e:p=s
  ·exact .inl e.symm
  ·rw[List.getElem?_set_ne e]at hs;exact .inr hs
 refine⟨by rw[List.length_set];exact h.len,fun z hz=>?_,fun s hs=>?_,fun s hs=>up s (h.fin s hs),fun s hs=>?_,?_⟩
 ·rw[zAt,zAq]at hz
  rcases hz with hz|rfl
  ·obtain⟨s,h1,h2⟩:=h.onS z hz;exact⟨s,h1,up s h2⟩
  ·exact⟨p,rfl,zAp hpl⟩
 ·rcases down s hs with rfl|hs
  ·exact hl
  ·exact h.sound s hs
 ·rcases down s hs with rfl|hs
  ·exact .inl (by simp)
  ·rcases h.clos s hs with h1|h1|h1
   ·exact .inl (by simp[h1])
   ·exact .inr (.inl h1)
   ·exact .inr (.inr fun q hq=>up _ (h1 q hq))
 ·rw[zAa,zAn]
  have:=h.few;omega
theorem Reach.pop{F:List Bool}{A:List (List Arc)}{X:List (List Int)}{out:List Bool}{stk:List Int}{s0:Nat}(h:Reach F A X out (stk++[(s0:Int)]) fun _=>False):Reach F A X out stk fun s=>s=s0:=by
 refine⟨h.len,fun z hz=>h.onS z (by simp[hz]),h.sound,h.fin,fun s hs=>?_,?_⟩
 ·rcases h.clos s hs with h1|h1|h1
  ·rw[zAt,zAq]at h1
   rcases h1 with h1|h1
   ·exact .inl h1
   ·exact .inr (.inl (by omega))
  ·exact h1.elim
  ·exact .inr (.inr h1)
 ·have:=h.few;rw[zAa,zAn]at this;omega
theorem Reach.shut{F:List Bool}{A:List (List Arc)}{X:List (List Int)}{out:List Bool}{stk:List Int}{s0:Nat}(h:Reach F A X out stk fun s=>s=s0)(hc:∀p∈X.getD s0 [],out[p.toNat]? =some true):Reach F A X out stk fun _=>False :=
 ⟨h.len,h.onS,h.sound,h.fin,fun s hs=>by
   rcases h.clos s hs with h1|rfl|h1
   ·exact .inl h1
   ·exact .inr (.inr hc)
   ·exact .inr (.inr h1),h.few⟩
noncomputable def z3m(F:List Bool)(A:List (List Arc)):List Bool:=(List.range F.length).map fun q=>@decide (z57 F A q) (Classical.propDecidable _)
theorem zne{F:List Bool}{A:List (List Arc)}{out:List Bool}(hl:out.length=F.length)(h:∀q:Nat,out[q]? =some true↔z57 F A q):out=z3m F A:=by
 refine List.ext_getElem (by simp[z3m,hl]) fun i h1 h2=>?_
 simp only[z3m,List.getElem_map,List.getElem_range]
 have:=h i
 rw[zA0 h1]at this
 by_cases hq:z57 F A i
 ·simp only[hq,iff_true,zAh]at this
  rw[this];simp[hq]
 ·simp only[hq,iff_false,zAh]at this
  cases ho:out[i]with
  | true=>exact absurd ho this
  | false=>simp[hq]
end Go.Ax
namespace Go.Ax
theorem zs6{cl:List Int}(hc:∀q,-1≤clA cl q):∀ {l:List Arc} {p:Option Arc} {out:List Arc},okA p l→okA none out→(∀y z,z8n none out=some y→l.head? =some z→y.2.1<z.1) →
 okA none (l.foldl (zbe cl) out)∧∀c,nxt (l.foldl (zbe cl) out) c=if nxt l c=-1 then nxt out c else if nxt out c=-1 then clA cl (nxt l c)else nxt (l.foldl (zbe cl) out) c
 | [],p,out,_,h2,_=>⟨h2,fun c=>by simp[nxt]⟩
 | x::l,p,out,h1,h2,h3=>by
  have hx:=h1.2.2.2
  have hlow:∀c,c≤x.2.1→nxt l c=-1:=fun c hc=>z9b hx c hc
  rw[List.foldl_cons]
  have hnext:∀z,l.head? =some z→x.2.1<z.1:=fun z hz=>by
   cases l with
   | nil=>simp at hz
   | cons w l=>simp at hz;subst hz;exact(hx.2.2.1 x rfl).1
  rw[zbe]
  by_cases hneg:clA cl x.2.2<0
  ·rw[zAz hneg]
   obtain⟨i1,i2⟩:=zs6 hc (out:=out) hx h2 (fun y z hy hz=>by
    have:=h3 y x hy rfl
    have:=hnext z hz
    have:=h1.1
    omega)
   refine⟨i1,fun c=>?_⟩
   rw[i2 c,nxt]
   by_cases hcx:x.1≤c∧c≤x.2.1
   ·rw[zAz hcx,zAz (hlow c hcx.2),zAy (by have:=h1.2.1;omega)]
    have:=hc x.2.2
    by_cases h0:nxt out c=-1
    ·rw[zAz h0,h0];omega
    ·rw[zAy h0]
   ·rw[zAy hcx]
    by_cases g1:nxt l c=-1
    ·rw[zAz g1,zAz g1]
    ·rw[zAy g1,zAy g1]
     by_cases g2:nxt out c=-1 <;> simp[g2]
  ·rw[zAy hneg]
   obtain⟨e1,e2,e3,e4⟩:=y15 (q:=clA cl x.2.2) h2 h1.1 (by omega) fun y hy=>h3 y x hy rfl
   obtain⟨i1,i2⟩:=zs6 hc (out:=ext out x.1 x.2.1 (clA cl x.2.2)) hx e1 fun y z hy hz=>by rw[e3 y hy];exact hnext z hz
   refine⟨i1,fun c=>?_⟩
   by_cases hcx:x.1≤c∧c≤x.2.1
   ·rw[i2 c,zAz (hlow c hcx.2),e4 c,zAz hcx,nxt,zAz hcx,zAy (by have:=h1.2.1;omega)]
    have hout:nxt out c=-1:=by
     rcases zqy out with rfl|⟨m,y,rfl⟩
     ·rfl
     ·exact zo7 h2 (z2s _ _ _) (fun _ _=>.inr (.inr trivial)) c (by have:=h3 y x (z2s _ _ _) rfl;omega)
    rw[zAz hout]
   ·have e5:=e4 c
    rw[zAy hcx]at e5
    have e6:=i2 c
    rw[e5]at e6
    rw[nxt,zAy hcx]
    exact e6
theorem zbu{cl:List Int}(hc:∀q,-1≤clA cl q){l:List Arc}(h:okA none l):okA none (byC cl l)∧∀c,nxt (byC cl l) c=clA cl (nxt l c):=by
 obtain⟨h1,h2⟩:=zs6 hc (out:=[]) h trivial fun y z hy=>by simp[z8n]at hy
 refine⟨h1,fun c=>?_⟩
 have:=h2 c
 rw[byC,this]
 simp only[nxt,if_true]
 split
 ·rename_i g;rw[g,clA,zAz (by decide)]
 ·rfl
def toB(xs:List Int):ByteArray:=⟨(xs.map fun n=>UInt8.ofNat n.toNat).toArray⟩
def z68(n:Int):List Int:=[n / 16777216 % 256,n / 65536 % 256,n / 256 % 256,n % 256]
def y2i(cl:List Int)(k:Int)(l:List Arc):List Int:=z68 k++(byC cl l).flatMap fun x=>z68 x.1++z68 x.2.1++z68 x.2.2
def isB(b:List Int):Prop:=∀c∈b,0≤c∧c<256
theorem y3w:∀ {a b:List Int},isB a→isB b→toB a=toB b→a=b:=by
 intro a b ha hb h
 have h1:=congrArg (fun t:ByteArray=>t.data.toList) h
 simp only[toB]at h1
 induction a generalizing b with
 | nil=>cases b with|nil=>rfl|cons y b=>simp at h1
 | cons x a ih =>
  cases b with
  | nil=>simp at h1
  | cons y b =>
   simp only[List.map_cons,List.cons.injEq]at h1
   obtain⟨e1,e2⟩:=h1
   have hx:=ha x (by simp)
   have hy:=hb y (by simp)
   have e3:=congrArg UInt8.toNat e1
   simp only[UInt8.toNat_ofNat']at e3
   have:x=y:=by omega
   rw[this,ih (fun c hc=>ha c (by simp[hc])) (fun c hc=>hb c (by simp[hc])) (by
    have:(a.map fun n=>UInt8.ofNat n.toNat)=b.map fun n=>UInt8.ofNat n.toNat:=e2
    simp only[toB,this]) e2]
theorem zcj(n:Int):isB (z68 n):=fun c hc=>by
 simp only[z68,zAc,List.not_mem_nil,or_false]at hc
 omega
theorem zm6{a b:List Int}(ha:isB a)(hb:isB b):isB (a++b):=fun c hc=>by
 rw[zAt]at hc
 exact hc.elim (ha c) (hb c)
theorem znc(cl:List Int)(k:Int)(l:List Arc):isB (y2i cl k l):=by
 refine zm6 (zcj k) fun c hc=>?_
 rw[List.mem_flatMap]at hc
 obtain⟨x,_,hx⟩:=hc
 exact zm6 (zm6 (zcj _) (zcj _)) (zcj _) c hx
theorem zcv{a b:Int}(ha:0≤a∧a<4294967296)(hb:0≤b∧b<4294967296){x y:List Int}(h:z68 a++x=z68 b++y):a=b∧x=y:=by
 simp only[z68,List.cons_append,List.nil_append,List.cons.injEq]at h
 obtain⟨h1,h2,h3,h4,h5⟩:=h
 exact⟨by omega,h5⟩
def zbx(l:List Arc):Prop:=∀x∈l,(0≤x.1∧x.1<4294967296)∧(0≤x.2.1∧x.2.1<4294967296)∧(0≤x.2.2∧x.2.2<4294967296)
theorem zpb:∀ {l m:List Arc},zbx l→zbx m→(l.flatMap fun x=>z68 x.1++z68 x.2.1++z68 x.2.2)=(m.flatMap fun x=>z68 x.1++z68 x.2.1++z68 x.2.2)→l=m
 | [],[],_,_,_=>rfl
 | [],y::m,_,_,h=>by simp[z68]at h
 | x::l,[],_,_,h=>by simp[z68]at h
 | x::l,y::m,hl,hm,h=>by
  rw[List.flatMap_cons,List.flatMap_cons,zAl,zAl,zAl,zAl]at h
  obtain⟨x1,x2,x3⟩:=hl x (by simp)
  obtain⟨y1,y2,y3⟩:=hm y (by simp)
  obtain⟨e1,h⟩:=zcv x1 y1 h
  obtain⟨e2,h⟩:=zcv x2 y2 h
  obtain⟨e3,h⟩:=zcv x3 y3 h
  rw[zpb (fun z hz=>hl z (by simp[hz])) (fun z hz=>hm z (by simp[hz])) h]
  congr 1
  obtain⟨a,b,c⟩:=x;obtain⟨a',b',c'⟩:=y
  simp only at e1 e2 e3;rw[e1,e2,e3]
theorem zmj{cl:List Int}{k k':Int}{l m:List Arc}(hk:0≤k∧k<4294967296)(hk':0≤k'∧k'<4294967296)(hl:zbx (byC cl l))(hm:zbx (byC cl m))(h:toB (y2i cl k l)=toB (y2i cl k' m)):k=k'∧byC cl l=byC cl m:=by
 have:=y3w (znc _ _ _) (znc _ _ _) h
 obtain⟨e1,e2⟩:=zcv hk hk' this
 exact⟨e1,zpb hl hm e2⟩
def sgA(A:List (List Arc))(cl:List Int)(q:Nat):ByteArray:=toB (y2i cl (cl.getD q 0) (A.getD q []))
def z9u(A:List (List Arc))(cl:List Int)(s:List ByteArray × List Int)(q:Nat):List ByteArray × List Int :=
 if cl.getD q 0<0 then(s.1,s.2++[-1])else(z7j s.1 (sgA A cl q),s.2++[((z3o (sgA A cl q) s.1:Nat):Int)])
def rnd(A:List (List Arc))(cl:List Int):List ByteArray × List Int:=(List.range cl.length).foldl (z9u A cl) ([],[])
def zq7(A:List (List Arc))(lim:Nat):Nat→Nat→List Int→Option (List Int)
 | 0,_,_=>none
 | f+1,c,cl=>if lim<(rnd A cl).1.length then none else if(rnd A cl).1.length=c then some (rnd A cl).2 else zq7 A lim f (rnd A cl).1.length (rnd A cl).2
structure RnS(A:List (List Arc))(cl:List Int)(q:Nat)(s:List ByteArray × List Int):Prop where
 len:s.2.length=q
 nod:s.1.Nodup
 few:s.1.length≤q
 at_:∀p,p<q→(cl.getD p 0<0→s.2[p]? =some (-1))∧(0≤cl.getD p 0→sgA A cl p∈s.1∧s.2[p]? =some ((z3o (sgA A cl p) s.1:Nat):Int))
 src:∀g∈s.1,∃p,p<q∧0≤cl.getD p 0∧sgA A cl p=g
theorem RnS.step{A:List (List Arc)}{cl:List Int}{q:Nat}{s:List ByteArray × List Int}(h:RnS A cl q s):RnS A cl (q+1) (z9u A cl s q):=by
 rw[z9u]
 by_cases hn:cl.getD q 0<0
 ·rw[zAz hn]
  refine⟨by simp[h.len],h.nod,by have:=h.few;simp only;omega,fun p hp=>?_,fun g hg=>?_⟩
  ·by_cases hpq:p<q
   ·obtain⟨h1,h2⟩:=h.at_ p hpq
    rw[zAb (by rw[h.len];exact hpq)]
    exact⟨h1,h2⟩
   ·obtain rfl:p=q:=by omega
    refine⟨fun _=>?_,fun g=>by omega⟩
    simp only
    rw[zAg (by rw[h.len];omega),h.len,Nat.sub_self];rfl
  ·obtain⟨p,p1,p2⟩:=h.src g hg;exact⟨p,by omega,p2⟩
 ·rw[zAy hn]
  obtain⟨r,hr⟩:=z89 s.1 (sgA A cl q)
  refine⟨by simp[h.len],zbi h.nod,?_,fun p hp=>?_,fun g hg=>?_⟩
  ·have:=h.few;simp only[z7j];split <;> simp <;> omega
  ·by_cases hpq:p<q
   ·obtain⟨h1,h2⟩:=h.at_ p hpq
    rw[zAb (by rw[h.len];exact hpq)]
    refine⟨h1,fun g=>?_⟩
    obtain⟨h3,h4⟩:=h2 g
    simp only
    rw[hr]
    exact⟨List.mem_append_left _ h3,by rw[zcu h3];exact h4⟩
   ·obtain rfl:p=q:=by omega
    refine⟨fun g=>absurd g hn,fun _=>⟨z9l _ _,?_⟩⟩
    simp only
    rw[zAg (by rw[h.len];omega),h.len,Nat.sub_self,zgg];rfl
  ·simp only[z7j]at hg
   split at hg
   ·obtain⟨p,p1,p2⟩:=h.src g hg;exact⟨p,by omega,p2⟩
   ·rw[zAt,zAq]at hg
    rcases hg with hg|rfl
    ·obtain⟨p,p1,p2⟩:=h.src g hg;exact⟨p,by omega,p2⟩
    ·exact⟨q,by omega,by omega,rfl⟩
theorem rnS(A:List (List Arc))(cl:List Int):∀q,RnS A cl q ((List.range q).foldl (z9u A cl) ([],[]))
 | 0=>⟨rfl,by simp,by simp,fun p hp=>absurd hp (Nat.not_lt_zero _),by simp⟩
 | q+1=>by rw[List.range_succ,List.foldl_append,List.foldl_cons,List.foldl_nil];exact(rnS A cl q).step
theorem y76(A:List (List Arc))(cl:List Int):RnS A cl cl.length (rnd A cl):=rnS A cl _
def Full(c:Nat)(cl:List Int):Prop:=∀k:Nat,k<c→∃q,q<cl.length∧cl.getD q 0=(k:Int)
theorem z34{l:List Int}{i:Nat}{x:Int}(h:l[i]? =some x):l.getD i 0=x:=by rw[List.getD,h];rfl
theorem zyz(A:List (List Arc))(cl:List Int):Full (rnd A cl).1.length (rnd A cl).2:=fun k hk=>by
 have hR:=y76 A cl
 obtain⟨g,hg⟩:∃g,(rnd A cl).1[k]? =some g:=⟨_,zA0 hk⟩
 obtain⟨p,p1,p2,p3⟩:=hR.src g (zA2 hg)
 obtain⟨h1,h2⟩:=(hR.at_ p p1).2 p2
 refine⟨p,by rw[hR.len];exact p1,?_⟩
 rw[z34 h2,p3]
 have hm:=zA2 hg
 obtain⟨i1,i2⟩:=z36 hm
 have:z3o g (rnd A cl).1=k:=by
  obtain⟨a1,a2⟩:=zA1.1 i2
  obtain⟨b1,b2⟩:=zA1.1 hg
  exact(List.getElem_inj (h₀:=a1) (h₁:=b1) hR.nod).1 (a2.trans b2.symm)
 rw[this]
theorem z9w{α:Type}[DecidableEq α]:∀ {l m:List α},l.Nodup→(∀x∈l,x∈m)→l.length≤m.length
 | [],m,_,_=>zAf _
 | x::l,m,h,hs=>by
  have h1:=List.nodup_cons.1 h
  have hx:=hs x (by simp)
  have:=z9w (l:=l) (m:=m.erase x) h1.2 fun y hy=>by
   rw[List.mem_erase_of_ne fun e:y=x=>h1.1 (by rw[←e];exact hy)]
   exact hs y (by simp[hy])
  have h3:=List.length_erase_of_mem hx
  have h4:=List.length_pos_of_mem hx
  rw[zAk];omega
theorem zoc{A:List (List Arc)}{cl:List Int}{c:Nat}(hF:Full c cl)(hs:∀q,q<cl.length→cl.getD q 0<4294967296)(hsm:∀q,q<cl.length→zbx (byC cl (A.getD q []))):c≤(rnd A cl).1.length ∧
 (c=(rnd A cl).1.length→∀p r,p<cl.length→r<cl.length→0≤cl.getD p 0→cl.getD p 0<c→cl.getD p 0=cl.getD r 0→sgA A cl p=sgA A cl r):=by
 have hR:=y76 A cl
 -- a signature for each class
 have hw:∀k:Nat,∃q,k<c→q<cl.length∧cl.getD q 0=(k:Int):=fun k=>by
  by_cases hk:k<c
  ·obtain⟨q,h1,h2⟩:=hF k hk;exact⟨q,fun _=>⟨h1,h2⟩⟩
  ·exact⟨0,fun h=>absurd h hk⟩
 obtain⟨f,hf⟩:∃f:Nat→Nat,∀k,k<c→f k<cl.length∧cl.getD (f k) 0=(k:Int):=⟨fun k=>Classical.choose (hw k),fun k=>Classical.choose_spec (hw k)⟩
 have hinj:∀p r,p<cl.length→r<cl.length→0≤cl.getD p 0→0≤cl.getD r 0→sgA A cl p=sgA A cl r→cl.getD p 0=cl.getD r 0:=fun p r hp hr h1 h2 h=>(zmj ⟨h1,hs p hp⟩ ⟨h2,hs r hr⟩ (hsm p hp) (hsm r hr) h).1
 let L:=(List.range c).map fun k=>sgA A cl (f k)
 have hLn:L.Nodup:=by
  show List.Pairwise (· ≠·) _
  rw[List.pairwise_map]
  refine List.Pairwise.imp_of_mem ?_ (List.nodup_range (n:=c))
  intro a b ha hb hab e
  rw[List.mem_range]at ha hb
  obtain⟨a1,a2⟩:=hf a ha
  obtain⟨b1,b2⟩:=hf b hb
  have:=hinj _ _ a1 b1 (by omega) (by omega) e
  omega
 have hLs:∀x∈L,x∈(rnd A cl).1:=fun x hx=>by
  simp only[L,List.mem_map,List.mem_range]at hx
  obtain⟨k,hk,rfl⟩:=hx
  obtain⟨k1,k2⟩:=hf k hk
  exact((hR.at_ (f k) k1).2 (by omega)).1
 have hLl:L.length=c:=by simp[L]
 refine⟨by have:=z9w hLn hLs;omega,fun hc p r hp hr h0 h1 hpr=>?_⟩
 -- then the signatures of the choice are all
 have hall:∀x∈(rnd A cl).1,x∈L:=fun x hx=>by
  false_or_by_contra
  rename_i hn
  have:=z9w (l:=x::L) (m:=(rnd A cl).1) (List.nodup_cons.2 ⟨hn,hLn⟩) (fun y hy=>by
   rw[zAc]at hy
   rcases hy with rfl|hy
   ·exact hx
   ·exact hLs y hy)
  rw[zAk]at this;omega
 have one:∀q,q<cl.length→0≤cl.getD q 0→sgA A cl q=sgA A cl (f (cl.getD q 0).toNat):=fun q hq h0=>by
  have:=hall _ ((hR.at_ q hq).2 h0).1
  simp only[L,List.mem_map,List.mem_range]at this
  obtain⟨k,hk,he⟩:=this
  obtain⟨k1,k2⟩:=hf k hk
  have e:=hinj _ _ k1 hq (by omega) h0 he
  rw[k2]at e
  rw[←e,zA9,he]
 rw[one p hp h0,one r hr (by omega),hpr]
end Go.Ax
namespace Go.Ax
theorem zyx{l:List Arc}{f t q:Int}{y:Arc}(h:y∈ext l f t q):y∈l∨(y.2.1=t∧y.2.2=q∧(y.1=f∨∃z∈l,y.1=z.1)):=by
 rcases zqy l with rfl|⟨m,z,rfl⟩
 ·rw[ext_nil,zAq]at h;subst h;exact .inr ⟨rfl,rfl,.inl rfl⟩
 ·rw[z47]at h
  split at h
  ·rw[zAt,zAq]at h
   rcases h with h|h
   ·exact .inl (List.mem_append_left _ h)
   ·subst h;exact .inr ⟨rfl,rfl,.inr ⟨z,by simp,rfl⟩⟩
  ·rw[zAt,zAq]at h
   rcases h with h|h
   ·exact .inl h
   ·subst h;exact .inr ⟨rfl,rfl,.inl rfl⟩
theorem zsl{cl:List Int}{B:Int}(hc:∀q,clA cl q≤B):∀ {l out:List Arc},(∀x∈l,0≤x.1∧x.1≤x.2.1∧x.2.1≤1114111)→(∀y∈out,0≤y.1∧y.1≤1114111∧0≤y.2.1∧y.2.1≤1114111∧0≤y.2.2∧y.2.2≤B)→∀y∈l.foldl (zbe cl) out,0≤y.1∧y.1≤1114111∧0≤y.2.1∧y.2.1≤1114111∧0≤y.2.2∧y.2.2≤B
 | [],out,_,h2=>h2
 | x::l,out,h1,h2=>by
  rw[List.foldl_cons]
  refine zsl hc (fun z hz=>h1 z (by simp[hz])) fun y hy=>?_
  rw[zbe]at hy
  split at hy
  ·exact h2 y hy
  ·rename_i hn
   obtain⟨x1,x2,x3⟩:=h1 x (by simp)
   rcases zyx hy with h|⟨e1,e2,e3⟩
   ·exact h2 y h
   ·have:=hc x.2.2
    rcases e3 with e3|⟨z,hz,e3⟩
    ·omega
    ·have:=h2 z hz;omega
theorem zgl{cl:List Int}{B:Int}(hc:∀q,clA cl q≤B){l:List Arc}(h1:∀x∈l,0≤x.1∧x.1≤x.2.1∧x.2.1≤1114111):∀y∈byC cl l,0≤y.1∧y.1≤1114111∧0≤y.2.1∧y.2.1≤1114111∧0≤y.2.2∧y.2.2≤B:=zsl hc h1 (by simp)
theorem zrh{cl:List Int}:∀ {l out:List Arc},(l.foldl (zbe cl) out).length≤out.length+l.length
 | [],out=>by simp
 | x::l,out=>by
  rw[List.foldl_cons]
  have:=zrh (cl:=cl) (l:=l) (out:=zbe cl out x)
  have h2:(zbe cl out x).length≤out.length+1:=by
   rw[zbe];split
   ·omega
   ·exact ze4 _ _ _ _
  simp only[zAk];omega
theorem ztp{cl:List Int}{l:List Arc}:(byC cl l).length≤l.length:=by have:=zrh (cl:=cl) (l:=l) (out:=[]);simpa[byC]using this
structure ClW(n c:Nat)(cl:List Int):Prop where
 len:cl.length=n
 full:Full c cl
 rng:∀x∈cl,-1≤x∧x≤4000000
 few:c≤n
theorem zas{cl:List Int}(h:∀x∈cl,-1≤x∧x≤4000000)(q:Int):-1≤clA cl q∧clA cl q≤4000000:=by
 rw[clA]
 split
 ·omega
 ·cases hq:cl[q.toNat]? with
  | none=>rw[List.getD,hq];simp
  | some x=>rw[z34 hq];exact h x (zA2 hq)
theorem z52{cl:List Int}(h:∀x∈cl,-1≤x∧x≤4000000)(q:Nat):-1≤cl.getD q 0∧cl.getD q 0≤4000000:=by
 cases hq:cl[q]? with
 | none=>rw[List.getD,hq];simp
 | some x=>rw[z34 hq];exact h x (zA2 hq)
theorem zak{cl:List Int}(h:∀x∈cl,-1≤x∧x≤4000000){l:List Arc}(h1:∀x∈l,0≤x.1∧x.1≤x.2.1∧x.2.1≤1114111):zbx (byC cl l):=fun y hy=>by
 have:=zgl (B:=4000000) (fun q=>(zas h q).2) h1 y hy
 omega
theorem ztm{A:List (List Arc)}{cl:List Int}{n c:Nat}(hn:n≤4000000)(h:ClW n c cl)(hA:∀l∈A,∀x∈l,0≤x.1∧x.1≤x.2.1∧x.2.1≤1114111):c≤(rnd A cl).1.length∧ClW n (rnd A cl).1.length (rnd A cl).2:=by
 have hR:=y76 A cl
 have hfew:=hR.few
 have hl:=hR.len
 have hcl:=h.len
 refine⟨(zoc h.full (fun q _=>by have:=z52 h.rng q;omega) fun q _=>zak h.rng ?_).1,by omega,zyz A cl,fun x hx=>?_,by omega⟩
 ·cases hq:A[q]? with
  | none=>rw[List.getD,hq];simp
  | some l=>rw[List.getD,hq];exact hA l (zA2 hq)
 ·obtain⟨p,hp⟩:=List.mem_iff_getElem?.1 hx
  have hpl:p<cl.length:=by have:=(zA1.1 hp).1;omega
  obtain⟨h1,h2⟩:=hR.at_ p hpl
  by_cases hn0:cl.getD p 0<0
  ·rw[h1 hn0]at hp;cases hp;omega
  ·obtain⟨h3,h4⟩:=h2 (by omega)
   rw[h4]at hp;cases hp
   have:=(z36 h3).1
   omega
noncomputable def cl0(F:List Bool)(A:List (List Arc)):List Int:=(List.range F.length).map fun q=>if(z3m F A).getD q false=true then(if F.getD q false=true then 1 else 0)else -1
theorem zsg(F:List Bool)(A:List (List Arc)):ClW F.length 0 (cl0 F A) :=
 ⟨by simp[cl0],fun k hk=>absurd hk (Nat.not_lt_zero _),fun x hx=>by
   simp only[cl0,List.mem_map]at hx
   obtain⟨q,_,rfl⟩:=hx
   split
   ·split <;> omega
   ·omega,zAf _⟩
noncomputable def y3q(F:List Bool)(A:List (List Arc))(lim:Nat):Option (List Int):=zq7 A lim (F.length+1) 0 (cl0 F A)
end Go.Ax
namespace Go.Ax
theorem ztt:∀ {l:List Arc} {p:Option Arc},okA p l→∀e∈l,e.1≤e.2.1
 | [],_,_,e,he=>by simp at he
 | x::l,p,h,e,he=>by
  rw[zAc]at he
  rcases he with rfl|he
  ·exact h.1
  ·exact ztt h.2.2.2 e he
theorem zj8:∀ {l:List Arc} {y:Arc},okA (some y) l→∀e∈l,y.2.1<e.1
 | [],_,_,e,he=>by simp at he
 | x::l,y,h,e,he=>by
  have h1:=(h.2.2.1 y rfl).1
  rw[zAc]at he
  rcases he with rfl|he
  ·exact h1
  ·have:=zj8 h.2.2.2 e he
   have:=h.1;omega
theorem zmg:∀ {l:List Arc} {p:Option Arc},okA p l→∀ {e:Arc},e∈l→nxt l e.1=e.2.2
 | [],_,_,e,he=>by simp at he
 | x::l,p,h,e,he=>by
  rw[zAc]at he
  rcases he with rfl|he
  ·exact z7r (Int.le_refl _) h.1
  ·have:=zj8 h.2.2.2 e he
   rw[nxt,zAy (by omega)]
   exact zmg h.2.2.2 he
theorem zjj{c:Int}:∀ {l:List Arc},nxt l c≠-1→∃y∈l,y.2.2=nxt l c
 | [],h=>absurd rfl h
 | x::l,h=>by
  rw[nxt]at h⊢
  split
  ·exact⟨x,by simp,rfl⟩
  ·rename_i hc
   rw[zAy hc]at h
   obtain⟨y,hy,e⟩:=zjj h
   exact⟨y,by simp[hy],e⟩
end Go.Ax
namespace Go.Ax
theorem zmk{l:List Int}{B:Nat}(h:l.Pairwise (· <·))(hr:∀z∈l,0≤z∧z≤B):l.length≤B+1:=by
 have h1:l.Nodup:=h.imp fun {a b} hab e=>by omega
 have:=z9w (m:=(List.range (B+1)).map fun k:Nat=>(k:Int)) h1 fun x hx=>by
  have:=hr x hx
  rw[List.mem_map]
  exact⟨x.toNat,by rw[List.mem_range];omega,by omega⟩
 simpa using this
end Go.Ax
namespace Go.Ax
def srt(l:List Int):List Int:=l.mergeSort fun x y=>decide (x≤y)
theorem z8c(l:List Int):(srt l).Perm l:=List.mergeSort_perm l _
theorem zan(l:List Int):(srt l).Pairwise (· ≤·):=by
 have:=List.pairwise_mergeSort (le:=fun x y:Int=>decide (x≤y)) (fun a b c h1 h2=>by simp only[zA3]at *;omega) (fun a b=>by simp only[zAu,zA3];omega) l
 exact this.imp fun h=>by simpa using h
theorem y2p{l m:List Int}(h:l.Perm m)(hm:m.Pairwise (· ≤·)):srt l=m :=
 List.Perm.eq_of_pairwise (fun a b _ _ h1 h2=>Int.le_antisymm h1 h2) (zan l) hm ((z8c l).trans h)
theorem zls(l:List Int):(srt l).length=l.length:=(z8c l).length_eq
theorem y7u{A B:List Int}{x:Int}(h:(A++B).Pairwise (· ≤·))(h1:∀y∈A,y≤x)(h2:∀y∈B,x≤y):(A++x::B).Pairwise (· ≤·):=by
 rw[List.pairwise_append]at h⊢
 refine⟨h.1,List.pairwise_cons.2 ⟨h2,h.2.1⟩,fun a ha b hb=>?_⟩
 rw[zAc]at hb
 rcases hb with rfl|hb
 ·exact h1 a ha
 ·exact h.2.2 a ha b hb
theorem y0p{A:List Int}{y:Int}(h:(A++[y]).Pairwise (· ≤·)):∀z∈A++[y],z≤y:=fun z hz=>by
 rw[List.pairwise_append]at h
 rw[zAt,zAq]at hz
 rcases hz with hz|rfl
 ·exact h.2.2 z hz y (by simp)
 ·exact Int.le_refl _
end Go.Ax
namespace Go.Ax
def cq:Int→List Int→List Int
 | _,[]=>[]
 | x,y::l=>if x=y then cq y l else y::cq y l
def cpt:List Int→List Int
 | []=>[]
 | x::l=>x::cq x l
theorem y1m:∀(l:List Int) (x:Int),(x::l).Pairwise (· ≤·)→(x::cq x l).Pairwise (· <·)∧∀z,z∈x::cq x l↔z∈x::l
 | [],x,_=>by simp[cq]
 | y::l,x,h=>by
  have h1:=List.pairwise_cons.1 h
  have hxy:=h1.1 y (by simp)
  obtain⟨i1,i2⟩:=y1m l y h1.2
  rw[cq]
  split
  ·rename_i e
   subst e
   exact⟨i1,fun z=>by rw[i2 z];simp⟩
  ·rename_i e
   refine⟨List.pairwise_cons.2 ⟨fun z hz=>?_,i1⟩,fun z=>?_⟩
   ·have hyz:y≤z:=by
     have:=(i2 z).1 hz
     rw[zAc]at this
     rcases this with rfl|this
     ·exact Int.le_refl _
     ·exact(List.pairwise_cons.1 h1.2).1 z this
    omega
   ·rw[zAc,i2 z];simp only[zAc]
theorem zhg{l:List Int}(h:l.Pairwise (· ≤·)):(cpt l).Pairwise (· <·)∧∀z,z∈cpt l↔z∈l:=by
 cases l with
 | nil=>simp[cpt]
 | cons x l=>exact y1m l x h
theorem y2x:∀(l:List Int) (x:Int),(cq x l).length≤l.length
 | [],_=>zAj _
 | y::l,x=>by rw[cq];split <;> simp only[zAk] <;> have:=y2x l y <;> omega
theorem zsb(l:List Int):(cpt l).length≤l.length:=by
 cases l with
 | nil=>simp[cpt]
 | cons x l=>rw[cpt];have:=y2x l x;simp only[zAk];omega
end Go.Ax
namespace Go.Ax
theorem y14:∀ {l:List Arc} {p:Option Arc} {a:Int},okA p l→(∀x∈l,x.2.1≤1114111)→(∀x∈l,a≤x.1)→okE (K:=Int) a l
 | [],_,_,_,_,_=>trivial
 | x::l,p,a,h,h1,h2=>⟨h2 x (by simp),h.1,h1 x (by simp),y14 h.2.2.2 (fun y hy=>h1 y (by simp[hy])) fun y hy=>by have:=zj8 h.2.2.2 y hy;omega⟩
theorem zt9:∀ {l:List Arc} {p:Option Arc},okA p l→∀c,kx (K:=Int) l c=if nxt l c=-1 then none else some (nxt l c)
 | [],_,_,c=>rfl
 | x::l,p,h,c=>by
  rw[kx,nxt]
  split
  ·have:=h.2.1
   rw[zAy (by omega)]
  ·exact zt9 h.2.2.2 c
section
variable{K:Type}[DecidableEq K]
theorem zwv{fin:K→Bool}{edg:K→List (Edge K)}{first:K}{i:Nat}{ks:List K}{a:Au}(h:Ex fin edg first i ks a){ok:K→Prop}(h0:ok first)
 (hc:∀k,ok k→∀c k',kx (edg k) c=some k'→ok k'):∀(j:Nat) (k:K),ks[j]? =some k→ok k:=by
 intro j
 induction j using Nat.strongRecOn with
 | _ j ih =>
  intro k hk
  by_cases hj:j=0
  ·subst hj;rw[h.hd]at hk;cases hk;exact h0
  ·obtain⟨q,k0,c,_,hq,hk0,⟨k',e1,e2⟩,_⟩:=h.bfs j (by omega) (zA1.1 hk).1
   rw[hk]at e2;cases e2
   exact hc k0 (ih q hq k0 hk0) c k e1
theorem zhe{fin:K→Bool}{edg:K→List (Edge K)}{first:K}{lim:Nat}(he:∀k,okE 0 (edg k)){ok:K→Prop}(h0:ok first)(hc:∀k,ok k→∀c k',kx (edg k) c=some k'→ok k')
 (hfew:∀l:List K,l.Nodup→(∀x∈l,ok x)→l.length≤lim):∀(n i:Nat) (ks:List K) (a:Au),Ex fin edg first i ks a→lim+1≤n+i→∃b,exL fin edg lim n i ks a=some b
 | 0,i,ks,a,h,hn=>by
  have h1:=h.le
  have h2:=hfew ks h.nod fun x hx=>by
   obtain⟨j,hj⟩:=zAw hx
   exact zwv h h0 hc j x hj
  omega
 | n+1,i,ks,a,h,hn=>by
  rw[exL]
  cases hk:ks[i]? with
  | none=>exact⟨a,rfl⟩
  | some k =>
   have hs:=zw6 h hk (he k)
   have h2:=hfew _ hs.nod fun x hx=>by
    obtain⟨j,hj⟩:=zAw hx
    exact zwv hs h0 hc j x hj
   simp only
   rw[zAy (by omega)]
   exact zhe he h0 hc hfew n (i+1) _ _ hs (by omega)
theorem y2f{fin:K→Bool}{edg:K→List (Edge K)}{first:K}{ks:List K}{a:Au}(h:Ex fin edg first ks.length ks a){ok:K→Prop}(h0:ok first)(hc:∀k,ok k→∀c k',kx (edg k) c=some k'→ok k'){lim:Nat}
 (hfew:∀l:List K,l.Nodup→(∀x∈l,ok x)→l.length≤lim):a.F.length≤lim:=by
 rw[h.fl]
 exact hfew ks h.nod fun x hx=>by
  obtain⟨j,hj⟩:=zAw hx
  exact zwv h h0 hc j x hj
end
theorem zjh{n:Nat}{l:List Int}(h:l.Nodup)(hr:∀x∈l,0≤x∧x<n):l.length≤n:=by
 have:=z9w (m:=(List.range n).map fun k:Nat=>(k:Int)) h fun x hx=>by
  have:=hr x hx
  exact List.mem_map.2 ⟨x.toNat,List.mem_range.2 (by omega),by omega⟩
 simpa using this
structure AuW(a:Au):Prop where
 len:a.A.length=a.F.length
 arc:∀l∈a.A,okA none l∧∀x∈l,0≤x.1∧x.1≤x.2.1∧x.2.1≤1114111∧0≤x.2.2∧x.2.2<a.F.length
 pos:0<a.F.length
theorem AuW.arcs{a:Au}(h:AuW a)(q:Int):okA none (a.arcs q)∧∀x∈a.arcs q,0≤x.1∧x.1≤x.2.1∧x.2.1≤1114111∧0≤x.2.2∧x.2.2<a.F.length:=by
 rw[Au.arcs]
 split
 ·exact⟨trivial,by simp⟩
 ·cases hq:a.A[q.toNat]? with
  | none=>rw[List.getD,hq];exact⟨trivial,by simp⟩
  | some l=>rw[List.getD,hq];exact h.arc l (zA2 hq)
theorem AuW.nx{a:Au}(h:AuW a)(q c:Int):-1≤a.nx q c∧a.nx q c<a.F.length:=by
 rw[Au.nx]
 have h1:=(h.arcs q).2
 by_cases e:nxt (a.arcs q) c=-1
 ·rw[e];omega
 ·obtain⟨y,hy,e2⟩:=zjj e
  have:=h1 y hy
  omega
theorem zt1{a:Au}(h:AuW a){q:Nat}(hl:z57 a.F a.A q):∃w,a.acc (q:Nat) w=true:=by
 induction hl with
 | fin q hq=>exact⟨[],by rw[Au.acc_nil,Au.fin,zAy (by omega),zA9,List.getD,hq];rfl⟩
 | arc q l x hq hx _ ih =>
  obtain⟨w,hw⟩:=ih
  have h1:=(h.arc l (zA2 hq))
  have h2:=h1.2 x hx
  refine⟨x.1::w,?_⟩
  have e:a.nx (q:Nat) x.1=x.2.2:=by rw[Au.nx,Au.arcs,zAy (by omega),zA9,List.getD,hq];exact zmg h1.1 hx
  rw[Au.acc_cons,e,show x.2.2=((x.2.2.toNat:Nat):Int) by omega]
  exact hw
theorem zdw{a:Au}(h:AuW a):∀(w:List Int) (q:Nat),a.acc (q:Nat) w=true→z57 a.F a.A q
 | [],q,hw=>by
  rw[Au.acc_nil,Au.fin,zAy (by omega),zA9,List.getD]at hw
  refine .fin q ?_
  cases hq:a.F[q]? with
  | none=>rw[hq]at hw;cases hw
  | some b=>rw[hq]at hw;simp at hw;rw[hw]
 | c::w,q,hw=>by
  rw[Au.acc_cons]at hw
  by_cases e:a.nx (q:Nat) c=-1
  ·rw[e,a.acc_neg w (by decide)]at hw;cases hw
  ·have e1:=e
   rw[Au.nx]at e1
   obtain⟨y,hy,e2⟩:=zjj e1
   have hy0:=hy
   rw[Au.arcs,zAy (by omega),zA9]at hy
   cases hq:a.A[q]? with
   | none=>rw[List.getD,hq]at hy;simp at hy
   | some l =>
    rw[List.getD,hq]at hy
    have h2:=((h.arcs (q:Nat)).2 y hy0)
    refine .arc q l y hq hy (zdw h w _ ?_)
    rw[show((y.2.2.toNat:Nat):Int)=y.2.2 by omega,e2]
    exact hw
structure zwk(a:Au)(cl:List Int):Prop where
 len:cl.length=a.F.length
 rng:∀x∈cl,-1≤x∧x≤4000000
 dead:∀q:Nat,q<a.F.length→(cl.getD q 0<0↔∀w,a.acc (q:Nat) w=false)
 same:∀p q:Nat,p<a.F.length→q<a.F.length→(∀w,a.acc (p:Nat) w=a.acc (q:Nat) w)→cl.getD p 0=cl.getD q 0
 fin_:∀p q:Nat,p<a.F.length→q<a.F.length→cl.getD p 0=cl.getD q 0→a.fin (p:Nat)=a.fin (q:Nat)
theorem z3n(cl:List Int)(q:Nat):clA cl (q:Nat)=cl.getD q 0:=by rw[clA,zAy (by omega),zA9]
theorem z7a(cl:List Int):clA cl (-1)=-1:=by rw[clA,zAz (by decide)]
theorem zwk.to{a:Au}{cl:List Int}(h:zwk a cl){p q:Int}(hp:-1≤p∧p<a.F.length)(hq:-1≤q∧q<a.F.length)(hs:∀w,a.acc p w=a.acc q w):clA cl p=clA cl q:=by
 have one:∀ {p:Int},-1≤p∧p<a.F.length→(∀w,a.acc p w=false)→clA cl p=-1:=fun {p} hp hd=>by
  by_cases e:p=-1
  ·rw[e,z7a]
  ·obtain⟨p,rfl⟩:∃k:Nat,p=k:=⟨p.toNat,by omega⟩
   rw[z3n]
   have h1:=(h.dead p (by omega)).2 hd
   have h2:=(z52 h.rng p).1
   omega
 by_cases e:p=-1
 ·have hd:∀w,a.acc q w=false:=fun w=>by rw[←hs w,e];exact a.acc_neg w (by decide)
  rw[one hq hd,e,z7a]
 by_cases e2:q=-1
 ·have hd:∀w,a.acc p w=false:=fun w=>by rw[hs w,e2];exact a.acc_neg w (by decide)
  rw[one hp hd,e2,z7a]
 obtain⟨p,rfl⟩:∃k:Nat,p=k:=⟨p.toNat,by omega⟩
 obtain⟨q,rfl⟩:∃k:Nat,q=k:=⟨q.toNat,by omega⟩
 rw[z3n,z3n]
 exact h.same p q (by omega) (by omega) hs
theorem z8k{F:List Bool}{A:List (List Arc)}{q:Nat}(hq:q<F.length):(z3m F A).getD q false=true↔z57 F A q:=by
 rw[z3m,List.getD,zAd,List.getElem?_range hq]
 simp
theorem zkf{F:List Bool}{A:List (List Arc)}{q:Nat}(hq:q<F.length):(cl0 F A).getD q 0=if(z3m F A).getD q false=true then(if F.getD q false=true then 1 else 0)else -1:=by
 rw[cl0,List.getD,zAd,List.getElem?_range hq];rfl
theorem zge{a:Au}(h:AuW a)(q:Nat):¬z57 a.F a.A q↔∀w,a.acc (q:Nat) w=false:=by
 constructor
 ·intro hn w
  cases hw:a.acc (q:Nat) w with
  | false=>rfl
  | true=>exact absurd (zdw h w q hw) hn
 ·intro hd hl
  obtain⟨w,hw⟩:=zt1 h hl
  rw[hd w]at hw;cases hw
theorem zhr(a:Au)(q:Nat):a.fin (q:Nat)=a.F.getD q false:=by rw[Au.fin,zAy (by omega),zA9]
theorem y5p{a:Au}(h:AuW a):zwk a (cl0 a.F a.A):=by
 have hW:=zsg a.F a.A
 have dd:∀q:Nat,q<a.F.length→((cl0 a.F a.A).getD q 0<0↔∀w,a.acc (q:Nat) w=false):=fun q hq=>by
  rw[←zge h q,zkf hq]
  by_cases hl:(z3m a.F a.A).getD q false=true
  ·rw[zAz hl]
   have:=(z8k hq).1 hl
   constructor
   ·intro h2;split at h2 <;> omega
   ·intro h2;exact absurd this h2
  ·rw[zAy hl]
   exact⟨fun _ h2=>hl ((z8k hq).2 h2),fun _=>by decide⟩
 refine⟨hW.len,hW.rng,dd,fun p q hp hq hs=>?_,fun p q hp hq e=>?_⟩
 ·have e1:a.F.getD p false=a.F.getD q false:=by have:=hs [];rwa [Au.acc_nil,Au.acc_nil,zhr,zhr]at this
  have e2:(z3m a.F a.A).getD p false=true↔(z3m a.F a.A).getD q false=true:=by
   rw[z8k hp,z8k hq]
   have h1:=zge h p
   have h2:=zge h q
   have h3:(∀w,a.acc (p:Nat) w=false)↔(∀w,a.acc (q:Nat) w=false):=⟨fun g w=>by rw[←hs w];exact g w,fun g w=>by rw[hs w];exact g w⟩
   have h4:=h1.trans (h3.trans h2.symm)
   constructor
   ·intro x;exact Classical.byContradiction fun y=>h4.2 y x
   ·intro x;exact Classical.byContradiction fun y=>h4.1 y x
  rw[zkf hp,zkf hq,e1]
  simp only[e2]
 ·rw[zhr,zhr]
  rw[zkf hp,zkf hq]at e
  have nl:∀q:Nat,q<a.F.length→¬(z3m a.F a.A).getD q false=true→a.F.getD q false=false:=fun q hq hn=>by
   cases hf:a.F.getD q false with
   | false=>rfl
   | true =>
    refine absurd ((z8k hq).2 (.fin q ?_)) hn
    rw[List.getD,zA0 hq]at hf
    rw[zA0 hq];simp at hf;rw[hf]
  by_cases h1:(z3m a.F a.A).getD p false=true <;> by_cases h2:(z3m a.F a.A).getD q false=true
  ·rw[zAz h1,zAz h2]at e
   generalize a.F.getD p false=x at *
   generalize a.F.getD q false=y at *
   cases x <;> cases y <;> simp at e⊢
  ·rw[zAz h1,zAy h2]at e
   split at e <;> omega
  ·rw[zAy h1,zAz h2]at e
   split at e <;> omega
  ·rw[nl p hp h1,nl q hq h2]
theorem z7b{A:List (List Arc)}{cl:List Int}{p:Nat}(hp:p<cl.length):(cl.getD p 0<0→(rnd A cl).2.getD p 0=-1)∧(0≤cl.getD p 0→(rnd A cl).2.getD p 0=((z3o (sgA A cl p) (rnd A cl).1:Nat):Int)∧sgA A cl p∈(rnd A cl).1):=by
 have hR:=(y76 A cl).at_ p hp
 exact⟨fun h=>z34 (hR.1 h),fun h=>⟨z34 (hR.2 h).2,(hR.2 h).1⟩⟩
theorem zds{a:Au}{cl:List Int}(h:zwk a cl)(q:Int):-1≤clA cl q:=(zas h.rng q).1
theorem y4i{a:Au}(h:AuW a)(hn:a.F.length≤4000000){cl:List Int}{c:Nat}(hW:ClW a.F.length c cl)(hI:zwk a cl):zwk a (rnd a.A cl).2:=by
 have hA:∀l∈a.A,∀x∈l,0≤x.1∧x.1≤x.2.1∧x.2.1≤1114111:=fun l hl x hx=>by have:=(h.arc l hl).2 x hx;omega
 have hW2:=(ztm hn hW hA).2
 have hlen:=hI.len
 have arcA:∀p:Nat,p<a.F.length→a.arcs (p:Nat)=a.A.getD p []:=fun p _=>by rw[Au.arcs,zAy (by omega),zA9]
 have neg:∀p:Nat,p<a.F.length→((rnd a.A cl).2.getD p 0<0↔cl.getD p 0<0):=fun p hp=>by
  have h1:=z7b (A:=a.A) (cl:=cl) (p:=p) (by omega)
  constructor
  ·intro h2
   by_cases h3:cl.getD p 0<0
   ·exact h3
   ·rw[(h1.2 (by omega)).1]at h2;omega
  ·intro h2;rw[h1.1 h2];decide
 refine⟨hW2.len,hW2.rng,fun q hq=>(neg q hq).trans (hI.dead q hq),fun p q hp hq hs=>?_,fun p q hp hq e=>?_⟩
 ·have e1:=hI.same p q hp hq hs
  have h1:=z7b (A:=a.A) (cl:=cl) (p:=p) (by omega)
  have h2:=z7b (A:=a.A) (cl:=cl) (p:=q) (by omega)
  by_cases h3:cl.getD p 0<0
  ·rw[h1.1 h3,h2.1 (by omega)]
  ·rw[(h1.2 (by omega)).1,(h2.2 (by omega)).1]
   have hb:byC cl (a.A.getD p [])=byC cl (a.A.getD q []):=by
    rw[←arcA p hp,←arcA q hq]
    obtain⟨p1,p2⟩:=zbu (zds hI) (h.arcs (p:Nat)).1
    obtain⟨q1,q2⟩:=zbu (zds hI) (h.arcs (q:Nat)).1
    refine y2b p1 q1 fun c=>?_
    rw[p2,q2]
    exact hI.to (h.nx (p:Nat) c) (h.nx (q:Nat) c) fun w=>hs (c::w)
   rw[sgA,sgA,y2i,y2i,hb,e1]
 ·have h1:=z7b (A:=a.A) (cl:=cl) (p:=p) (by omega)
  have h2:=z7b (A:=a.A) (cl:=cl) (p:=q) (by omega)
  by_cases h3:cl.getD p 0<0
  ·have h4:cl.getD q 0<0:=(neg q hq).1 (by rw[←e];exact(neg p hp).2 h3)
   have d1:=(hI.dead p hp).1 h3 []
   have d2:=(hI.dead q hq).1 h4 []
   rw[Au.acc_nil]at d1 d2
   rw[d1,d2]
  ·have h4:¬cl.getD q 0<0:=fun h5=>h3 ((neg p hp).1 (by rw[e];exact(neg q hq).2 h5))
   obtain⟨g1,g2⟩:=h1.2 (by omega)
   obtain⟨g3,g4⟩:=h2.2 (by omega)
   rw[g1,g3]at e
   have m1:=(z36 g2).2
   have m2:=(z36 g4).2
   rw[show z3o (sgA a.A cl p) (rnd a.A cl).1=z3o (sgA a.A cl q) (rnd a.A cl).1 by omega,m2]at m1
   have hs:sgA a.A cl p=sgA a.A cl q:=by simpa using m1.symm
   have sm:∀p:Nat,p<a.F.length→zbx (byC cl (a.A.getD p [])):=fun p hp=>by
    rw[←arcA p hp]
    exact zak hI.rng fun x hx=>by have:=(h.arcs (p:Nat)).2 x hx;omega
   have r1:=z52 hI.rng p
   have r2:=z52 hI.rng q
   exact hI.fin_ p q hp hq (zmj ⟨by omega,by omega⟩ ⟨by omega,by omega⟩ (sm p hp) (sm q hq) hs).1
structure Cls(a:Au)(lim:Nat)(r:List Int):Prop where
 inv:zwk a r
 lang:∀p q:Nat,p<a.F.length→q<a.F.length→r.getD p 0=r.getD q 0→∀w,a.acc (p:Nat) w=a.acc (q:Nat) w
 few:∃c:Nat,(c≤lim∧c≤a.F.length)∧∀q,q<a.F.length→r.getD q 0<c
theorem y7w{A:List (List Arc)}{cl:List Int}{p:Nat}(hp:p<cl.length):(rnd A cl).2.getD p 0<(rnd A cl).1.length:=by
 have h:=z7b (A:=A) hp
 by_cases h1:cl.getD p 0<0
 ·rw[h.1 h1];omega
 ·obtain⟨g1,g2⟩:=h.2 (by omega)
  rw[g1]
  have:=(z36 g2).1
  omega
theorem zxd{a:Au}(h:AuW a){cl:List Int}(hI:zwk a cl){p q:Nat}(hp:p<a.F.length)(hq:q<a.F.length)(e:(rnd a.A cl).2.getD p 0=(rnd a.A cl).2.getD q 0)(h3:¬cl.getD p 0<0) :
 ∀c,clA cl (a.nx (p:Nat) c)=clA cl (a.nx (q:Nat) c):=by
 have hlen:=hI.len
 have arcA:∀p:Nat,p<a.F.length→a.arcs (p:Nat)=a.A.getD p []:=fun p _=>by rw[Au.arcs,zAy (by omega),zA9]
 have h1:=z7b (A:=a.A) (cl:=cl) (p:=p) (by omega)
 have h2:=z7b (A:=a.A) (cl:=cl) (p:=q) (by omega)
 obtain⟨g1,g2⟩:=h1.2 (by omega)
 have h4:¬cl.getD q 0<0:=fun h5=>by rw[g1,h2.1 h5]at e;omega
 obtain⟨g3,g4⟩:=h2.2 (by omega)
 rw[g1,g3]at e
 have m1:=(z36 g2).2
 have m2:=(z36 g4).2
 rw[show z3o (sgA a.A cl p) (rnd a.A cl).1=z3o (sgA a.A cl q) (rnd a.A cl).1 by omega,m2]at m1
 have hs:sgA a.A cl p=sgA a.A cl q:=by simpa using m1.symm
 have sm:∀p:Nat,p<a.F.length→zbx (byC cl (a.A.getD p [])):=fun p hp=>by
  rw[←arcA p hp]
  exact zak hI.rng fun x hx=>by have:=(h.arcs (p:Nat)).2 x hx;omega
 have r1:=z52 hI.rng p
 have r2:=z52 hI.rng q
 have hb:=(zmj ⟨by omega,by omega⟩ ⟨by omega,by omega⟩ (sm p hp) (sm q hq) hs).2
 intro c
 rw[←arcA p hp,←arcA q hq]at hb
 have p2:=(zbu (zds hI) (h.arcs (p:Nat)).1).2 c
 have q2:=(zbu (zds hI) (h.arcs (q:Nat)).1).2 c
 rw[Au.nx,Au.nx,←p2,←q2,hb]
theorem zlf{a:Au}(h:AuW a){r:List Int}(hI:zwk a r)(hst:∀p q:Nat,p<a.F.length→q<a.F.length→r.getD p 0=r.getD q 0→∀c,clA r (a.nx (p:Nat) c)=clA r (a.nx (q:Nat) c)) :
 ∀(w:List Int) (p q:Int),-1≤p→p<a.F.length→-1≤q→q<a.F.length→clA r p=clA r q→a.acc p w=a.acc q w:=by
 have dd:∀q:Int,-1≤q→q<a.F.length→clA r q=-1→∀w,a.acc q w=false:=fun q h1 h2 e w=>by
  by_cases e2:q=-1
  ·rw[e2];exact a.acc_neg w (by decide)
  ·obtain⟨q,rfl⟩:∃k:Nat,q=k:=⟨q.toNat,by omega⟩
   rw[z3n]at e
   exact(hI.dead q (by omega)).1 (by omega) w
 intro w
 induction w with
 | nil =>
  intro p q p1 p2 q1 q2 e
  by_cases e1:clA r p=-1
  ·rw[dd p p1 p2 e1,dd q q1 q2 (e▸e1)]
  ·have hp:p≠-1:=by rintro rfl;exact e1 (z7a r)
   have hq:q≠-1:=by rintro rfl;exact e1 (e.trans (z7a r))
   obtain⟨p,rfl⟩:∃k:Nat,p=k:=⟨p.toNat,by omega⟩
   obtain⟨q,rfl⟩:∃k:Nat,q=k:=⟨q.toNat,by omega⟩
   rw[z3n,z3n]at e
   rw[Au.acc_nil,Au.acc_nil]
   exact hI.fin_ p q (by omega) (by omega) e
 | cons c w ih =>
  intro p q p1 p2 q1 q2 e
  by_cases e1:clA r p=-1
  ·rw[dd p p1 p2 e1,dd q q1 q2 (e▸e1)]
  ·have hp:p≠-1:=by rintro rfl;exact e1 (z7a r)
   have hq:q≠-1:=by rintro rfl;exact e1 (e.trans (z7a r))
   obtain⟨p,rfl⟩:∃k:Nat,p=k:=⟨p.toNat,by omega⟩
   obtain⟨q,rfl⟩:∃k:Nat,q=k:=⟨q.toNat,by omega⟩
   rw[z3n,z3n]at e
   rw[Au.acc_cons,Au.acc_cons]
   have n1:=h.nx (p:Nat) c
   have n2:=h.nx (q:Nat) c
   exact ih _ _ n1.1 n1.2 n2.1 n2.2 (hst p q (by omega) (by omega) e c)
theorem zpv{a:Au}(h:AuW a)(hn:a.F.length≤4000000){lim:Nat}:∀ {f c:Nat} {cl r:List Int},ClW a.F.length c cl→zwk a cl→(c=0∨∀q,q<a.F.length→cl.getD q 0<c)→zq7 a.A lim f c cl=some r→Cls a lim r
 | 0,_,_,_,_,_,_,e=>by rw[zq7]at e;cases e
 | f+1,c,cl,r,hW,hI,hb,e=>by
  have hA:∀l∈a.A,∀x∈l,0≤x.1∧x.1≤x.2.1∧x.2.1≤1114111:=fun l hl x hx=>by have:=(h.arc l hl).2 x hx;omega
  have hlen:=hI.len
  have hW2:=(ztm hn hW hA).2
  have hI2:=y4i h hn hW hI
  have hlt:∀q,q<a.F.length→(rnd a.A cl).2.getD q 0<(rnd a.A cl).1.length:=fun q hq=>y7w (by omega)
  rw[zq7]at e
  split at e
  ·cases e
  rename_i hl
  split at e
  ·rename_i hc
   simp only[zAh]at e
   subst e
   have arcA:∀p:Nat,p<a.F.length→a.arcs (p:Nat)=a.A.getD p []:=fun p _=>by rw[Au.arcs,zAy (by omega),zA9]
   have hm:=(zoc (A:=a.A) hW.full (fun q hq=>by have:=z52 hI.rng q;omega) (fun q hq=>by
    rw[←arcA q (by omega)]
    exact zak hI.rng fun x hx=>by have:=(h.arcs (q:Nat)).2 x hx;omega)).2 hc.symm
   -- old classes are new classes
   have hQ:∀p q:Nat,p<a.F.length→q<a.F.length→cl.getD p 0=cl.getD q 0→(rnd a.A cl).2.getD p 0=(rnd a.A cl).2.getD q 0:=fun p q hp hq e=>by
    have h1:=z7b (A:=a.A) (cl:=cl) (p:=p) (by omega)
    have h2:=z7b (A:=a.A) (cl:=cl) (p:=q) (by omega)
    by_cases h3:cl.getD p 0<0
    ·rw[h1.1 h3,h2.1 (by omega)]
    ·have g1:=h1.2 (by omega)
     have g2:=h2.2 (by omega)
     have hlt2:cl.getD p 0<c:=by
      rcases hb with rfl|hb
      ·have:=List.length_pos_of_mem g1.2;omega
      ·exact hb p hp
     rw[g1.1,g2.1,hm p q (by omega) (by omega) (by omega) hlt2 e]
   have hQ2:∀p q:Int,-1≤p→p<a.F.length→-1≤q→q<a.F.length→clA cl p=clA cl q→clA (rnd a.A cl).2 p=clA (rnd a.A cl).2 q:=fun p q p1 p2 q1 q2 e=>by
    have one:∀q:Int,-1≤q→q<a.F.length→clA cl q=-1→clA (rnd a.A cl).2 q=-1:=fun q h1 h2 e=>by
     by_cases e2:q=-1
     ·rw[e2,z7a]
     ·obtain⟨q,rfl⟩:∃k:Nat,q=k:=⟨q.toNat,by omega⟩
      rw[z3n]at e⊢
      exact(z7b (A:=a.A) (cl:=cl) (p:=q) (by omega)).1 (by omega)
    by_cases e1:clA cl p=-1
    ·rw[one p p1 p2 e1,one q q1 q2 (e▸e1)]
    ·have hp:p≠-1:=by rintro rfl;exact e1 (z7a cl)
     have hq:q≠-1:=by rintro rfl;exact e1 (e.trans (z7a cl))
     obtain⟨p,rfl⟩:∃k:Nat,p=k:=⟨p.toNat,by omega⟩
     obtain⟨q,rfl⟩:∃k:Nat,q=k:=⟨q.toNat,by omega⟩
     rw[z3n,z3n]at e⊢
     exact hQ p q (by omega) (by omega) e
   have hst:∀p q:Nat,p<a.F.length→q<a.F.length→(rnd a.A cl).2.getD p 0=(rnd a.A cl).2.getD q 0→∀c,clA (rnd a.A cl).2 (a.nx (p:Nat) c)=clA (rnd a.A cl).2 (a.nx (q:Nat) c):=fun p q hp hq e c=>by
    have n1:=h.nx (p:Nat) c
    have n2:=h.nx (q:Nat) c
    by_cases h3:(rnd a.A cl).2.getD p 0<0
    ·have d1:=(hI2.dead p hp).1 h3
     have d2:=(hI2.dead q hq).1 (by rw[←e];exact h3)
     exact hI2.to n1 n2 fun w=>by
      have x1:=d1 (c::w)
      have x2:=d2 (c::w)
      rw[Au.acc_cons]at x1 x2
      rw[x1,x2]
    ·have h4:¬cl.getD p 0<0:=fun h5=>h3 (by rw[(z7b (A:=a.A) (cl:=cl) (p:=p) (by omega)).1 h5];decide)
     exact hQ2 _ _ n1.1 n1.2 n2.1 n2.2 (zxd h hI hp hq e h4 c)
   refine⟨hI2,fun p q hp hq e w=>?_,_,⟨by omega,by have:=(y76 a.A cl).few;omega⟩,hlt⟩
   exact zlf h hI2 hst w (p:Nat) (q:Nat) (by omega) (by omega) (by omega) (by omega) (by rw[z3n,z3n];exact e)
  ·exact zpv h hn hW2 hI2 (.inr hlt) e
theorem zjr{a:Au}(h:AuW a)(hn:a.F.length≤4000000){lim:Nat}(hl:a.F.length≤lim):∀ {f c:Nat} {cl:List Int},ClW a.F.length c cl→a.F.length<f+c→∃r,zq7 a.A lim f c cl=some r
 | 0,c,cl,hW,hf=>by have:=hW.few;omega
 | f+1,c,cl,hW,hf=>by
  have hA:∀l∈a.A,∀x∈l,0≤x.1∧x.1≤x.2.1∧x.2.1≤1114111:=fun l hl x hx=>by have:=(h.arc l hl).2 x hx;omega
  obtain⟨h1,hW2⟩:=ztm hn hW hA
  have h2:=(y76 a.A cl).few
  have h3:=hW.len
  rw[zq7,zAy (by omega)]
  split
  ·exact⟨_,rfl⟩
  ·exact zjr h hn hl hW2 (by omega)
theorem zx0{a:Au}(h:AuW a)(hn:a.F.length≤4000000){lim:Nat}{r:List Int}(e:y3q a.F a.A lim=some r):Cls a lim r :=
 zpv h hn (zsg a.F a.A) (y5p h) (.inl rfl) e
theorem zw0:∀ {l:List Arc} {p:Option Arc},okA p l→∀ {e:Arc} {c:Int},e∈l→e.1≤c→c≤e.2.1→nxt l c=e.2.2
 | [],_,_,e,c,he,_,_=>by simp at he
 | x::l,p,h,e,c,he,h1,h2=>by
  rcases zAc.1 he with rfl|he
  ·exact z7r h1 h2
  ·have:=zj8 h.2.2.2 e he
   rw[nxt,zAy (by omega)]
   exact zw0 h.2.2.2 he h1 h2
theorem zop{K:Type}:∀ {es:List (Edge K)} {a c:Int} {k:K},okE a es→kx es c=some k→a≤c∧c≤1114111
 | [],_,_,_,_,h=>by cases h
 | e::es,a,c,k,h,hk=>by
  rw[kx]at hk
  have h1:=h.1
  have h2:=h.2.1
  have h3:=h.2.2.1
  split at hk
  ·omega
  ·have:=zop h.2.2.2 hk;omega
section
variable{K:Type}[DecidableEq K]
theorem ydc{fin:K→Bool}{edg:K→List (Edge K)}{first:K}{ks:List K}{a:Au}(h:Ex fin edg first ks.length ks a)(he:∀k,okE 0 (edg k)):AuW a:=by
 have hpos:0<ks.length:=(zA1.1 h.hd).1
 refine⟨by rw[h.al,h.fl],fun l hl=>?_,by rw[h.fl];exact hpos⟩
 obtain⟨q,hq⟩:=zAw hl
 have hql:q<ks.length:=by have:=(zA1.1 hq).1;rw[h.al]at this;exact this
 obtain⟨l',e1,e2,e3,e4⟩:=h.arc q _ hql (zA0 hql)
 rw[hq]at e1;cases e1
 refine⟨e2,fun x hx=>?_⟩
 have h1:=ztt e2 x hx
 have a1:=zw0 e2 hx (Int.le_refl _) h1
 have a2:=zw0 e2 hx h1 (Int.le_refl _)
 have p0:0≤x.2.2:=by
  have:∀ {l:List Arc} {p:Option Arc},okA p l→∀x∈l,0≤x.2.2:=fun {l}=>by
   induction l with
   | nil=>intro p _ x hx;simp at hx
   | cons y l ih =>
    intro p h x hx
    rcases zAc.1 hx with rfl|hx
    ·exact h.2.1
    ·exact ih h.2.2.2 x hx
  exact this e2 x hx
 have b1:=e3 x.1
 have b2:=e3 x.2.1
 rw[a1]at b1
 rw[a2]at b2
 cases k1:kx (edg ks[q]) x.1 with
 | none=>rw[k1]at b1;simp only at b1;omega
 | some y1 =>
  cases k2:kx (edg ks[q]) x.2.1 with
  | none=>rw[k2]at b2;simp only at b2;omega
  | some y2 =>
   rw[k1]at b1;simp only at b1
   have r1:=zop (he _) k1
   have r2:=zop (he _) k2
   have:=(z36 (e4 _ _ k1)).1
   rw[h.fl]
   omega
end
section
variable{a:Au}(h:AuW a){lim:Nat}{cl:List Int}(hc:Cls a lim cl){st:Int→Nat}(hst:∀q,q<a.F.length→st (cl.getD q 0)<a.F.length∧cl.getD (st (cl.getD q 0)) 0=cl.getD q 0)
include h hc hst
theorem zej:∀(w:List Int) (q:Nat),q<a.F.length→0≤cl.getD q 0→zku (fun k=>a.fin (st k:Nat)) (fun k=>byC cl (a.arcs (st k:Nat))) (some (cl.getD q 0)) w=a.acc (q:Nat) w
 | [],q,hq,h0=>by
  obtain⟨s1,s2⟩:=hst q hq
  rw[zku,←hc.lang _ _ s1 hq s2 []];rfl
 | c::w,q,hq,h0=>by
  obtain⟨s1,s2⟩:=hst q hq
  obtain⟨b1,b2⟩:=zbu (zds hc.inv) (h.arcs (st (cl.getD q 0):Nat)).1
  have n1:=h.nx (st (cl.getD q 0):Nat) c
  rw[zku,zt9 b1,b2,←hc.lang _ _ s1 hq s2 (c::w),Au.acc_cons]
  change zku _ _ (if clA cl (a.nx (st (cl.getD q 0):Nat) c)=-1 then none else some (clA cl (a.nx (st (cl.getD q 0):Nat) c))) w=_
  generalize a.nx (st (cl.getD q 0):Nat) c=t at *
  by_cases e:clA cl t=-1
  ·rw[zAz e]
   have hd:a.acc t w=false:=by
    by_cases e2:t=-1
    ·rw[e2];exact a.acc_neg w (by decide)
    ·obtain⟨t,rfl⟩:∃k:Nat,t=k:=⟨t.toNat,by omega⟩
     rw[z3n]at e
     exact(hc.inv.dead t (by omega)).1 (by omega) w
   rw[hd];cases w <;> rfl
  ·rw[zAy e]
   have e2:t≠-1:=by rintro rfl;exact e (z7a cl)
   obtain⟨t,rfl⟩:∃k:Nat,t=k:=⟨t.toNat,by omega⟩
   rw[z3n]at e⊢
   have:=z52 hc.inv.rng t
   exact zej w t (by omega) (by omega)
theorem y3d(h0:0≤cl.getD 0 0):∃b,exL (fun k=>a.fin (st k:Nat)) (fun k=>byC cl (a.arcs (st k:Nat))) lim (lim+1) 0 [cl.getD 0 0] ⟨[],[]⟩=some b∧Can b∧AuW b∧b.F.length≤a.F.length∧∀w,b.acc 0 w=a.acc 0 w:=by
 have hpos:=h.pos
 have he:∀k:Int,okE (K:=Int) 0 (byC cl (a.arcs (st k:Nat))):=fun k=>by
  have h1:=zgl (cl:=cl) (B:=4000000) (fun q=>(zas hc.inv.rng q).2) (l:=a.arcs (st k:Nat)) fun x hx=>by have:=(h.arcs (st k:Nat)).2 x hx;omega
  exact y14 (zbu (zds hc.inv) (h.arcs (st k:Nat)).1).1 (fun x hx=>by have:=h1 x hx;omega) fun x hx=>by have:=h1 x hx;omega
 obtain⟨c,⟨hcl,hcn⟩,hcb⟩:=hc.few
 have hok0:∃q,q<a.F.length∧cl.getD q 0=cl.getD 0 0∧0≤cl.getD 0 0:=⟨0,hpos,rfl,h0⟩
 have hcc:∀k:Int,(∃q,q<a.F.length∧cl.getD q 0=k∧0≤k)→∀d k',kx (K:=Int) (byC cl (a.arcs (st k:Nat))) d=some k'→∃q,q<a.F.length∧cl.getD q 0=k'∧0≤k':=fun k hk d k' e=>by
  obtain⟨b1,b2⟩:=zbu (zds hc.inv) (h.arcs (st k:Nat)).1
  have n1:=h.nx (st k:Nat) d
  rw[Au.nx]at n1
  rw[zt9 b1,b2]at e
  generalize nxt (a.arcs (st k:Nat)) d=t at *
  split at e
  ·cases e
  ·rename_i hn
   simp only[zAh]at e
   have e2:t≠-1:=by rintro rfl;exact hn (z7a cl)
   obtain⟨t,rfl⟩:∃k:Nat,t=k:=⟨t.toNat,by omega⟩
   rw[z3n]at e hn
   have:=z52 hc.inv.rng t
   exact⟨t,by omega,e,by omega⟩
 have hfew:∀l:List Int,l.Nodup→(∀x∈l,∃q,q<a.F.length∧cl.getD q 0=x∧0≤x)→l.length≤c:=fun l h1 h2 =>
  zjh (n:=c) h1 fun x hx=>by obtain⟨q,q1,q2,q3⟩:=h2 x hx;have:=hcb q q1;omega
 obtain⟨b,hb⟩:=zhe (fin:=fun k=>a.fin (st k:Nat)) (lim:=lim) (ok:=fun k:Int=>∃q,q<a.F.length∧cl.getD q 0=k∧0≤k) he hok0 hcc (fun l h1 h2=>Nat.le_trans (hfew l h1 h2) hcl) (lim+1) 0 _ _ (yb3 _ _ _) (by omega)
 obtain⟨ks,hx⟩:=zre he _ _ _ _ b (yb3 _ _ _) hb
 have hks:∀x∈ks,∃q,q<a.F.length∧cl.getD q 0=x∧0≤x:=fun x hxx=>by
  obtain⟨j,hj⟩:=zAw hxx
  exact zwv hx (ok:=fun k:Int=>∃q,q<a.F.length∧cl.getD q 0=k∧0≤k) hok0 hcc j x hj
 refine⟨b,hb,y91 hx (fun x hxx y hyy hw=>?_) fun x hxx=>?_,ydc hx he,y2f hx (ok:=fun k:Int=>∃q,q<a.F.length∧cl.getD q 0=k∧0≤k) hok0 hcc fun l h1 h2=>Nat.le_trans (hfew l h1 h2) hcn,fun w=>?_⟩
 ·obtain⟨p,p1,rfl,p3⟩:=hks x hxx
  obtain⟨q,q1,rfl,q3⟩:=hks y hyy
  exact hc.inv.same p q p1 q1 fun w=>by rw[←zej h hc hst w p p1 p3,←zej h hc hst w q q1 q3];exact hw w
 ·obtain⟨p,p1,rfl,p3⟩:=hks x hxx
  have hd:¬ ∀w,a.acc (p:Nat) w=false:=fun hd=>by have:=(hc.inv.dead p p1).2 hd;omega
  obtain⟨w,hw⟩:=Classical.not_forall.1 hd
  exact⟨w,by rw[zej h hc hst w p p1 p3];simpa using hw⟩
 ·have:=zg5 hx w 0 _ hx.hd
  rw[zej h hc hst w 0 hpos h0]at this
  exact this
end
def zkp:Au:=⟨[false],[[]]⟩
theorem zze:∀w,zkp.acc 0 w=false
 | []=>rfl
 | c::w=>by rw[Au.acc_cons];exact zkp.acc_neg w (show zkp.nx 0 c<0 from(by decide:(-1:Int)<0))
theorem y7o:AuW zkp:=⟨rfl,fun l hl=>by simp[zkp]at hl;subst hl;exact⟨trivial,by simp⟩,by decide⟩
def Nrm(m:Au):Prop:=Can m∨m=zkp
theorem zxi{a:Au}(h:AuW a)(hn:a.F.length≤256){st:List Int→Int→Nat}(hst:∀cl:List Int,cl.length=a.F.length→∀q,q<a.F.length→st cl (cl.getD q 0)<a.F.length∧cl.getD (st cl (cl.getD q 0)) 0=cl.getD q 0) :
 ∃cl,y3q a.F a.A 256=some cl∧∃m,(if cl.getD 0 0<0 then some zkp else exL (fun k=>a.fin (st cl k:Nat)) (fun k=>byC cl (a.arcs (st cl k:Nat))) 256 257 0 [cl.getD 0 0] ⟨[],[]⟩)=some m∧Nrm m∧AuW m∧m.F.length≤a.F.length∧∀w,m.acc 0 w=a.acc 0 w:=by
 have hpos:=h.pos
 obtain⟨cl,hcl⟩:=zjr h (by omega) (lim:=256) hn (f:=a.F.length+1) (zsg a.F a.A) (by omega)
 have hc:=zx0 h (by omega) (lim:=256) hcl
 refine⟨cl,hcl,?_⟩
 by_cases h0:cl.getD 0 0<0
 ·rw[zAz h0]
  refine⟨zkp,rfl,.inr rfl,y7o,hpos,fun w=>?_⟩
  rw[zze]
  exact((hc.inv.dead 0 hpos).1 h0 w).symm
 ·rw[zAy h0]
  obtain⟨b,b1,b2,b3,b4,b5⟩:=y3d h hc (st:=st cl) (hst cl hc.inv.len) (by omega)
  exact⟨b,b1,.inl b2,b3,b4,b5⟩
structure Tbl where
 P:List Int
 F:List Bool
 N:List (List Int)
def nxE:List Int→Int
 | q::_=>q-1
 | []=>1114111
def ydf:List Int→List Int→List (Edge Int)
 | [],_=>[]
 | _::_,[]=>[]
 | p::P,n::N=>(p,nxE P,n)::ydf P N
theorem y9x{K:Type}{l:List (Edge K)}{a b:Int}(h:okE b l)(hab:a≤b):okE a l:=by
 cases l with
 | nil=>trivial
 | cons e l=>exact⟨by have:=h.1;omega,h.2⟩
structure y7a(t:Tbl):Prop where
 hd:t.P[0]? =some 0
 asc:t.P.Pairwise (· <·)
 rng:∀z∈t.P,0≤z∧z≤1114111
 pos:0<t.F.length
 len:t.N.length=t.F.length
 row:∀r∈t.N,r.length=t.P.length∧∀n∈r,0≤n∧n<t.F.length
def Tbl.row(t:Tbl)(s:Nat):List Int:=t.N.getD s []
def Tbl.edg(t:Tbl)(s:Nat):List (Edge Int):=ydf t.P (t.row s)
def Tbl.acc(t:Tbl):List Int→Nat→Bool
 | [],s=>t.F.getD s false
 | c::w,s=>match kx (t.edg s) c with|none=>false|some n=>t.acc w n.toNat
section
variable{t:Tbl}(h:y7a t){cl:List Int}{lv:List Bool}{st:Int→Nat}
 (hc:∀i k,i<t.F.length→k<t.F.length→(cl.getD i 0=cl.getD k 0↔∀w,t.acc w i=t.acc w k))
 (hr:∀i,i<t.F.length→0≤cl.getD i 0∧cl.getD i 0<t.F.length)
 (hl:∀i,i<t.F.length→(lv.getD i false=true↔∃w,t.acc w i=true))
 (hst:∀i,i<t.F.length→st (cl.getD i 0)<t.F.length∧cl.getD (st (cl.getD i 0)) 0=cl.getD i 0)
include h hc hl hst
include hr
end
def y2n(p:Nat→Bool):Nat→Nat→Option Nat
 | 0,_=>none
 | m+1,k=>if p k=true then some k else y2n p m (k+1)
theorem zis{p:Nat→Bool}:∀ {m k r:Nat},y2n p m k=some r→p r=true∧k≤r∧r<k+m
 | 0,k,r,h=>by rw[y2n]at h;cases h
 | m+1,k,r,h=>by
  rw[y2n]at h
  split at h
  ·rename_i hp;cases h;exact⟨hp,by omega,by omega⟩
  ·obtain⟨h1,h2,h3⟩:=zis h;exact⟨h1,by omega,by omega⟩
theorem zik{p:Nat→Bool}:∀ {m k:Nat},y2n p m k=none→∀r,k≤r→r<k+m→p r=false
 | 0,k,_,r,h1,h2=>by omega
 | m+1,k,h,r,h1,h2=>by
  rw[y2n]at h
  split at h
  ·cases h
  ·rename_i hp
   by_cases hr:r=k
   ·rw[hr];simpa using hp
   ·exact zik h r (by omega) (by omega)
def ycq(p:Nat→Bool):Nat→Nat→Bool
 | 0,_=>false
 | m+1,k=>p k||ycq p m (k+1)
abbrev cAt(c:List Int)(n:Int):Int:=c.getD n.toNat 0
def yav(c:List Int):List Int→List Int→Bool
 | a::r,b::s=>decide (cAt c a=cAt c b)&&yav c r s
 | _,_=>true
theorem znt{c:List Int}:∀ {r s:List Int},r.length=s.length→(yav c r s=true↔r.map (cAt c)=s.map (cAt c))
 | [],[],_=>by simp[yav]
 | a::r,[],h=>by simp at h
 | [],b::s,h=>by simp at h
 | a::r,b::s,h=>by
  rw[yav,zA7,zA3,znt (by simpa using h),List.map_cons,List.map_cons,List.cons.injEq]
def Tbl.alk(t:Tbl)(c:List Int)(i k:Nat):Bool:=decide (c.getD i 0=c.getD k 0)&&yav c (t.row i) (t.row k)
def Tbl.dOne(t:Tbl)(c:List Int)(s:List Int × Int)(i:Nat):List Int × Int:=match y2n (t.alk c i) i 0 with
 | some k=>(s.1++[s.1.getD k 0],s.2)
 | none=>(s.1++[s.2],s.2+1)
def ydu(c d:List Int)(i k:Nat):Bool:=decide (c.getD i 0=c.getD k 0)&&decide (d.getD i 0≠d.getD k 0)
def spl(c d:List Int)(n:Nat):Bool:=ycq (fun i=>ycq (ydu c d i) i 0) n 0
theorem y7a.row_len{t:Tbl}(h:y7a t){i:Nat}(hi:i<t.F.length):(t.row i).length=t.P.length:=by
 obtain⟨r,hr⟩:∃r,t.N[i]? =some r:=⟨_,zA0 (by rw[h.len];exact hi)⟩
 rw[Tbl.row,List.getD,hr];exact(h.row r (zA2 hr)).1
theorem y7a.alk_iff{t:Tbl}(h:y7a t){c:List Int}{i k:Nat}(hi:i<t.F.length)(hk:k<t.F.length):t.alk c i k=true↔c.getD i 0=c.getD k 0∧(t.row i).map (cAt c)=(t.row k).map (cAt c):=by
 rw[Tbl.alk,zA7,zA3,znt (by rw[h.row_len hi,h.row_len hk])]
structure DS(t:Tbl)(c:List Int)(q:Nat)(s:List Int × Int):Prop where
 len:s.1.length=q
 cnt:0≤s.2∧s.2≤q
 rng:∀i,i<q→0≤s.1.getD i 0∧s.1.getD i 0<s.2
 eqv:∀i k,i<q→k<q→(s.1.getD i 0=s.1.getD k 0↔t.alk c i k=true)
theorem zmc{l:List Int}{x:Int}{i:Nat}(h:i<l.length):(l++[x]).getD i 0=l.getD i 0:=by
 rw[List.getD,List.getD,zAb h]
theorem zms{l:List Int}{x:Int}:(l++[x]).getD l.length 0=x:=by
 rw[List.getD,zAg (zAj _)];simp
theorem DS.step{t:Tbl}(h:y7a t){c:List Int}{q:Nat}{s:List Int × Int}(hs:DS t c q s)(hq:q<t.F.length):DS t c (q+1) (t.dOne c s q):=by
 obtain⟨l,m⟩:=s
 obtain⟨h1,h2,h3,h4⟩:=hs
 simp only at h1 h2 h3 h4
 have key:∀(v:Int) (m':Int),m≤m'→m'≤(q:Int)+1→0≤v→v<m'→(∀i,i<q→(l.getD i 0=v↔t.alk c i q=true))→DS t c (q+1) (l++[v],m'):=fun v m' m1 m2 v0 v1 hv=>by
  have hg:∀i,i<q→(l++[v]).getD i 0=l.getD i 0:=fun i hi=>zmc (by omega)
  have hgq:(l++[v]).getD q 0=v:=by rw[←h1];exact zms
  have hsy:∀i,i<q→(t.alk c q i=true↔t.alk c i q=true):=fun i hi=>by
   rw[h.alk_iff hq (by omega),h.alk_iff (by omega) hq]
   exact⟨fun h=>⟨h.1.symm,h.2.symm⟩,fun h=>⟨h.1.symm,h.2.symm⟩⟩
  refine⟨by simp[h1],by simp only;omega,fun i hi=>?_,fun i k hi hk=>?_⟩
  ·simp only
   by_cases hiq:i=q
   ·rw[hiq,hgq];exact⟨v0,v1⟩
   ·rw[hg i (by omega)];have:=h3 i (by omega);omega
  ·simp only
   by_cases hiq:i=q
   ·by_cases hkq:k=q
    ·rw[hiq,hkq,h.alk_iff hq hq];exact⟨fun _=>⟨rfl,rfl⟩,fun _=>rfl⟩
    ·rw[hiq,hgq,hg k (by omega),hsy k (by omega),←hv k (by omega)];exact eq_comm
   ·by_cases hkq:k=q
    ·rw[hkq,hgq,hg i (by omega)];exact hv i (by omega)
    ·rw[hg i (by omega),hg k (by omega)];exact h4 i k (by omega) (by omega)
 rw[Tbl.dOne]
 cases hf:y2n (t.alk c q) q 0 with
 | some k =>
  obtain⟨k1,k2,k3⟩:=zis hf
  have hk:=h3 k (by omega)
  refine key _ m (Int.le_refl _) (by omega) hk.1 hk.2 fun i hi=>?_
  rw[h4 i k hi (by omega),h.alk_iff (by omega) (by omega),h.alk_iff (by omega) hq]
  rw[h.alk_iff hq (by omega)]at k1
  exact⟨fun g=>⟨g.1.trans k1.1.symm,g.2.trans k1.2.symm⟩,fun g=>⟨g.1.trans k1.1,g.2.trans k1.2⟩⟩
 | none =>
  have hn:=zik hf
  refine key m (m+1) (by omega) (by omega) h2.1 (by omega) fun i hi=>⟨fun e=>?_,fun e=>?_⟩
  ·have:=h3 i hi;omega
  ·have:=hn i (by omega) (by omega)
   rw[h.alk_iff (by omega) hq]at e
   rw[(h.alk_iff hq (by omega)).2 ⟨e.1.symm,e.2.symm⟩]at this
   cases this
def leB:List Bool→List Bool→Prop
 | [],[]=>True
 | a::l,b::m=>(a=true→b=true)∧leB l m
 | _,_=>False
theorem zh6:∀l:List Bool,leB l l
 | []=>trivial
 | a::l=>⟨id,zh6 l⟩
theorem zae:∀ {l m k:List Bool},leB l m→leB m k→leB l k
 | [],[],[],_,_=>trivial
 | [],[],_::_,_,h=>h.elim
 | [],_::_,_,h,_=>h.elim
 | _::_,[],_,h,_=>h.elim
 | _::_,_::_,[],_,h=>h.elim
 | a::l,b::m,c::k,h,g=>⟨fun x=>g.1 (h.1 x),zae h.2 g.2⟩
theorem y1y:∀ {l m:List Bool},leB l m→∀i,l.getD i false=true→m.getD i false=true
 | [],[],_,i,h=>h
 | [],_::_,h,_,_=>h.elim
 | _::_,[],h,_,_=>h.elim
 | a::l,b::m,h,0,g=>h.1 g
 | a::l,b::m,h,i+1,g=>by
  rw[List.getD_cons_succ]at g⊢
  exact y1y h.2 i g
theorem zuc:∀(l:List Bool) (i:Nat) (b:Bool),leB l (l.set i (l.getD i false||b))
 | [],i,b=>by cases i <;> trivial
 | a::l,0,b=>⟨fun h=>by simp[h],zh6 l⟩
 | a::l,i+1,b=>by rw[List.set_cons_succ,List.getD_cons_succ];exact⟨id,zuc l i b⟩
def lvS(i:Nat)(l:List Bool)(n:Int):List Bool:=l.set i (l.getD i false||l.getD n.toNat false)
def Tbl.lvRow(t:Tbl)(l:List Bool)(i:Nat):List Bool:=(t.row i).foldl (lvS i) l
def Tbl.lvRnd(t:Tbl):Nat→Nat→List Bool→List Bool
 | 0,_,l=>l
 | m+1,i,l=>t.lvRnd m (i+1) (t.lvRow l i)
def Tbl.lvT(t:Tbl):Nat→List Bool→List Bool
 | 0,l=>l
 | m+1,l=>t.lvT m (t.lvRnd t.F.length 0 l)
def Tbl.live(t:Tbl):List Bool:=t.lvT t.F.length t.F
theorem zdb{P:List Int}:∀ {l:List Arc},(∀x∈l,x.2.1≤1114111∧x.1∈P∧(x.2.1+1≤1114111→x.2.1+1∈P))→∀ {p c:Int},p≤c→c≤1114111→(∀y∈P,y≤c→y≤p)→nxt l c=nxt l p
 | [],_,_,_,_,_,_=>rfl
 | x::l,h,p,c,hp,hc,hy=>by
  obtain⟨h1,h2,h3⟩:=h x (by simp)
  have ih:=zdb (l:=l) (fun y hy=>h y (List.mem_cons_of_mem _ hy)) hp hc hy
  rw[nxt,nxt,ih]
  have e1:x.1≤c↔x.1≤p:=⟨fun g=>hy _ h2 g,fun g=>by omega⟩
  have e2:c≤x.2.1↔p≤x.2.1:=⟨fun g=>by omega,fun g=>by
   refine Decidable.byContradiction fun hn=>?_
   have:=hy _ (h3 (by omega)) (by omega)
   omega⟩
  simp only[e1,e2]
def zqn(a b:Au)(p:Int × Int)(s:List (Int × Int) × List Int)(c:Int):List (Int × Int) × List Int:=(z7j s.1 (a.nx p.1 c,b.nx p.2 c),s.2++[((z3o (a.nx p.1 c,b.nx p.2 c) s.1:Nat):Int)])
def zyr(a b:Au)(p:Int × Int):Prop:=-1≤p.1∧p.1<a.F.length∧-1≤p.2∧p.2<b.F.length
structure PrS(a b:Au)(p:Int × Int)(L:List (Int × Int))(Q:List Int)(s:List (Int × Int) × List Int):Prop where
 pre:∃e,s.1=L++e
 nod:s.1.Nodup
 ok:∀p∈s.1,zyr a b p
 len:s.2.length=Q.length
 at_:∀(x:Nat) (c:Int),Q[x]? =some c→∃k:Nat,s.2[x]? =some (k:Int)∧s.1[k]? =some (a.nx p.1 c,b.nx p.2 c)
theorem PrS.step{a b:Au}(ha:AuW a)(hb:AuW b){p:Int × Int}{L:List (Int × Int)}{Q:List Int}{s:List (Int × Int) × List Int}(h:PrS a b p L Q s)(c:Int):PrS a b p L (Q++[c]) (zqn a b p s c):=by
 obtain⟨s1,s2⟩:=s
 obtain⟨⟨e,he⟩,h2,h3,h4,h5⟩:=h
 simp only at he h2 h3 h4 h5
 rw[zqn]
 have hmem:=z9l s1 (a.nx p.1 c,b.nx p.2 c)
 obtain⟨r,hr⟩:=z89 s1 (a.nx p.1 c,b.nx p.2 c)
 refine⟨⟨e++r,by simp only;rw[hr,he,zAl]⟩,zbi h2,fun q hq=>?_,by simp[h4],fun x c' hx=>?_⟩
 ·simp only[z7j]at hq
  split at hq
  ·exact h3 q hq
  ·rw[zAt,zAq]at hq
   rcases hq with hq|rfl
   ·exact h3 q hq
   ·have:=ha.nx p.1 c;have:=hb.nx p.2 c;exact⟨by omega,by omega,by omega,by omega⟩
 ·simp only
  by_cases hlt:x<Q.length
  ·rw[zAb hlt]at hx
   obtain⟨k,k1,k2⟩:=h5 x c' hx
   refine⟨k,by rw[zAb (by omega)];exact k1,by rw[hr,zAb (zA1.1 k2).1];exact k2⟩
  ·have hx1:=(zA1.1 hx).1
   rw[zAa,zAn]at hx1
   obtain rfl:x=Q.length:=by omega
   rw[zAg (zAj _)]at hx
   simp at hx
   subst hx
   refine⟨z3o (a.nx p.1 c,b.nx p.2 c) s1,by rw[←h4,zAg (zAj _)];simp,?_⟩
   have:=(z36 hmem).2
   rwa [zgg]at this
theorem zp7{a b:Au}(ha:AuW a)(hb:AuW b){p:Int × Int}{L:List (Int × Int)}:∀(P Q:List Int) (s:List (Int × Int) × List Int),PrS a b p L Q s→PrS a b p L (Q++P) (P.foldl (zqn a b p) s)
 | [],Q,s,h=>by rw[List.append_nil];exact h
 | c::P,Q,s,h=>by
  rw[List.foldl_cons,show Q++c::P=(Q++[c])++P by simp]
  exact zp7 ha hb P _ _ (h.step ha hb c)
structure PrI(a b:Au)(dec:Bool→Bool→Bool)(P:List Int)(i:Nat)(L:List (Int × Int))(F:List Bool)(N:List (List Int)):Prop where
 le:i≤L.length
 fl:F.length=i
 nl:N.length=i
 hd:L[0]? =some (0,0)
 nod:L.Nodup
 ok:∀p∈L,zyr a b p
 fin_:∀q p,q<i→L[q]? =some p→F[q]? =some (dec (a.fin p.1) (b.fin p.2))
 row:∀q p,q<i→L[q]? =some p→∃r,N[q]? =some r∧r.length=P.length∧∀(x:Nat) (c:Int),P[x]? =some c→∃k:Nat,r[x]? =some (k:Int)∧L[k]? =some (a.nx p.1 c,b.nx p.2 c)
theorem PrI.step{a b:Au}(ha:AuW a)(hb:AuW b){dec:Bool→Bool→Bool}{P:List Int}{i:Nat}{L:List (Int × Int)}{F:List Bool}{N:List (List Int)}(h:PrI a b dec P i L F N){p:Int × Int}(hp:L[i]? =some p) :
 PrI a b dec P (i+1) (P.foldl (zqn a b p) (L,[])).1 (F++[dec (a.fin p.1) (b.fin p.2)]) (N++[(P.foldl (zqn a b p) (L,[])).2]):=by
 have hi:=(zA1.1 hp).1
 have hs:=zp7 ha hb (p:=p) (L:=L) P [] (L,[]) ⟨⟨[],by simp⟩,h.nod,h.ok,rfl,by simp⟩
 rw[List.nil_append]at hs
 generalize P.foldl (zqn a b p) (L,[])=s at *
 obtain⟨⟨e,he⟩,h2,h3,h4,h5⟩:=hs
 have hget:∀ {q:Nat},q<L.length→s.1[q]? =L[q]?:=fun hq=>by rw[he,zAb hq]
 have hle:=h.le
 have hfl:=h.fl
 have hnl:=h.nl
 refine⟨by rw[he,zAa];omega,by simp[hfl],by simp[hnl],by rw[hget (by omega)];exact h.hd,h2,h3,fun q p' hq hp'=>?_,fun q p' hq hp'=>?_⟩
 ·rw[hget (by omega)]at hp'
  by_cases hqi:q=i
  ·subst hqi
   rw[hp]at hp';cases hp'
   rw[zAg (by omega),hfl];simp
  ·rw[zAb (by omega)]
   exact h.fin_ q p' (by omega) hp'
 ·rw[hget (by omega)]at hp'
  by_cases hqi:q=i
  ·subst hqi
   rw[hp]at hp';cases hp'
   exact⟨s.2,by rw[zAg (by omega),hnl];simp,h4,h5⟩
  ·obtain⟨r,r1,r2,r3⟩:=h.row q p' (by omega) hp'
   refine⟨r,by rw[zAb (by omega)];exact r1,r2,fun x c hx=>?_⟩
   obtain⟨k,k1,k2⟩:=r3 x c hx
   exact⟨k,k1,by rw[hget (zA1.1 k2).1];exact k2⟩
theorem y89{a b:Au}{L:List (Int × Int)}(hn:L.Nodup)(hok:∀p∈L,zyr a b p):L.length≤(a.F.length+1)*(b.F.length+1):=by
 have h1:(L.map fun p=>(p.1+1)*((b.F.length+1:Nat):Int)+(p.2+1)).Nodup:=by
  rw[List.nodup_iff_pairwise_ne]at hn
  rw[List.nodup_iff_pairwise_ne,List.pairwise_map]
  refine hn.imp_of_mem fun {p q} hp hq hpq e=>hpq ?_
  have o1:=hok p hp
  have o2:=hok q hq
  unfold zyr at o1 o2
  have hq1:p.1=q.1:=by
   rcases Int.lt_trichotomy p.1 q.1 with hlt|hlt|hlt
   ·have:(p.1+1+1)*((b.F.length+1:Nat):Int)≤(q.1+1)*((b.F.length+1:Nat):Int):=Int.mul_le_mul_of_nonneg_right (by omega) (by omega)
    rw[Int.add_mul,Int.one_mul]at this
    omega
   ·exact hlt
   ·have:(q.1+1+1)*((b.F.length+1:Nat):Int)≤(p.1+1)*((b.F.length+1:Nat):Int):=Int.mul_le_mul_of_nonneg_right (by omega) (by omega)
    rw[Int.add_mul,Int.one_mul]at this
    omega
  rw[hq1]at e
  exact Prod.ext hq1 (by omega)
 have h2:=zjh (n:=(a.F.length+1)*(b.F.length+1)) h1 fun x hx=>by
  obtain⟨p,hp,rfl⟩:=List.mem_map.1 hx
  have o1:=hok p hp
  unfold zyr at o1
  have l1:0≤(p.1+1)*((b.F.length+1:Nat):Int):=Int.mul_nonneg (by omega) (by omega)
  have l2:(p.1+1)*((b.F.length+1:Nat):Int)≤(a.F.length:Int)*((b.F.length+1:Nat):Int):=Int.mul_le_mul_of_nonneg_right (by omega) (by omega)
  rw[Nat.add_mul,Nat.one_mul]
  push_cast at l1 l2⊢
  omega
 simpa using h2
def vld(w:List Int):Bool:=w.all fun c=>decide (0≤c)&&decide (c≤1114111)
def y8d(c:Int):Prop:=0≤c∧c≤1114111∧(c<55296∨57343<c)
section
variable{K:Type}
def zwg(f:Int→Option K)(x y:Int):Option (Edge K):=(f x).map fun k=>(x,y-1,k)
def zqx(f:Int→Option K):List Int→List (Edge K)
 | x::y::P=>match zwg f x y with
  | none=>zqx f (y::P)
  | some e=>e::zqx f (y::P)
 | _=>[]
theorem zfx(f:Int→Option K):∀P:List Int,(List.range (P.length-1)).filterMap (fun i=>zwg f (P.getD i 0) (P.getD (i+1) 0))=zqx f P
 | []=>rfl
 | [x]=>rfl
 | x::y::P=>by
  have ih:=zfx f (y::P)
  rw[zqx,←ih]
  show(List.range (P.length+1)).filterMap _=_
  rw[List.range_succ_eq_map,List.filterMap_cons]
  have e:(List.map Nat.succ (List.range P.length)).filterMap (fun i=>zwg f ((x::y::P).getD i 0) ((x::y::P).getD (i+1) 0))=(List.range ((y::P).length-1)).filterMap (fun i=>zwg f ((y::P).getD i 0) ((y::P).getD (i+1) 0)):=by
   rw[List.filterMap_map];rfl
  rw[e]
  have e0:zwg f ((x::y::P).getD 0 0) ((x::y::P).getD (0+1) 0)=zwg f x y:=rfl
  rw[e0]
  cases zwg f x y <;> rfl
theorem zmh{f:Int→Option K}:∀ {P:List Int} {a:Int},P.Pairwise (· <·)→(∀z∈P,a≤z∧z≤1114112)→okE a (zqx f P)
 | [],_,_,_=>trivial
 | [x],_,_,_=>trivial
 | x::y::P,a,h,hr=>by
  have hxy:x<y:=(List.pairwise_cons.1 h).1 y (by simp)
  have h1:=hr x (by simp)
  have h2:=hr y (by simp)
  have hy:∀z∈y::P,y≤z∧z≤1114112:=fun z hz=>by
   rcases zAc.1 hz with rfl|hz'
   ·exact⟨Int.le_refl _,h2.2⟩
   ·exact⟨Int.le_of_lt ((List.pairwise_cons.1 (List.pairwise_cons.1 h).2).1 z hz'),(hr z (List.mem_cons_of_mem _ hz)).2⟩
  have ih:=zmh (f:=f) (List.pairwise_cons.1 h).2 hy
  rw[zqx,zwg]
  cases f x with
  | none=>exact y9x ih (by omega)
  | some k=>exact⟨h1.1,by simp only;omega,by simp only;omega,by show okE (y-1+1) _;rw[Int.sub_add_cancel];exact ih⟩
theorem y1o{f:Int→Option K}{c:Int}:∀ {P:List Int},P.Pairwise (· <·)→(∀p∈P,p≤c→(∀y∈P,y≤c→y≤p)→f p=f c)→(∀p∈P,p≤c→(∃q∈P,c<q)→kx (zqx f P) c=f c)∧((∀p∈P,c<p)∨(∀p∈P,p≤c)→kx (zqx f P) c=none)
 | [],_,_=>⟨fun p hp=>by simp at hp,fun _=>rfl⟩
 | [x],_,_=>⟨fun p hp hpc hq=>by obtain⟨q,hq,h⟩:=hq;simp at hp hq;subst hp;subst hq;omega,fun _=>rfl⟩
 | x::y::P,h,hc=>by
  obtain⟨hx,h'⟩:=List.pairwise_cons.1 h
  have hxy:x<y:=hx y (by simp)
  have hyP:∀z∈y::P,y≤z:=fun z hz=>by
   rcases zAc.1 hz with rfl|hz'
   ·exact Int.le_refl _
   ·exact Int.le_of_lt ((List.pairwise_cons.1 h').1 z hz')
  obtain⟨i1,i2⟩:=y1o (f:=f) (c:=c) h' fun p hp hpc hy=>by
   refine hc p (List.mem_cons_of_mem _ hp) hpc fun z hz hzc=>?_
   rcases zAc.1 hz with rfl|hz
   ·have:=hyP p hp;omega
   ·exact hy z hz hzc
  have key:kx (zqx f (x::y::P)) c=if x≤c∧c<y∧(f x).isSome then f x else kx (zqx f (y::P)) c:=by
   rw[zqx,zwg]
   cases hf:f x with
   | none=>rw[zAy (by simp)];rfl
   | some k =>
    show(if x≤c∧c≤y-1 then some k else _)=_
    by_cases g:x≤c∧c<y
    ·rw[zAz ⟨g.1,by omega⟩,zAz ⟨g.1,g.2,rfl⟩]
    ·rw[zAy (by omega),zAy fun w=>g ⟨w.1,w.2.1⟩]
  by_cases g:x≤c∧c<y
  ·have e:f x=f c:=hc x (by simp) g.1 fun z hz hzc=>by
    rcases zAc.1 hz with rfl|hz
    ·exact Int.le_refl _
    ·have:=hyP z hz;omega
   refine⟨fun p hp hpc hq=>?_,fun ho=>?_⟩
   ·rw[key]
    by_cases s:(f x).isSome=true
    ·rw[zAz ⟨g.1,g.2,s⟩,e]
    ·rw[zAy fun w=>s w.2.2,i2 (.inl fun p hp=>by have:=hyP p hp;omega),←e]
     cases hf:f x with
     | none=>rfl
     | some k=>rw[hf]at s;exact absurd rfl s
   ·rcases ho with ho|ho
    ·have:=ho x (by simp);omega
    ·have:=ho y (by simp);omega
  ·rw[zAy fun w=>g ⟨w.1,w.2.1⟩]at key
   rw[key]
   refine⟨fun p hp hpc hq=>?_,fun ho=>?_⟩
   ·obtain⟨q,hq,hcq⟩:=hq
    have hq2:q∈y::P:=by
     rcases zAc.1 hq with rfl|h2
     ·rcases zAc.1 hp with rfl|h3
      ·omega
      ·have:=hx p h3;omega
     ·exact h2
    rcases zAc.1 hp with rfl|h3
    ·exact i1 y (by simp) (by omega) ⟨q,hq2,hcq⟩
    ·exact i1 p h3 hpc ⟨q,hq2,hcq⟩
   ·exact i2 (ho.imp (fun w p hp=>w p (List.mem_cons_of_mem _ hp)) fun w p hp=>w p (List.mem_cons_of_mem _ hp))
end
end Go.Ax
