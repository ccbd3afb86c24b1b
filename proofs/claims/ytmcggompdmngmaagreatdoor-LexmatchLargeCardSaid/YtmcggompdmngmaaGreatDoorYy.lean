/- A part of the proof: AX1 to AX20. -/
import Derived.Test.YtmcggompdmngmaaGreatDoorY0
set_option linter.all false
namespace Go.Ax
abbrev Arc:=Int × Int × Int
structure Au where
 F:List Bool
 A:List (List Arc)
def nxt:List Arc→Int→Int
 | [],_=> -1
 | x::l,c=>if x.1≤c∧c≤x.2.1 then x.2.2 else nxt l c
def Au.arcs (a:Au) (q:Int):List Arc:=if q<0 then [] else a.A.getD q.toNat []
def Au.fin (a:Au) (q:Int):Bool:=if q<0 then false else a.F.getD q.toNat false
def Au.nx (a:Au) (q c:Int):Int:=nxt (a.arcs q) c
def Au.run (a:Au):Int→List Int→Int
 | q,[]=>q
 | q,c::w=>a.run (a.nx q c) w
def Au.acc (a:Au) (q:Int) (w:List Int):Bool:=a.fin (a.run q w)
theorem Au.acc_nil (a:Au) (q:Int):a.acc q []=a.fin q:=rfl
theorem Au.acc_cons (a:Au) (q c:Int) (w:List Int):a.acc q (c::w)=a.acc (a.nx q c) w:=rfl
theorem Au.nx_neg (a:Au) {q:Int} (h:q<0) (c:Int):a.nx q c=-1:=by rw[nx,arcs,zAz h];rfl
theorem Au.acc_neg (a:Au):∀ (w:List Int) {q:Int},q<0→a.acc q w=false
 | [],q,h=>by rw[acc_nil,fin,zAz h]
 | c::w,q,h=>by rw[acc_cons,a.nx_neg h c];exact a.acc_neg w (by decide)
def okA:Option Arc→List Arc→Prop
 | _,[]=>True
 | p,x::l=>x.1≤x.2.1∧0≤x.2.2∧(∀ y,p=some y→y.2.1<x.1∧¬ (y.2.1+1=x.1∧y.2.2=x.2.2))∧okA (some x) l
theorem zqa:∀ {l:List Arc} {y:Arc},okA (some y) l→∀ c,c≤y.2.1→nxt l c=-1
 | [],_,_,_,_=>rfl
 | x::l,y,h,c,hc=>by
  have h1:=(h.2.2.1 y rfl).1
  rw[nxt,zAy (by omega)]
  exact zqa h.2.2.2 c (by have:=h.1;omega)
def before (i c j d:Int):Prop:=i<j∨i=j∧c<d
structure Can (a:Au):Prop where
 pos:0<a.F.length
 len:a.A.length=a.F.length
 ok:∀ l∈a.A,okA none l
 rng:∀ q c,a.nx q c<a.F.length
 bfs:∀ j:Int,1≤j→j<a.F.length→∃ i c,0≤i∧i<j∧a.nx i c=j∧∀ i' c',0≤i'→before i' c' i c→a.nx i' c'<j
 dif:∀ i j:Int,0≤i→i<a.F.length→0≤j→j<a.F.length→(∀ w,a.acc i w=a.acc j w)→i=j
 live:∀ i:Int,0≤i→i<a.F.length→∃ w,a.acc i w=true
section
variable {a b:Au} (ha:Can a) (hb:Can b) (h0:∀ w,a.acc 0 w=b.acc 0 w)
include ha hb
end
def z9a:Option Arc→List Arc→Option Arc
 | p,[]=>p
 | _,x::l=>z9a (some x) l
theorem z36:∀ (l:List Arc) (p:Option Arc) (x:Arc),z9a p (l++[x])=some x
 | [],_,_=>rfl
 | y::l,p,x=>by rw[List.cons_append,z9a,z36 l]
theorem zgf:∀ {l:List Arc} {p:Option Arc} {x:Arc},okA p l→x.1≤x.2.1→0≤x.2.2→(∀ y,z9a p l=some y→y.2.1<x.1∧¬ (y.2.1+1=x.1∧y.2.2=x.2.2))→okA p (l++[x])
 | [],p,x,_,h1,h2,h3=>⟨h1,h2,h3,trivial⟩
 | z::l,p,x,h,h1,h2,h3=>⟨h.1,h.2.1,h.2.2.1,zgf h.2.2.2 h1 h2 h3⟩
theorem zlp:∀ {l:List Arc} {p:Option Arc} {x:Arc},okA p (l++[x])→okA p l∧x.1≤x.2.1∧0≤x.2.2∧∀ y,z9a p l=some y→y.2.1<x.1∧¬ (y.2.1+1=x.1∧y.2.2=x.2.2)
 | [],p,x,h=>⟨trivial,h.1,h.2.1,h.2.2.1⟩
 | z::l,p,x,h=>by
  obtain⟨h1,h2⟩:=zlp (l:=l) (p:=some z) h.2.2.2
  exact⟨⟨h.1,h.2.1,h.2.2.1,h1⟩,h2⟩
theorem zg0:∀ {l:List Arc} {p:Option Arc},okA p l→∀ (m:List Arc) (c:Int),nxt (l++m) c=if nxt l c=-1 then nxt m c else nxt l c
 | [],_,_,m,c=>by simp[nxt]
 | x::l,p,h,m,c=>by
  rw[List.cons_append,nxt,nxt]
  by_cases hc:x.1≤c∧c≤x.2.1
  · rw[zAz hc,zAz hc,zAy (by have:=h.2.1;omega)]
  · rw[zAy hc,zAy hc]
    exact zg0 h.2.2.2 m c
theorem zuo:∀ {l:List Arc} {p:Option Arc} {y:Arc},okA p l→z9a p l=some y→(∀ z,p=some z→z=y∨z.2.1<y.1∨True)→∀ c,y.2.1<c→nxt l c=-1
 | [],_,_,_,_,_,_,_=>rfl
 | x::l,p,y,h,hl,_,c,hc=>by
  have h1:nxt l c=-1:=zuo h.2.2.2 hl (fun _ _=>.inr (.inr trivial)) c hc
  have h2:x.2.1≤y.2.1:=by
   have key:∀ (l:List Arc) (x y:Arc),okA (some x) l→z9a (some x) l=some y→x.2.1≤y.2.1:=fun l=>by
    induction l with
    | nil=>intro x y _ h;rw[z9a] at h;cases h;exact Int.le_refl _
    | cons z l ih =>
     intro x y h hl
     have:=ih z y h.2.2.2 hl
     have:=(h.2.2.1 x rfl).1
     have:=h.1
     omega
   exact key l x y h.2.2.2 hl
  rw[nxt,zAy (by omega)];exact h1
def ext (l:List Arc) (f t q:Int):List Arc:=match l.getLast? with
 | some y=>if y.2.1+1=f∧y.2.2=q then l.dropLast++[(y.1,t,q)] else l++[(f,t,q)]
 | none=>[(f,t,q)]
theorem ext_nil (f t q:Int):ext [] f t q=[(f,t,q)]:=rfl
theorem z9b (l:List Arc) (y:Arc) (f t q:Int):ext (l++[y]) f t q=if y.2.1+1=f∧y.2.2=q then l++[(y.1,t,q)] else l++[y]++[(f,t,q)]:=by
 rw[ext,List.getLast?_append]
 simp
theorem y5v {α:Type} (l:List α):l=[]∨∃ m x,l=m++[x]:=by
 rcases List.eq_nil_or_concat l with h|⟨m,x,h⟩
 · exact .inl h
 · exact .inr ⟨m,x,by rw[h,List.concat_eq_append]⟩
theorem y9k {l:List Arc} {f t q:Int} (h:okA none l) (hft:f≤t) (hq:0≤q) (hl:∀ y,z9a none l=some y→y.2.1<f):okA none (ext l f t q)∧z9a none (ext l f t q)≠none∧(∀ y,z9a none (ext l f t q)=some y→y.2.1=t) ∧
 ∀ c,nxt (ext l f t q) c=if f≤c∧c≤t then q else nxt l c:=by
 rcases y5v l with rfl|⟨m,y,rfl⟩
 · rw[ext_nil]
   refine⟨⟨hft,hq,(fun y hy=>by cases hy),trivial⟩,by simp[z9a],fun y hy=>?_,fun c=>?_⟩
   · simp only[z9a,zAh] at hy;rw[← hy]
   · simp only[nxt]
 · have hy:=hl y (z36 _ _ _)
   obtain⟨h1,h2,h3,h4⟩:=zlp h
   rw[z9b]
   have hm:∀ c,y.1≤c→nxt m c=-1:=fun c hc=>by
    rcases y5v m with rfl|⟨m',z,rfl⟩
    · rfl
    · have:=(h4 z (z36 _ _ _)).1
      exact zuo h1 (z36 _ _ _) (fun _ _=>.inr (.inr trivial)) c (by omega)
   by_cases hj:y.2.1+1=f∧y.2.2=q
   · rw[zAz hj]
     refine⟨zgf h1 (by simp only;omega) (by simp only;omega) (fun z hz=>?_),by rw[z36];simp,fun z hz=>?_,fun c=>?_⟩
     · have:=h4 z hz
       simp only
       exact⟨this.1,fun g=>this.2 ⟨g.1,by rw[g.2,hj.2]⟩⟩
     · rw[z36] at hz;cases hz;rfl
     · rw[zg0 h1,zg0 h1]
       simp only[nxt]
       by_cases hc:f≤c∧c≤t
       · rw[zAz hc,zAz (hm c (by omega)),zAz (by omega)]
       · rw[zAy hc]
         by_cases hmc:nxt m c=-1
         · rw[zAz hmc,zAz hmc]
           by_cases hc2:y.1≤c∧c≤y.2.1
           · rw[zAz hc2,zAz (by omega),hj.2]
           · rw[zAy hc2,zAy (by omega)]
         · rw[zAy hmc,zAy hmc]
   · rw[zAy hj]
     refine⟨zgf h (by simpa using hft) (by simpa using hq) (fun z hz=>?_),by rw[z36];simp,fun z hz=>?_,fun c=>?_⟩
     · rw[z36] at hz
       cases hz
       exact⟨hy,hj⟩
     · rw[z36] at hz;cases hz;rfl
     · rw[zg0 h]
       simp only[nxt]
       by_cases hc:f≤c∧c≤t
       · have:nxt (m++[y]) c=-1:=zuo h (z36 _ _ _) (fun _ _=>.inr (.inr trivial)) c (by omega)
         rw[zAz hc,zAz this,zAz hc]
       · rw[zAy hc,zAy hc]
         split
         · rename_i h5;rw[h5]
         · rfl
abbrev Edge (K:Type):=Int × Int × K
def kx {K:Type}:List (Edge K)→Int→Option K
 | [],_=>none
 | e::l,c=>if e.1≤c∧c≤e.2.1 then some e.2.2 else kx l c
def okE {K:Type}:Int→List (Edge K)→Prop
 | _,[]=>True
 | a,e::l=>a≤e.1∧e.1≤e.2.1∧e.2.1≤1114111∧okE (e.2.1+1) l
theorem zr2 {K:Type}:∀ {l:List (Edge K)} {a:Int},okE a l→∀ c,c<a→kx l c=none
 | [],_,_,_,_=>rfl
 | e::l,a,h,c,hc=>by
  rw[kx,zAy (by have:=h.1;omega)]
  exact zr2 h.2.2.2 c (by have:=h.1;have:=h.2.1;omega)
section
variable {K:Type} [DecidableEq K]
def z5u (k:K):List K→Nat
 | []=>0
 | x::l=>if x=k then 0 else z5u k l+1
theorem zbz {k:K}:∀ {l:List K},k∈l→z5u k l<l.length∧l[z5u k l]? =some k
 | [],h=>by simp at h
 | x::l,h=>by
  rw[z5u]
  by_cases hx:x=k
  · rw[zAz hx];exact⟨by simp,by simp[hx]⟩
  · rw[zAy hx]
    rw[zAc] at h
    have:=zbz (h.resolve_left fun g=>hx g.symm)
    exact⟨by rw[zAk];omega,by rw[List.getElem?_cons_succ];exact this.2⟩
theorem z7t {k:K}:∀ {l:List K},k∉l→z5u k l=l.length
 | [],_=>rfl
 | x::l,h=>by
  rw[zAc,not_or] at h
  rw[z5u,zAy (fun g=>h.1 g.symm),z7t h.2];rfl
theorem zc3 {k:K}:∀ {l m:List K},k∈l→z5u k (l++m)=z5u k l
 | [],m,h=>by simp at h
 | x::l,m,h=>by
  rw[List.cons_append,z5u,z5u]
  by_cases hx:x=k
  · rw[zAz hx,zAz hx]
  · rw[zAy hx,zAy hx,zc3 ((zAc.1 h).resolve_left fun g=>hx g.symm)]
def za3 (ks:List K) (k:K):List K:=if k∈ks then ks else ks++[k]
theorem z9g (ks:List K) (k:K):k∈za3 ks k:=by rw[za3];split <;> simp[*]
theorem zh6 (ks:List K) (k:K):z5u k (za3 ks k)=z5u k ks:=by
 rw[za3];split
 · rfl
 · rename_i h
   rw[z7t h]
   have key:∀ l:List K,k∉l→z5u k (l++[k])=l.length:=fun l=>by
    induction l with
    | nil=>intro _;simp[z5u]
    | cons x l ih =>
     intro h
     rw[zAc,not_or] at h
     rw[List.cons_append,z5u,zAy (fun g=>h.1 g.symm),ih h.2];rfl
   exact key ks h
theorem zc6 (ks:List K) (k:K):∃ r,za3 ks k=ks++r:=by
 rw[za3];split
 · exact⟨[],by simp⟩
 · exact⟨[k],rfl⟩
theorem zat {ks:List K} {k:K} (h:ks.Nodup):(za3 ks k).Nodup:=by
 rw[za3];split
 · exact h
 · rename_i hk
   rw[List.nodup_append]
   exact⟨h,by simp,fun a ha b hb=>by rw[zAq] at hb;subst hb;exact fun g=>hk (g▸ha)⟩
def zbn (s:List K × List Arc) (e:Edge K):List K × List Arc:=(za3 s.1 e.2.2,ext s.2 e.1 e.2.1 (z5u e.2.2 s.1:Nat))
def exL (fin:K→Bool) (edg:K→List (Edge K)) (lim:Nat):Nat→Nat→List K→Au→Option Au
 | 0,_,_,_=>none
 | n+1,i,ks,a=>match ks[i]? with
  | none=>some a
  | some k=>if lim<((edg k).foldl zbn (ks,[])).1.length then none else exL fin edg lim n (i+1) ((edg k).foldl zbn (ks,[])).1 ⟨a.F++[fin k],a.A++[((edg k).foldl zbn (ks,[])).2]⟩
end
section
variable {K:Type} [DecidableEq K]
structure Fold (es:List (Edge K)) (a:Int) (ks:List K) (l:List Arc) (r:List K × List Arc):Prop where
 pre:∃ e,r.1=ks++e
 nod:ks.Nodup→r.1.Nodup
 ok:okA none r.2
 nx:∀ c,nxt r.2 c=match kx es c with|some k=>((z5u k r.1:Nat):Int)|none=>nxt l c
 mem:∀ c k,kx es c=some k→k∈r.1
 bfs:∀ j k,ks.length≤j→r.1[j]? =some k→∃ c,a≤c∧kx es c=some k∧∀ c' k',c'<c→kx es c'=some k'→z5u k' r.1<j
theorem zrz:∀ (es:List (Edge K)) (a:Int) (ks:List K) (l:List Arc),okE a es→okA none l→(∀ y,z9a none l=some y→y.2.1<a)→Fold es a ks l (es.foldl zbn (ks,l))
 | [],a,ks,l,_,h2,_=>⟨⟨[],by simp⟩,fun h=>h,h2,fun c=>rfl,fun c k h=>by simp[kx] at h,fun j k h1 h2=>by
     rw[List.foldl_nil] at h2
     have:=(zA1.1 h2).1
     simp only at this;omega⟩
 | e::es,a,ks,l,h1,h2,h3=>by
  have hx:=y9k (q:=(z5u e.2.2 ks:Nat)) h2 h1.2.1 (by omega) (fun y hy=>by have:=h3 y hy;have:=h1.1;omega)
  obtain⟨x1,x2,x3,x4⟩:=hx
  have ih:=zrz es (e.2.1+1) (za3 ks e.2.2) (ext l e.1 e.2.1 (z5u e.2.2 ks:Nat)) h1.2.2.2 x1 (fun y hy=>by rw[x3 y hy];omega)
  rw[List.foldl_cons]
  change Fold (e::es) a ks l (es.foldl zbn (za3 ks e.2.2,ext l e.1 e.2.1 (z5u e.2.2 ks:Nat)))
  obtain⟨g1,g2,g3,g4,g5,g6⟩:=ih
  generalize es.foldl zbn (za3 ks e.2.2,ext l e.1 e.2.1 (z5u e.2.2 ks:Nat))=r at *
  obtain⟨q1,hq1⟩:=g1
  obtain⟨q2,hq2⟩:=zc6 ks e.2.2
  have hix:z5u e.2.2 r.1=z5u e.2.2 ks:=by rw[hq1,zc3 (z9g ks e.2.2),zh6]
  have hem:e.2.2∈r.1:=by rw[hq1];exact List.mem_append_left _ (z9g _ _)
  refine⟨⟨q2++q1,by rw[hq1,hq2,zAl]⟩,fun h=>g2 (zat h),g3,fun c=>?_,fun c k h=>?_,fun j k hj hk=>?_⟩
  · rw[g4 c,kx]
    by_cases hc:e.1≤c∧c≤e.2.1
    · rw[zAz hc,zr2 h1.2.2.2 c (by omega)]
      simp only
      rw[x4 c,zAz hc,hix]
    · rw[zAy hc]
      cases kx es c with
      | some k=>rfl
      | none=>simp only;rw[x4 c,zAy hc]
  · rw[kx] at h
    split at h
    · simp only[zAh] at h;rw[← h];exact hem
    · exact g5 c k h
  · by_cases hj2:(za3 ks e.2.2).length≤j
    · obtain⟨c,c1,c2,c3⟩:=g6 j k hj2 hk
      refine⟨c,by have:=h1.1;have:=h1.2.1;omega,by rw[kx,zAy (by omega)];exact c2,fun c' k' hc' hk'=>?_⟩
      rw[kx] at hk'
      split at hk'
      · simp only[zAh] at hk'
        subst hk'
        have:=(zbz (z9g ks e.2.2)).1
        rw[zh6] at this
        rw[hix];omega
      · exact c3 c' k' hc' hk'
    · -- the new key of this edge
      have hnew:e.2.2∉ks:=fun g=>hj2 (by rw[za3,zAz g];exact hj)
      have hadd:za3 ks e.2.2=ks++[e.2.2]:=by rw[za3,zAy hnew]
      rw[hadd,zAa,zAn] at hj2
      obtain rfl:j=ks.length:=by omega
      have hke:k=e.2.2:=by
       rw[hq1,hadd,zAl,zAg (zAj _),Nat.sub_self] at hk
       simpa using hk.symm
      refine⟨e.1,h1.1,by rw[kx,zAz ⟨Int.le_refl _,h1.2.1⟩,hke],fun c' k' hc' hk'=>?_⟩
      rw[kx,zAy (by omega),zr2 h1.2.2.2 c' (by have:=h1.2.1;omega)] at hk'
      cases hk'
structure Ex (fin:K→Bool) (edg:K→List (Edge K)) (first:K) (i:Nat) (ks:List K) (a:Au):Prop where
 le:i≤ks.length
 fl:a.F.length=i
 al:a.A.length=i
 hd:ks[0]? =some first
 nod:ks.Nodup
 fin_:∀ q k,q<i→ks[q]? =some k→a.F[q]? =some (fin k)
 arc:∀ q k,q<i→ks[q]? =some k→∃ l,a.A[q]? =some l∧okA none l∧(∀ c,nxt l c=match kx (edg k) c with|some k'=>((z5u k' ks:Nat):Int)|none=> -1)∧∀ c k',kx (edg k) c=some k'→k'∈ks
 bfs:∀ j:Nat,1≤j→j<ks.length→∃ q k c,q<i∧q<j∧ks[q]? =some k∧(∃ k',kx (edg k) c=some k'∧ks[j]? =some k') ∧
  ∀ q' k0 c' k',(q'<q∨q'=q∧c'<c)→ks[q']? =some k0→kx (edg k0) c'=some k'→z5u k' ks<j
theorem zqr {fin:K→Bool} {edg:K→List (Edge K)} {first:K} {i:Nat} {ks:List K} {a:Au} (h:Ex fin edg first i ks a) {k:K} (hk:ks[i]? =some k) (he:okE 0 (edg k)) :
 Ex fin edg first (i+1) ((edg k).foldl zbn (ks,[])).1 ⟨a.F++[fin k],a.A++[((edg k).foldl zbn (ks,[])).2]⟩:=by
 have hf:=zrz (edg k) 0 ks [] he trivial (fun y hy=>by cases hy)
 generalize (edg k).foldl zbn (ks,[])=r at *
 obtain⟨⟨e,hp⟩,g2,g3,g4,g5,g6⟩:=hf
 obtain⟨hi,_⟩:=zA1.1 hk
 have hget:∀ {q:Nat} {x:K},q<ks.length→r.1[q]? =some x→ks[q]? =some x:=fun {q x} hq hx=>by
  rw[hp,zAb hq] at hx;exact hx
 have hget2:∀ {q:Nat} {x:K},ks[q]? =some x→r.1[q]? =some x:=fun {q x} hx=>by
  rw[hp,zAb (zA1.1 hx).1];exact hx
 have hix:∀ {x:K},x∈ks→z5u x r.1=z5u x ks:=fun {x} hx=>by rw[hp,zc3 hx]
 have hmem:∀ {x:K},x∈ks→x∈r.1:=fun {x} hx=>by rw[hp];exact List.mem_append_left _ hx
 have hkr:=hget2 hk
 refine⟨?_,by simp[h.fl],by simp[h.al],hget2 h.hd,g2 h.nod,fun q x hq hx=>?_,fun q x hq hx=>?_,fun j hj1 hj2=>?_⟩
 · rw[hp,zAa];omega
 · by_cases hqi:q<i
   · have:=h.fin_ q x hqi (hget (by omega) hx)
     simp only
     rw[zAb (by rw[h.fl];omega)];exact this
   · obtain rfl:q=i:=by omega
     rw[hkr] at hx;cases hx
     simp only
     rw[zAg (by rw[h.fl];omega),h.fl,Nat.sub_self];rfl
 · by_cases hqi:q<i
   · obtain⟨l,l1,l2,l3,l4⟩:=h.arc q x hqi (hget (by omega) hx)
     refine⟨l,?_,l2,fun c=>?_,fun c k' hk'=>hmem (l4 c k' hk')⟩
     · simp only
       rw[zAb (by rw[h.al];omega)];exact l1
     · rw[l3 c]
       cases hc:kx (edg x) c with
       | none=>rfl
       | some k'=>simp only;rw[hix (l4 c k' hc)]
   · obtain rfl:q=i:=by omega
     rw[hkr] at hx;cases hx
     refine⟨r.2,?_,g3,fun c=>?_,fun c k' hk'=>g5 c k' hk'⟩
     · simp only
       rw[zAg (by rw[h.al];omega),h.al,Nat.sub_self];rfl
     · rw[g4 c];rfl
 · by_cases hjk:j<ks.length
   · obtain⟨q,x,c,q1,q2,q3,⟨k',k1,k2⟩,q4⟩:=h.bfs j hj1 hjk
     refine⟨q,x,c,by omega,q2,hget2 q3,⟨k',k1,hget2 k2⟩,fun q' k0 c' k2' hb h0 h1=>?_⟩
     have hq':q'<ks.length:=by have:=(zA1.1 q3).1;omega
     have h0':=hget hq' h0
     have hm:k2'∈ks:=by
      obtain⟨l,_,_,_,l4⟩:=h.arc q' k0 (by omega) h0'
      exact l4 c' k2' h1
     rw[hix hm]
     exact q4 q' k0 c' k2' hb h0' h1
   · obtain⟨k',hk'⟩:∃ k',r.1[j]? =some k':=⟨_,zA0 hj2⟩
     obtain⟨c,c1,c2,c3⟩:=g6 j k' (by omega) hk'
     refine⟨i,k,c,by omega,by omega,hkr,⟨k',c2,hk'⟩,fun q' k0 c' k2' hb h0 h1=>?_⟩
     rcases hb with hb|⟨rfl,hb⟩
     · have h0':=hget (by omega) h0
       obtain⟨l,_,_,_,l4⟩:=h.arc q' k0 hb h0'
       have hm:=l4 c' k2' h1
       rw[hix hm]
       have:=(zbz hm).1
       omega
     · rw[hkr] at h0;cases h0
       exact c3 c' k2' hb h1
theorem y0o {fin:K→Bool} {edg:K→List (Edge K)} {first:K} {lim:Nat} (he:∀ k,okE 0 (edg k)):∀ (n i:Nat) (ks:List K) (a b:Au),Ex fin edg first i ks a→exL fin edg lim n i ks a=some b→∃ ks',Ex fin edg first ks'.length ks' b
 | 0,i,ks,a,b,_,h=>by rw[exL] at h;cases h
 | n+1,i,ks,a,b,hx,h=>by
  rw[exL] at h
  split at h
  · rename_i hn
    simp only[zAh] at h
    subst h
    have:ks.length≤i:=by simpa using hn
    have:=hx.le
    obtain rfl:i=ks.length:=by omega
    exact⟨ks,hx⟩
  · rename_i k hk
    split at h
    · cases h
    · exact y0o he n _ _ _ b (zqr hx hk (he k)) h
end
def y65 (n:Int) (x:Arc):Bool:=decide (x.1<0)||decide (x.1>x.2.1)||decide (x.2.1>1114111)||decide (x.2.2<0)||decide (x.2.2≥n)
def y5p (p x:Arc):Bool:=decide (x.1≤p.2.1)||(decide (x.1=p.2.1+1)&&decide (x.2.2=p.2.2))
def zpe (n:Int):Option Arc→List Arc→Int
 | _,[]=>0
 | p,x::l=>if y65 n x=true then 8 else match p with
  | some y=>if y5p y x=true then 6 else zpe n (some x) l
  | none=>zpe n (some x) l
theorem zia (n:Int) (p:Option Arc) (x:Arc) (l:List Arc):zpe n p (x::l)=if y65 n x=true then 8 else match p with
 | some y=>if y5p y x=true then 6 else zpe n (some x) l
 | none=>zpe n (some x) l:=by cases p <;> rfl
def zhw (n:Int):List (List Arc)→Int
 | []=>0
 | l::A=>if zpe n none l≠0 then zpe n none l else zhw n A
def vAu (a:Au):Int:=if 256<a.F.length then 2 else if a.F.length=0∨a.A.length≠a.F.length then 15 else zhw a.F.length a.A
theorem zgu:∀ {n:Int} {l:List Arc} {p:Option Arc},zpe n p l=0→okA p l∧∀ x∈l,0≤x.1∧x.1≤x.2.1∧x.2.1≤1114111∧0≤x.2.2∧x.2.2<n
 | n,[],p,_=>⟨trivial,by simp⟩
 | n,x::l,p,h=>by
  rw[zia] at h
  split at h
  · cases h
  rename_i hb
  simp only[y65,zAu,zA3,not_or] at hb
  have hx:0≤x.1∧x.1≤x.2.1∧x.2.1≤1114111∧0≤x.2.2∧x.2.2<n:=by omega
  have fin:zpe n (some x) l=0→∀ y∈x::l,0≤y.1∧y.1≤y.2.1∧y.2.1≤1114111∧0≤y.2.2∧y.2.2<n:=fun h y hy=>by
   rw[zAc] at hy
   rcases hy with rfl|hy
   · exact hx
   · exact(zgu h).2 y hy
  cases p with
  | none =>
   simp only at h
   exact⟨⟨hx.2.1,hx.2.2.2.1,(fun y hy=>by cases hy),(zgu h).1⟩,fin h⟩
  | some y =>
   simp only at h
   split at h
   · cases h
   · rename_i ho
     simp only[y5p,zAu,zA7,zA3,not_or,not_and] at ho
     refine⟨⟨hx.2.1,hx.2.2.2.1,fun z hz=>?_,(zgu h).1⟩,fin h⟩
     cases hz
     refine⟨by omega,fun g=>?_⟩
     exact ho.2 (by omega) g.2.symm
theorem zlw:∀ {n:Int} {A:List (List Arc)},zhw n A=0→∀ l∈A,zpe n none l=0
 | n,[],_,l,hl=>by simp at hl
 | n,m::A,h,l,hl=>by
  rw[zhw] at h
  split at h
  · rename_i h1;exact absurd h h1
  · rename_i h1
    rw[zAc] at hl
    rcases hl with rfl|hl
    · exact Classical.not_not.1 h1
    · exact zlw h l hl
structure ydg (a:Au):Prop where
 few:a.F.length≤256
 pos:0<a.F.length
 len:a.A.length=a.F.length
 arc:∀ l∈a.A,okA none l∧∀ x∈l,0≤x.1∧x.1≤x.2.1∧x.2.1≤1114111∧0≤x.2.2∧x.2.2<a.F.length
theorem zue {a:Au} (h:vAu a=0):ydg a:=by
 rw[vAu] at h
 split at h
 · cases h
 split at h
 · cases h
 · exact⟨by omega,by omega,by omega,fun l hl=>zgu (zlw h l hl)⟩
def clA (cl:List Int) (q:Int):Int:=if q<0 then -1 else cl.getD q.toNat 0
def ybv (cl:List Int) (out:List Arc) (x:Arc):List Arc:=if clA cl x.2.2<0 then out else ext out x.1 x.2.1 (clA cl x.2.2)
def byC (cl:List Int) (l:List Arc):List Arc:=l.foldl (ybv cl) []
theorem y45 (l:List Arc) (f t q:Int):(ext l f t q).length≤l.length+1:=by
 rcases y5v l with rfl|⟨m,y,rfl⟩
 · simp[ext_nil]
 · rw[z9b];split <;> simp
theorem ext_mem {l:List Arc} {f t q:Int} {y:Arc} (h:y∈ext l f t q):y.2.1=t∨y∈l:=by
 rcases y5v l with rfl|⟨m,z,rfl⟩
 · rw[ext_nil,zAq] at h;exact .inl (by rw[h])
 · rw[z9b] at h
   split at h
   · rw[zAt,zAq] at h
     rcases h with h|h
     · exact .inr (List.mem_append_left _ h)
     · exact .inl (by rw[h])
   · rw[zAt,zAq] at h
     rcases h with h|h
     · exact .inr h
     · exact .inl (by rw[h])
end Go.Ax
namespace Go.Ax
inductive z5m (F:List Bool) (A:List (List Arc)):Nat→Prop
 | fin (q:Nat) (h:F[q]? =some true):z5m F A q
 | arc (q:Nat) (l:List Arc) (x:Arc) (h:A[q]? =some l) (hx:x∈l) (h2:z5m F A x.2.2.toNat):z5m F A q
end Go.Ax
namespace Go.Ax
theorem count_set {l:List Bool} {i:Nat} (h:l[i]? =some false):(l.set i true).count false+1=l.count false:=by
 induction l generalizing i with
 | nil=>simp at h
 | cons x l ih =>
  cases i with
  | zero=>simp at h;subst h;simp
  | succ i =>
   have:=ih (i:=i) (by simpa using h)
   simp only[List.set_cons_succ,List.count_cons];omega
structure Reach (F:List Bool) (A:List (List Arc)) (X:List (List Int)) (out:List Bool) (stk:List Int) (skip:Nat→Prop):Prop where
 len:out.length=F.length
 onS:∀ z∈stk,∃ s:Nat,z=(s:Int)∧out[s]? =some true
 sound:∀ s:Nat,out[s]? =some true→z5m F A s
 fin:∀ s:Nat,F[s]? =some true→out[s]? =some true
 clos:∀ s:Nat,out[s]? =some true→(s:Int)∈stk∨skip s∨∀ p∈X.getD s [],out[p.toNat]? =some true
 few:stk.length+out.count false≤F.length
theorem Reach.done {F:List Bool} {A:List (List Arc)} {X:List (List Int)} {out:List Bool} (h:Reach F A X out [] fun _=>False)
 (hX:∀ (s:Nat) (p:Int),p∈X.getD s []↔∃ (k:Nat) (l:List Arc) (x:Arc),A[k]? =some l∧x∈l∧x.2.2.toNat=s∧p=k) (q:Nat):out[q]? =some true↔z5m F A q:=by
 refine⟨h.sound q,fun hq=>?_⟩
 induction hq with
 | fin q h1=>exact h.fin q h1
 | arc q l x h1 h2 h3 ih =>
  rcases h.clos _ ih with h4|h4|h4
  · simp at h4
  · exact h4.elim
  · have:=h4 (q:Int) ((hX _ _).2 ⟨q,l,x,h1,h2,rfl,rfl⟩)
    rwa [zA9] at this
theorem Reach.push {F:List Bool} {A:List (List Arc)} {X:List (List Int)} {out:List Bool} {stk:List Int} {skip:Nat→Prop} (h:Reach F A X out stk skip) {p:Nat} (hp:out[p]? =some false) (hl:z5m F A p):Reach F A X (out.set p true) (stk++[(p:Int)]) skip:=by
 have hpl:=(zA1.1 hp).1
 have hc:=count_set hp
 have up:∀ s:Nat,out[s]? =some true→(out.set p true)[s]? =some true:=fun s hs=>by
  by_cases e:p=s
  · subst e;exact zAp hpl
  · rw[List.getElem?_set_ne e];exact hs
 have down:∀ s:Nat,(out.set p true)[s]? =some true→s=p∨out[s]? =some true:=fun s hs=>by
  by_cases e:p=s
  · exact .inl e.symm
  · rw[List.getElem?_set_ne e] at hs;exact .inr hs
 refine⟨by rw[List.length_set];exact h.len,fun z hz=>?_,fun s hs=>?_,fun s hs=>up s (h.fin s hs),fun s hs=>?_,?_⟩
 · rw[zAt,zAq] at hz
   rcases hz with hz|rfl
   · obtain⟨s,h1,h2⟩:=h.onS z hz;exact⟨s,h1,up s h2⟩
   · exact⟨p,rfl,zAp hpl⟩
 · rcases down s hs with rfl|hs
   · exact hl
   · exact h.sound s hs
 · rcases down s hs with rfl|hs
   · exact .inl (by simp)
   · rcases h.clos s hs with h1|h1|h1
     · exact .inl (by simp[h1])
     · exact .inr (.inl h1)
     · exact .inr (.inr fun q hq=>up _ (h1 q hq))
 · rw[zAa,zAn]
   have:=h.few;omega
noncomputable def z6a (F:List Bool) (A:List (List Arc)):List Bool:=(List.range F.length).map fun q=>@decide (z5m F A q) (Classical.propDecidable _)
theorem zva {F:List Bool} {A:List (List Arc)} {out:List Bool} (hl:out.length=F.length) (h:∀ q:Nat,out[q]? =some true↔z5m F A q):out=z6a F A:=by
 refine List.ext_getElem (by simp[z6a,hl]) fun i h1 h2=>?_
 simp only[z6a,List.getElem_map,List.getElem_range]
 have:=h i
 rw[zA0 h1] at this
 by_cases hq:z5m F A i
 · simp only[hq,iff_true,zAh] at this
   rw[this];simp[hq]
 · simp only[hq,iff_false,zAh] at this
   cases ho:out[i] with
   | true=>exact absurd ho this
   | false=>simp[hq]
end Go.Ax
namespace Go.Ax
def toB (xs:List Int):ByteArray:=⟨(xs.map fun n=>UInt8.ofNat n.toNat).toArray⟩
def ya6 (n:Int):List Int:=[n / 16777216 % 256,n / 65536 % 256,n / 256 % 256,n % 256]
def ydj (cl:List Int) (k:Int) (l:List Arc):List Int:=ya6 k++(byC cl l).flatMap fun x=>ya6 x.1++ya6 x.2.1++ya6 x.2.2
def sgA (A:List (List Arc)) (cl:List Int) (q:Nat):ByteArray:=toB (ydj cl (cl.getD q 0) (A.getD q []))
def y0h (A:List (List Arc)) (cl:List Int) (s:List ByteArray × List Int) (q:Nat):List ByteArray × List Int :=
 if cl.getD q 0<0 then (s.1,s.2++[-1]) else (za3 s.1 (sgA A cl q),s.2++[((z5u (sgA A cl q) s.1:Nat):Int)])
structure RnS (A:List (List Arc)) (cl:List Int) (q:Nat) (s:List ByteArray × List Int):Prop where
 len:s.2.length=q
 nod:s.1.Nodup
 few:s.1.length≤q
 at_:∀ p,p<q→(cl.getD p 0<0→s.2[p]? =some (-1))∧(0≤cl.getD p 0→sgA A cl p∈s.1∧s.2[p]? =some ((z5u (sgA A cl p) s.1:Nat):Int))
 src:∀ g∈s.1,∃ p,p<q∧0≤cl.getD p 0∧sgA A cl p=g
theorem RnS.step {A:List (List Arc)} {cl:List Int} {q:Nat} {s:List ByteArray × List Int} (h:RnS A cl q s):RnS A cl (q+1) (y0h A cl s q):=by
 rw[y0h]
 by_cases hn:cl.getD q 0<0
 · rw[zAz hn]
   refine⟨by simp[h.len],h.nod,by have:=h.few;simp only;omega,fun p hp=>?_,fun g hg=>?_⟩
   · by_cases hpq:p<q
     · obtain⟨h1,h2⟩:=h.at_ p hpq
       rw[zAb (by rw[h.len];exact hpq)]
       exact⟨h1,h2⟩
     · obtain rfl:p=q:=by omega
       refine⟨fun _=>?_,fun g=>by omega⟩
       simp only
       rw[zAg (by rw[h.len];omega),h.len,Nat.sub_self];rfl
   · obtain⟨p,p1,p2⟩:=h.src g hg;exact⟨p,by omega,p2⟩
 · rw[zAy hn]
   obtain⟨r,hr⟩:=zc6 s.1 (sgA A cl q)
   refine⟨by simp[h.len],zat h.nod,?_,fun p hp=>?_,fun g hg=>?_⟩
   · have:=h.few;simp only[za3];split <;> simp <;> omega
   · by_cases hpq:p<q
     · obtain⟨h1,h2⟩:=h.at_ p hpq
       rw[zAb (by rw[h.len];exact hpq)]
       refine⟨h1,fun g=>?_⟩
       obtain⟨h3,h4⟩:=h2 g
       simp only
       rw[hr]
       exact⟨List.mem_append_left _ h3,by rw[zc3 h3];exact h4⟩
     · obtain rfl:p=q:=by omega
       refine⟨fun g=>absurd g hn,fun _=>⟨z9g _ _,?_⟩⟩
       simp only
       rw[zAg (by rw[h.len];omega),h.len,Nat.sub_self,zh6];rfl
   · simp only[za3] at hg
     split at hg
     · obtain⟨p,p1,p2⟩:=h.src g hg;exact⟨p,by omega,p2⟩
     · rw[zAt,zAq] at hg
       rcases hg with hg|rfl
       · obtain⟨p,p1,p2⟩:=h.src g hg;exact⟨p,by omega,p2⟩
       · exact⟨q,by omega,by omega,rfl⟩
theorem zdp {l:List Int} {i:Nat} {x:Int} (h:l[i]? =some x):l.getD i 0=x:=by rw[List.getD,h];rfl
theorem zbw {α:Type} [DecidableEq α]:∀ {l m:List α},l.Nodup→(∀ x∈l,x∈m)→l.length≤m.length
 | [],m,_,_=>zAf _
 | x::l,m,h,hs=>by
  have h1:=List.nodup_cons.1 h
  have hx:=hs x (by simp)
  have:=zbw (l:=l) (m:=m.erase x) h1.2 fun y hy=>by
   rw[List.mem_erase_of_ne (fun e:y=x=>h1.1 (by rw[← e];exact hy))]
   exact hs y (by simp[hy])
  have h3:=List.length_erase_of_mem hx
  have h4:=List.length_pos_of_mem hx
  rw[zAk];omega
end Go.Ax
namespace Go.Ax
theorem zwn {cl:List Int} (h:∀ x∈cl,-1≤x∧x≤4000000) (q:Nat):-1≤cl.getD q 0∧cl.getD q 0≤4000000:=by
 cases hq:cl[q]? with
 | none=>rw[List.getD,hq];simp
 | some x=>rw[zdp hq];exact h x (zA2 hq)
end Go.Ax
namespace Go.Ax
theorem y0v:∀ {l:List Arc} {y:Arc},okA (some y) l→∀ e∈l,y.2.1<e.1
 | [],_,_,e,he=>by simp at he
 | x::l,y,h,e,he=>by
  have h1:=(h.2.2.1 y rfl).1
  rw[zAc] at he
  rcases he with rfl|he
  · exact h1
  · have:=y0v h.2.2.2 e he
    have:=h.1;omega
theorem zu4 {c:Int}:∀ {l:List Arc},nxt l c≠-1→∃ y∈l,y.2.2=nxt l c
 | [],h=>absurd rfl h
 | x::l,h=>by
  rw[nxt] at h ⊢
  split
  · exact⟨x,by simp,rfl⟩
  · rename_i hc
    rw[zAy hc] at h
    obtain⟨y,hy,e⟩:=zu4 h
    exact⟨y,by simp[hy],e⟩
end Go.Ax
namespace Go.Ax
theorem zuh {l:List Int} {B:Nat} (h:l.Pairwise (· <·)) (hr:∀ z∈l,0≤z∧z≤B):l.length≤B+1:=by
 have h1:l.Nodup:=h.imp fun {a b} hab e=>by omega
 have:=zbw (m:=(List.range (B+1)).map fun k:Nat=>(k:Int)) h1 fun x hx=>by
  have:=hr x hx
  rw[List.mem_map]
  exact⟨x.toNat,by rw[List.mem_range];omega,by omega⟩
 simpa using this
end Go.Ax
namespace Go.Ax
def srt (l:List Int):List Int:=l.mergeSort fun x y=>decide (x≤y)
theorem z81 (l:List Int):(srt l).Perm l:=List.mergeSort_perm l _
theorem zah (l:List Int):(srt l).Pairwise (· ≤·):=by
 have:=List.pairwise_mergeSort (le:=fun x y:Int=>decide (x≤y)) (fun a b c h1 h2=>by simp only[zA3] at *;omega) (fun a b=>by simp only[zAu,zA3];omega) l
 exact this.imp fun h=>by simpa using h
theorem y1b {l m:List Int} (h:l.Perm m) (hm:m.Pairwise (· ≤·)):srt l=m :=
 List.Perm.eq_of_pairwise (fun a b _ _ h1 h2=>Int.le_antisymm h1 h2) (zah l) hm ((z81 l).trans h)
theorem zti (l:List Int):(srt l).length=l.length:=(z81 l).length_eq
theorem y8g {A B:List Int} {x:Int} (h:(A++B).Pairwise (· ≤·)) (h1:∀ y∈A,y≤x) (h2:∀ y∈B,x≤y):(A++x::B).Pairwise (· ≤·):=by
 rw[List.pairwise_append] at h ⊢
 refine⟨h.1,List.pairwise_cons.2 ⟨h2,h.2.1⟩,fun a ha b hb=>?_⟩
 rw[zAc] at hb
 rcases hb with rfl|hb
 · exact h1 a ha
 · exact h.2.2 a ha b hb
theorem zvw {A:List Int} {y:Int} (h:(A++[y]).Pairwise (· ≤·)):∀ z∈A++[y],z≤y:=fun z hz=>by
 rw[List.pairwise_append] at h
 rw[zAt,zAq] at hz
 rcases hz with hz|rfl
 · exact h.2.2 z hz y (by simp)
 · exact Int.le_refl _
end Go.Ax
namespace Go.Ax
def cq:Int→List Int→List Int
 | _,[]=>[]
 | x,y::l=>if x=y then cq y l else y::cq y l
def cpt:List Int→List Int
 | []=>[]
 | x::l=>x::cq x l
theorem y08:∀ (l:List Int) (x:Int),(x::l).Pairwise (· ≤·)→(x::cq x l).Pairwise (· <·)∧∀ z,z∈x::cq x l↔z∈x::l
 | [],x,_=>by simp[cq]
 | y::l,x,h=>by
  have h1:=List.pairwise_cons.1 h
  have hxy:=h1.1 y (by simp)
  obtain⟨i1,i2⟩:=y08 l y h1.2
  rw[cq]
  split
  · rename_i e
    subst e
    exact⟨i1,fun z=>by rw[i2 z];simp⟩
  · rename_i e
    refine⟨List.pairwise_cons.2 ⟨fun z hz=>?_,i1⟩,fun z=>?_⟩
    · have hyz:y≤z:=by
       have:=(i2 z).1 hz
       rw[zAc] at this
       rcases this with rfl|this
       · exact Int.le_refl _
       · exact(List.pairwise_cons.1 h1.2).1 z this
      omega
    · rw[zAc,i2 z];simp only[zAc]
theorem zfk {l:List Int} (h:l.Pairwise (· ≤·)):(cpt l).Pairwise (· <·)∧∀ z,z∈cpt l↔z∈l:=by
 cases l with
 | nil=>simp[cpt]
 | cons x l=>exact y08 l x h
theorem zzw:∀ (l:List Int) (x:Int),(cq x l).length≤l.length
 | [],_=>zAj _
 | y::l,x=>by rw[cq];split <;> simp only[zAk] <;> have:=zzw l y <;> omega
theorem y23 (l:List Int):(cpt l).length≤l.length:=by
 cases l with
 | nil=>simp[cpt]
 | cons x l=>rw[cpt];have:=zzw l x;simp only[zAk];omega
end Go.Ax
namespace Go.Ax
section
variable {K:Type} [DecidableEq K]
theorem y9w {fin:K→Bool} {edg:K→List (Edge K)} {first:K} {i:Nat} {ks:List K} {a:Au} (h:Ex fin edg first i ks a) {ok:K→Prop} (h0:ok first)
 (hc:∀ k,ok k→∀ c k',kx (edg k) c=some k'→ok k'):∀ (j:Nat) (k:K),ks[j]? =some k→ok k:=by
 intro j
 induction j using Nat.strongRecOn with
 | _ j ih =>
  intro k hk
  by_cases hj:j=0
  · subst hj;rw[h.hd] at hk;cases hk;exact h0
  · obtain⟨q,k0,c,_,hq,hk0,⟨k',e1,e2⟩,_⟩:=h.bfs j (by omega) (zA1.1 hk).1
    rw[hk] at e2;cases e2
    exact hc k0 (ih q hq k0 hk0) c k e1
theorem zmg {fin:K→Bool} {edg:K→List (Edge K)} {first:K} {lim:Nat} (he:∀ k,okE 0 (edg k)) {ok:K→Prop} (h0:ok first) (hc:∀ k,ok k→∀ c k',kx (edg k) c=some k'→ok k')
 (hfew:∀ l:List K,l.Nodup→(∀ x∈l,ok x)→l.length≤lim):∀ (n i:Nat) (ks:List K) (a:Au),Ex fin edg first i ks a→lim+1≤n+i→∃ b,exL fin edg lim n i ks a=some b
 | 0,i,ks,a,h,hn=>by
  have h1:=h.le
  have h2:=hfew ks h.nod fun x hx=>by
   obtain⟨j,hj⟩:=zAw hx
   exact y9w h h0 hc j x hj
  omega
 | n+1,i,ks,a,h,hn=>by
  rw[exL]
  cases hk:ks[i]? with
  | none=>exact⟨a,rfl⟩
  | some k =>
   have hs:=zqr h hk (he k)
   have h2:=hfew _ hs.nod fun x hx=>by
    obtain⟨j,hj⟩:=zAw hx
    exact y9w hs h0 hc j x hj
   simp only
   rw[zAy (by omega)]
   exact zmg he h0 hc hfew n (i+1) _ _ hs (by omega)
end
theorem zty {n:Nat} {l:List Int} (h:l.Nodup) (hr:∀ x∈l,0≤x∧x<n):l.length≤n:=by
 have:=zbw (m:=(List.range n).map fun k:Nat=>(k:Int)) h fun x hx=>by
  have:=hr x hx
  exact List.mem_map.2 ⟨x.toNat,List.mem_range.2 (by omega),by omega⟩
 simpa using this
structure AuW (a:Au):Prop where
 len:a.A.length=a.F.length
 arc:∀ l∈a.A,okA none l∧∀ x∈l,0≤x.1∧x.1≤x.2.1∧x.2.1≤1114111∧0≤x.2.2∧x.2.2<a.F.length
 pos:0<a.F.length
theorem AuW.arcs {a:Au} (h:AuW a) (q:Int):okA none (a.arcs q)∧∀ x∈a.arcs q,0≤x.1∧x.1≤x.2.1∧x.2.1≤1114111∧0≤x.2.2∧x.2.2<a.F.length:=by
 rw[Au.arcs]
 split
 · exact⟨trivial,by simp⟩
 · cases hq:a.A[q.toNat]? with
   | none=>rw[List.getD,hq];exact⟨trivial,by simp⟩
   | some l=>rw[List.getD,hq];exact h.arc l (zA2 hq)
theorem AuW.nx {a:Au} (h:AuW a) (q c:Int):-1≤a.nx q c∧a.nx q c<a.F.length:=by
 rw[Au.nx]
 have h1:=(h.arcs q).2
 by_cases e:nxt (a.arcs q) c=-1
 · rw[e];omega
 · obtain⟨y,hy,e2⟩:=zu4 e
   have:=h1 y hy
   omega
theorem ziy {a:Au} (h:AuW a):∀ (w:List Int) (q:Nat),a.acc (q:Nat) w=true→z5m a.F a.A q
 | [],q,hw=>by
  rw[Au.acc_nil,Au.fin,zAy (by omega),zA9,List.getD] at hw
  refine .fin q ?_
  cases hq:a.F[q]? with
  | none=>rw[hq] at hw;cases hw
  | some b=>rw[hq] at hw;simp at hw;rw[hw]
 | c::w,q,hw=>by
  rw[Au.acc_cons] at hw
  by_cases e:a.nx (q:Nat) c=-1
  · rw[e,a.acc_neg w (by decide)] at hw;cases hw
  · have e1:=e
    rw[Au.nx] at e1
    obtain⟨y,hy,e2⟩:=zu4 e1
    have hy0:=hy
    rw[Au.arcs,zAy (by omega),zA9] at hy
    cases hq:a.A[q]? with
    | none=>rw[List.getD,hq] at hy;simp at hy
    | some l =>
     rw[List.getD,hq] at hy
     have h2:=((h.arcs (q:Nat)).2 y hy0)
     refine .arc q l y hq hy (ziy h w _ ?_)
     rw[show ((y.2.2.toNat:Nat):Int)=y.2.2 by omega,e2]
     exact hw
structure yap (a:Au) (cl:List Int):Prop where
 len:cl.length=a.F.length
 rng:∀ x∈cl,-1≤x∧x≤4000000
 dead:∀ q:Nat,q<a.F.length→(cl.getD q 0<0↔∀ w,a.acc (q:Nat) w=false)
 same:∀ p q:Nat,p<a.F.length→q<a.F.length→(∀ w,a.acc (p:Nat) w=a.acc (q:Nat) w)→cl.getD p 0=cl.getD q 0
 fin_:∀ p q:Nat,p<a.F.length→q<a.F.length→cl.getD p 0=cl.getD q 0→a.fin (p:Nat)=a.fin (q:Nat)
theorem zle (cl:List Int) (q:Nat):clA cl (q:Nat)=cl.getD q 0:=by rw[clA,zAy (by omega),zA9]
theorem zss (cl:List Int):clA cl (-1)=-1:=by rw[clA,zAz (by decide)]
theorem yap.to {a:Au} {cl:List Int} (h:yap a cl) {p q:Int} (hp:-1≤p∧p<a.F.length) (hq:-1≤q∧q<a.F.length) (hs:∀ w,a.acc p w=a.acc q w):clA cl p=clA cl q:=by
 have one:∀ {p:Int},-1≤p∧p<a.F.length→(∀ w,a.acc p w=false)→clA cl p=-1:=fun {p} hp hd=>by
  by_cases e:p=-1
  · rw[e,zss]
  · obtain⟨p,rfl⟩:∃ k:Nat,p=k:=⟨p.toNat,by omega⟩
    rw[zle]
    have h1:=(h.dead p (by omega)).2 hd
    have h2:=(zwn h.rng p).1
    omega
 by_cases e:p=-1
 · have hd:∀ w,a.acc q w=false:=fun w=>by rw[← hs w,e];exact a.acc_neg w (by decide)
   rw[one hq hd,e,zss]
 by_cases e2:q=-1
 · have hd:∀ w,a.acc p w=false:=fun w=>by rw[hs w,e2];exact a.acc_neg w (by decide)
   rw[one hp hd,e2,zss]
 obtain⟨p,rfl⟩:∃ k:Nat,p=k:=⟨p.toNat,by omega⟩
 obtain⟨q,rfl⟩:∃ k:Nat,q=k:=⟨q.toNat,by omega⟩
 rw[zle,zle]
 exact h.same p q (by omega) (by omega) hs
theorem zym {F:List Bool} {A:List (List Arc)} {q:Nat} (hq:q<F.length):(z6a F A).getD q false=true↔z5m F A q:=by
 rw[z6a,List.getD,zAd,List.getElem?_range hq]
 simp
structure Cls (a:Au) (lim:Nat) (r:List Int):Prop where
 inv:yap a r
 lang:∀ p q:Nat,p<a.F.length→q<a.F.length→r.getD p 0=r.getD q 0→∀ w,a.acc (p:Nat) w=a.acc (q:Nat) w
 few:∃ c:Nat,(c≤lim∧c≤a.F.length)∧∀ q,q<a.F.length→r.getD q 0<c
theorem zzy {K:Type}:∀ {es:List (Edge K)} {a c:Int} {k:K},okE a es→kx es c=some k→a≤c∧c≤1114111
 | [],_,_,_,_,h=>by cases h
 | e::es,a,c,k,h,hk=>by
  rw[kx] at hk
  have h1:=h.1
  have h2:=h.2.1
  have h3:=h.2.2.1
  split at hk
  · omega
  · have:=zzy h.2.2.2 hk;omega
section
variable {K:Type} [DecidableEq K]
end
section
variable {a:Au} (h:AuW a) {lim:Nat} {cl:List Int} (hc:Cls a lim cl) {st:Int→Nat} (hst:∀ q,q<a.F.length→st (cl.getD q 0)<a.F.length∧cl.getD (st (cl.getD q 0)) 0=cl.getD q 0)
include h hc hst
end
structure Tbl where
 P:List Int
 F:List Bool
 N:List (List Int)
def nxE:List Int→Int
 | q::_=>q-1
 | []=>1114111
def yd1:List Int→List Int→List (Edge Int)
 | [],_=>[]
 | _::_,[]=>[]
 | p::P,n::N=>(p,nxE P,n)::yd1 P N
theorem y8z {K:Type} {l:List (Edge K)} {a b:Int} (h:okE b l) (hab:a≤b):okE a l:=by
 cases l with
 | nil=>trivial
 | cons e l=>exact⟨by have:=h.1;omega,h.2⟩
structure y5z (t:Tbl):Prop where
 hd:t.P[0]? =some 0
 asc:t.P.Pairwise (· <·)
 rng:∀ z∈t.P,0≤z∧z≤1114111
 pos:0<t.F.length
 len:t.N.length=t.F.length
 row:∀ r∈t.N,r.length=t.P.length∧∀ n∈r,0≤n∧n<t.F.length
def Tbl.row (t:Tbl) (s:Nat):List Int:=t.N.getD s []
def Tbl.edg (t:Tbl) (s:Nat):List (Edge Int):=yd1 t.P (t.row s)
def Tbl.acc (t:Tbl):List Int→Nat→Bool
 | [],s=>t.F.getD s false
 | c::w,s=>match kx (t.edg s) c with|none=>false|some n=>t.acc w n.toNat
section
variable {t:Tbl} (h:y5z t) {cl:List Int} {lv:List Bool} {st:Int→Nat}
 (hc:∀ i k,i<t.F.length→k<t.F.length→(cl.getD i 0=cl.getD k 0↔∀ w,t.acc w i=t.acc w k))
 (hr:∀ i,i<t.F.length→0≤cl.getD i 0∧cl.getD i 0<t.F.length)
 (hl:∀ i,i<t.F.length→(lv.getD i false=true↔∃ w,t.acc w i=true))
 (hst:∀ i,i<t.F.length→st (cl.getD i 0)<t.F.length∧cl.getD (st (cl.getD i 0)) 0=cl.getD i 0)
include h hc hl hst
include hr
end
def y0n (p:Nat→Bool):Nat→Nat→Option Nat
 | 0,_=>none
 | m+1,k=>if p k=true then some k else y0n p m (k+1)
theorem zj5 {p:Nat→Bool}:∀ {m k r:Nat},y0n p m k=some r→p r=true∧k≤r∧r<k+m
 | 0,k,r,h=>by rw[y0n] at h;cases h
 | m+1,k,r,h=>by
  rw[y0n] at h
  split at h
  · rename_i hp;cases h;exact⟨hp,by omega,by omega⟩
  · obtain⟨h1,h2,h3⟩:=zj5 h;exact⟨h1,by omega,by omega⟩
theorem zhp {p:Nat→Bool}:∀ {m k:Nat},y0n p m k=none→∀ r,k≤r→r<k+m→p r=false
 | 0,k,_,r,h1,h2=>by omega
 | m+1,k,h,r,h1,h2=>by
  rw[y0n] at h
  split at h
  · cases h
  · rename_i hp
    by_cases hr:r=k
    · rw[hr];simpa using hp
    · exact zhp h r (by omega) (by omega)
def ybo (p:Nat→Bool):Nat→Nat→Bool
 | 0,_=>false
 | m+1,k=>p k||ybo p m (k+1)
abbrev cAt (c:List Int) (n:Int):Int:=c.getD n.toNat 0
def y9u (c:List Int):List Int→List Int→Bool
 | a::r,b::s=>decide (cAt c a=cAt c b)&&y9u c r s
 | _,_=>true
theorem znr {c:List Int}:∀ {r s:List Int},r.length=s.length→(y9u c r s=true↔r.map (cAt c)=s.map (cAt c))
 | [],[],_=>by simp[y9u]
 | a::r,[],h=>by simp at h
 | [],b::s,h=>by simp at h
 | a::r,b::s,h=>by
  rw[y9u,zA7,zA3,znr (by simpa using h),List.map_cons,List.map_cons,List.cons.injEq]
def Tbl.alk (t:Tbl) (c:List Int) (i k:Nat):Bool:=decide (c.getD i 0=c.getD k 0)&&y9u c (t.row i) (t.row k)
def Tbl.dOne (t:Tbl) (c:List Int) (s:List Int × Int) (i:Nat):List Int × Int:=match y0n (t.alk c i) i 0 with
 | some k=>(s.1++[s.1.getD k 0],s.2)
 | none=>(s.1++[s.2],s.2+1)
def ydd (c d:List Int) (i k:Nat):Bool:=decide (c.getD i 0=c.getD k 0)&&decide (d.getD i 0≠d.getD k 0)
def spl (c d:List Int) (n:Nat):Bool:=ybo (fun i=>ybo (ydd c d i) i 0) n 0
theorem y5z.row_len {t:Tbl} (h:y5z t) {i:Nat} (hi:i<t.F.length):(t.row i).length=t.P.length:=by
 obtain⟨r,hr⟩:∃ r,t.N[i]? =some r:=⟨_,zA0 (by rw[h.len];exact hi)⟩
 rw[Tbl.row,List.getD,hr];exact(h.row r (zA2 hr)).1
theorem y5z.alk_iff {t:Tbl} (h:y5z t) {c:List Int} {i k:Nat} (hi:i<t.F.length) (hk:k<t.F.length):t.alk c i k=true↔c.getD i 0=c.getD k 0∧(t.row i).map (cAt c)=(t.row k).map (cAt c):=by
 rw[Tbl.alk,zA7,zA3,znr (by rw[h.row_len hi,h.row_len hk])]
structure DS (t:Tbl) (c:List Int) (q:Nat) (s:List Int × Int):Prop where
 len:s.1.length=q
 cnt:0≤s.2∧s.2≤q
 rng:∀ i,i<q→0≤s.1.getD i 0∧s.1.getD i 0<s.2
 eqv:∀ i k,i<q→k<q→(s.1.getD i 0=s.1.getD k 0↔t.alk c i k=true)
theorem zlf {l:List Int} {x:Int} {i:Nat} (h:i<l.length):(l++[x]).getD i 0=l.getD i 0:=by
 rw[List.getD,List.getD,zAb h]
theorem zlb {l:List Int} {x:Int}:(l++[x]).getD l.length 0=x:=by
 rw[List.getD,zAg (zAj _)];simp
theorem DS.step {t:Tbl} (h:y5z t) {c:List Int} {q:Nat} {s:List Int × Int} (hs:DS t c q s) (hq:q<t.F.length):DS t c (q+1) (t.dOne c s q):=by
 obtain⟨l,m⟩:=s
 obtain⟨h1,h2,h3,h4⟩:=hs
 simp only at h1 h2 h3 h4
 have key:∀ (v:Int) (m':Int),m≤m'→m'≤(q:Int)+1→0≤v→v<m'→(∀ i,i<q→(l.getD i 0=v↔t.alk c i q=true))→DS t c (q+1) (l++[v],m'):=fun v m' m1 m2 v0 v1 hv=>by
  have hg:∀ i,i<q→(l++[v]).getD i 0=l.getD i 0:=fun i hi=>zlf (by omega)
  have hgq:(l++[v]).getD q 0=v:=by rw[← h1];exact zlb
  have hsy:∀ i,i<q→(t.alk c q i=true↔t.alk c i q=true):=fun i hi=>by
   rw[h.alk_iff hq (by omega),h.alk_iff (by omega) hq]
   exact⟨fun h=>⟨h.1.symm,h.2.symm⟩,fun h=>⟨h.1.symm,h.2.symm⟩⟩
  refine⟨by simp[h1],by simp only;omega,fun i hi=>?_,fun i k hi hk=>?_⟩
  · simp only
    by_cases hiq:i=q
    · rw[hiq,hgq];exact⟨v0,v1⟩
    · rw[hg i (by omega)];have:=h3 i (by omega);omega
  · simp only
    by_cases hiq:i=q
    · by_cases hkq:k=q
      · rw[hiq,hkq,h.alk_iff hq hq];exact⟨fun _=>⟨rfl,rfl⟩,fun _=>rfl⟩
      · rw[hiq,hgq,hg k (by omega),hsy k (by omega),← hv k (by omega)];exact eq_comm
    · by_cases hkq:k=q
      · rw[hkq,hgq,hg i (by omega)];exact hv i (by omega)
      · rw[hg i (by omega),hg k (by omega)];exact h4 i k (by omega) (by omega)
 rw[Tbl.dOne]
 cases hf:y0n (t.alk c q) q 0 with
 | some k =>
  obtain⟨k1,k2,k3⟩:=zj5 hf
  have hk:=h3 k (by omega)
  refine key _ m (Int.le_refl _) (by omega) hk.1 hk.2 fun i hi=>?_
  rw[h4 i k hi (by omega),h.alk_iff (by omega) (by omega),h.alk_iff (by omega) hq]
  rw[h.alk_iff hq (by omega)] at k1
  exact⟨fun g=>⟨g.1.trans k1.1.symm,g.2.trans k1.2.symm⟩,fun g=>⟨g.1.trans k1.1,g.2.trans k1.2⟩⟩
 | none =>
  have hn:=zhp hf
  refine key m (m+1) (by omega) (by omega) h2.1 (by omega) fun i hi=>⟨fun e=>?_,fun e=>?_⟩
  · have:=h3 i hi;omega
  · have:=hn i (by omega) (by omega)
    rw[h.alk_iff (by omega) hq] at e
    rw[(h.alk_iff hq (by omega)).2 ⟨e.1.symm,e.2.symm⟩] at this
    cases this
def leB:List Bool→List Bool→Prop
 | [],[]=>True
 | a::l,b::m=>(a=true→b=true)∧leB l m
 | _,_=>False
theorem zg7:∀ l:List Bool,leB l l
 | []=>trivial
 | a::l=>⟨id,zg7 l⟩
theorem z9p:∀ {l m k:List Bool},leB l m→leB m k→leB l k
 | [],[],[],_,_=>trivial
 | [],[],_::_,_,h=>h.elim
 | [],_::_,_,h,_=>h.elim
 | _::_,[],_,h,_=>h.elim
 | _::_,_::_,[],_,h=>h.elim
 | a::l,b::m,c::k,h,g=>⟨fun x=>g.1 (h.1 x),z9p h.2 g.2⟩
theorem y05:∀ {l m:List Bool},leB l m→∀ i,l.getD i false=true→m.getD i false=true
 | [],[],_,i,h=>h
 | [],_::_,h,_,_=>h.elim
 | _::_,[],h,_,_=>h.elim
 | a::l,b::m,h,0,g=>h.1 g
 | a::l,b::m,h,i+1,g=>by
  rw[List.getD_cons_succ] at g ⊢
  exact y05 h.2 i g
theorem zrl:∀ (l:List Bool) (i:Nat) (b:Bool),leB l (l.set i (l.getD i false||b))
 | [],i,b=>by cases i <;> trivial
 | a::l,0,b=>⟨fun h=>by simp[h],zg7 l⟩
 | a::l,i+1,b=>by rw[List.set_cons_succ,List.getD_cons_succ];exact⟨id,zrl l i b⟩
def lvS (i:Nat) (l:List Bool) (n:Int):List Bool:=l.set i (l.getD i false||l.getD n.toNat false)
def Tbl.lvRow (t:Tbl) (l:List Bool) (i:Nat):List Bool:=(t.row i).foldl (lvS i) l
def Tbl.lvRnd (t:Tbl):Nat→Nat→List Bool→List Bool
 | 0,_,l=>l
 | m+1,i,l=>t.lvRnd m (i+1) (t.lvRow l i)
def Tbl.lvT (t:Tbl):Nat→List Bool→List Bool
 | 0,l=>l
 | m+1,l=>t.lvT m (t.lvRnd t.F.length 0 l)
def Tbl.live (t:Tbl):List Bool:=t.lvT t.F.length t.F
def zph (a b:Au) (p:Int × Int) (s:List (Int × Int) × List Int) (c:Int):List (Int × Int) × List Int:=(za3 s.1 (a.nx p.1 c,b.nx p.2 c),s.2++[((z5u (a.nx p.1 c,b.nx p.2 c) s.1:Nat):Int)])
def ycy (a b:Au) (p:Int × Int):Prop:=-1≤p.1∧p.1<a.F.length∧-1≤p.2∧p.2<b.F.length
structure PrS (a b:Au) (p:Int × Int) (L:List (Int × Int)) (Q:List Int) (s:List (Int × Int) × List Int):Prop where
 pre:∃ e,s.1=L++e
 nod:s.1.Nodup
 ok:∀ p∈s.1,ycy a b p
 len:s.2.length=Q.length
 at_:∀ (x:Nat) (c:Int),Q[x]? =some c→∃ k:Nat,s.2[x]? =some (k:Int)∧s.1[k]? =some (a.nx p.1 c,b.nx p.2 c)
theorem PrS.step {a b:Au} (ha:AuW a) (hb:AuW b) {p:Int × Int} {L:List (Int × Int)} {Q:List Int} {s:List (Int × Int) × List Int} (h:PrS a b p L Q s) (c:Int):PrS a b p L (Q++[c]) (zph a b p s c):=by
 obtain⟨s1,s2⟩:=s
 obtain⟨⟨e,he⟩,h2,h3,h4,h5⟩:=h
 simp only at he h2 h3 h4 h5
 rw[zph]
 have hmem:=z9g s1 (a.nx p.1 c,b.nx p.2 c)
 obtain⟨r,hr⟩:=zc6 s1 (a.nx p.1 c,b.nx p.2 c)
 refine⟨⟨e++r,by simp only;rw[hr,he,zAl]⟩,zat h2,fun q hq=>?_,by simp[h4],fun x c' hx=>?_⟩
 · simp only[za3] at hq
   split at hq
   · exact h3 q hq
   · rw[zAt,zAq] at hq
     rcases hq with hq|rfl
     · exact h3 q hq
     · have:=ha.nx p.1 c;have:=hb.nx p.2 c;exact⟨by omega,by omega,by omega,by omega⟩
 · simp only
   by_cases hlt:x<Q.length
   · rw[zAb hlt] at hx
     obtain⟨k,k1,k2⟩:=h5 x c' hx
     refine⟨k,by rw[zAb (by omega)];exact k1,by rw[hr,zAb (zA1.1 k2).1];exact k2⟩
   · have hx1:=(zA1.1 hx).1
     rw[zAa,zAn] at hx1
     obtain rfl:x=Q.length:=by omega
     rw[zAg (zAj _)] at hx
     simp at hx
     subst hx
     refine⟨z5u (a.nx p.1 c,b.nx p.2 c) s1,by rw[← h4,zAg (zAj _)];simp,?_⟩
     have:=(zbz hmem).2
     rwa [zh6] at this
theorem znw {a b:Au} (ha:AuW a) (hb:AuW b) {p:Int × Int} {L:List (Int × Int)}:∀ (P Q:List Int) (s:List (Int × Int) × List Int),PrS a b p L Q s→PrS a b p L (Q++P) (P.foldl (zph a b p) s)
 | [],Q,s,h=>by rw[List.append_nil];exact h
 | c::P,Q,s,h=>by
  rw[List.foldl_cons,show Q++c::P=(Q++[c])++P by simp]
  exact znw ha hb P _ _ (h.step ha hb c)
structure PrI (a b:Au) (dec:Bool→Bool→Bool) (P:List Int) (i:Nat) (L:List (Int × Int)) (F:List Bool) (N:List (List Int)):Prop where
 le:i≤L.length
 fl:F.length=i
 nl:N.length=i
 hd:L[0]? =some (0,0)
 nod:L.Nodup
 ok:∀ p∈L,ycy a b p
 fin_:∀ q p,q<i→L[q]? =some p→F[q]? =some (dec (a.fin p.1) (b.fin p.2))
 row:∀ q p,q<i→L[q]? =some p→∃ r,N[q]? =some r∧r.length=P.length∧∀ (x:Nat) (c:Int),P[x]? =some c→∃ k:Nat,r[x]? =some (k:Int)∧L[k]? =some (a.nx p.1 c,b.nx p.2 c)
theorem PrI.step {a b:Au} (ha:AuW a) (hb:AuW b) {dec:Bool→Bool→Bool} {P:List Int} {i:Nat} {L:List (Int × Int)} {F:List Bool} {N:List (List Int)} (h:PrI a b dec P i L F N) {p:Int × Int} (hp:L[i]? =some p) :
 PrI a b dec P (i+1) (P.foldl (zph a b p) (L,[])).1 (F++[dec (a.fin p.1) (b.fin p.2)]) (N++[(P.foldl (zph a b p) (L,[])).2]):=by
 have hi:=(zA1.1 hp).1
 have hs:=znw ha hb (p:=p) (L:=L) P [] (L,[]) ⟨⟨[],by simp⟩,h.nod,h.ok,rfl,by simp⟩
 rw[List.nil_append] at hs
 generalize P.foldl (zph a b p) (L,[])=s at *
 obtain⟨⟨e,he⟩,h2,h3,h4,h5⟩:=hs
 have hget:∀ {q:Nat},q<L.length→s.1[q]? =L[q]?:=fun hq=>by rw[he,zAb hq]
 have hle:=h.le
 have hfl:=h.fl
 have hnl:=h.nl
 refine⟨by rw[he,zAa];omega,by simp[hfl],by simp[hnl],by rw[hget (by omega)];exact h.hd,h2,h3,fun q p' hq hp'=>?_,fun q p' hq hp'=>?_⟩
 · rw[hget (by omega)] at hp'
   by_cases hqi:q=i
   · subst hqi
     rw[hp] at hp';cases hp'
     rw[zAg (by omega),hfl];simp
   · rw[zAb (by omega)]
     exact h.fin_ q p' (by omega) hp'
 · rw[hget (by omega)] at hp'
   by_cases hqi:q=i
   · subst hqi
     rw[hp] at hp';cases hp'
     exact⟨s.2,by rw[zAg (by omega),hnl];simp,h4,h5⟩
   · obtain⟨r,r1,r2,r3⟩:=h.row q p' (by omega) hp'
     refine⟨r,by rw[zAb (by omega)];exact r1,r2,fun x c hx=>?_⟩
     obtain⟨k,k1,k2⟩:=r3 x c hx
     exact⟨k,k1,by rw[hget (zA1.1 k2).1];exact k2⟩
def y9f (c:Int):Prop:=0≤c∧c≤1114111∧(c<55296∨57343<c)
section
variable {K:Type}
def zv3 (f:Int→Option K) (x y:Int):Option (Edge K):=(f x).map fun k=>(x,y-1,k)
def zoz (f:Int→Option K):List Int→List (Edge K)
 | x::y::P=>match zv3 f x y with
  | none=>zoz f (y::P)
  | some e=>e::zoz f (y::P)
 | _=>[]
theorem zey (f:Int→Option K):∀ P:List Int,(List.range (P.length-1)).filterMap (fun i=>zv3 f (P.getD i 0) (P.getD (i+1) 0))=zoz f P
 | []=>rfl
 | [x]=>rfl
 | x::y::P=>by
  have ih:=zey f (y::P)
  rw[zoz,← ih]
  show (List.range (P.length+1)).filterMap _=_
  rw[List.range_succ_eq_map,List.filterMap_cons]
  have e:(List.map Nat.succ (List.range P.length)).filterMap (fun i=>zv3 f ((x::y::P).getD i 0) ((x::y::P).getD (i+1) 0))=(List.range ((y::P).length-1)).filterMap (fun i=>zv3 f ((y::P).getD i 0) ((y::P).getD (i+1) 0)):=by
   rw[List.filterMap_map];rfl
  rw[e]
  have e0:zv3 f ((x::y::P).getD 0 0) ((x::y::P).getD (0+1) 0)=zv3 f x y:=rfl
  rw[e0]
  cases zv3 f x y <;> rfl
theorem zlc {f:Int→Option K}:∀ {P:List Int} {a:Int},P.Pairwise (· <·)→(∀ z∈P,a≤z∧z≤1114112)→okE a (zoz f P)
 | [],_,_,_=>trivial
 | [x],_,_,_=>trivial
 | x::y::P,a,h,hr=>by
  have hxy:x<y:=(List.pairwise_cons.1 h).1 y (by simp)
  have h1:=hr x (by simp)
  have h2:=hr y (by simp)
  have hy:∀ z∈y::P,y≤z∧z≤1114112:=fun z hz=>by
   rcases zAc.1 hz with rfl|hz'
   · exact⟨Int.le_refl _,h2.2⟩
   · exact⟨Int.le_of_lt ((List.pairwise_cons.1 (List.pairwise_cons.1 h).2).1 z hz'),(hr z (List.mem_cons_of_mem _ hz)).2⟩
  have ih:=zlc (f:=f) (List.pairwise_cons.1 h).2 hy
  rw[zoz,zv3]
  cases f x with
  | none=>exact y8z ih (by omega)
  | some k=>exact⟨h1.1,by simp only;omega,by simp only;omega,by show okE (y-1+1) _;rw[Int.sub_add_cancel];exact ih⟩
theorem y1h {f:Int→Option K} {c:Int}:∀ {P:List Int},P.Pairwise (· <·)→(∀ p∈P,p≤c→(∀ y∈P,y≤c→y≤p)→f p=f c)→(∀ p∈P,p≤c→(∃ q∈P,c<q)→kx (zoz f P) c=f c)∧((∀ p∈P,c<p)∨(∀ p∈P,p≤c)→kx (zoz f P) c=none)
 | [],_,_=>⟨fun p hp=>by simp at hp,fun _=>rfl⟩
 | [x],_,_=>⟨fun p hp hpc hq=>by obtain⟨q,hq,h⟩:=hq;simp at hp hq;subst hp;subst hq;omega,fun _=>rfl⟩
 | x::y::P,h,hc=>by
  obtain⟨hx,h'⟩:=List.pairwise_cons.1 h
  have hxy:x<y:=hx y (by simp)
  have hyP:∀ z∈y::P,y≤z:=fun z hz=>by
   rcases zAc.1 hz with rfl|hz'
   · exact Int.le_refl _
   · exact Int.le_of_lt ((List.pairwise_cons.1 h').1 z hz')
  obtain⟨i1,i2⟩:=y1h (f:=f) (c:=c) h' fun p hp hpc hy=>by
   refine hc p (List.mem_cons_of_mem _ hp) hpc fun z hz hzc=>?_
   rcases zAc.1 hz with rfl|hz
   · have:=hyP p hp;omega
   · exact hy z hz hzc
  have key:kx (zoz f (x::y::P)) c=if x≤c∧c<y∧(f x).isSome then f x else kx (zoz f (y::P)) c:=by
   rw[zoz,zv3]
   cases hf:f x with
   | none=>rw[zAy (by simp)];rfl
   | some k =>
    show (if x≤c∧c≤y-1 then some k else _)=_
    by_cases g:x≤c∧c<y
    · rw[zAz ⟨g.1,by omega⟩,zAz ⟨g.1,g.2,rfl⟩]
    · rw[zAy (by omega),zAy (fun w=>g ⟨w.1,w.2.1⟩)]
  by_cases g:x≤c∧c<y
  · have e:f x=f c:=hc x (by simp) g.1 fun z hz hzc=>by
     rcases zAc.1 hz with rfl|hz
     · exact Int.le_refl _
     · have:=hyP z hz;omega
    refine⟨fun p hp hpc hq=>?_,fun ho=>?_⟩
    · rw[key]
      by_cases s:(f x).isSome=true
      · rw[zAz ⟨g.1,g.2,s⟩,e]
      · rw[zAy (fun w=>s w.2.2),i2 (.inl fun p hp=>by have:=hyP p hp;omega),← e]
        cases hf:f x with
        | none=>rfl
        | some k=>rw[hf] at s;exact absurd rfl s
    · rcases ho with ho|ho
      · have:=ho x (by simp);omega
      · have:=ho y (by simp);omega
  · rw[zAy (fun w=>g ⟨w.1,w.2.1⟩)] at key
    rw[key]
    refine⟨fun p hp hpc hq=>?_,fun ho=>?_⟩
    · obtain⟨q,hq,hcq⟩:=hq
      have hq2:q∈y::P:=by
       rcases zAc.1 hq with rfl|h2
       · rcases zAc.1 hp with rfl|h3
         · omega
         · have:=hx p h3;omega
       · exact h2
      rcases zAc.1 hp with rfl|h3
      · exact i1 y (by simp) (by omega) ⟨q,hq2,hcq⟩
      · exact i1 p h3 hpc ⟨q,hq2,hcq⟩
    · exact i2 (ho.imp (fun w p hp=>w p (List.mem_cons_of_mem _ hp)) fun w p hp=>w p (List.mem_cons_of_mem _ hp))
end
end Go.Ax
