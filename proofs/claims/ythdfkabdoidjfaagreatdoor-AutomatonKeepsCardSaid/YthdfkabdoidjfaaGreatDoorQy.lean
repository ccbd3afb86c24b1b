/- A part of the proof: AX1, AX2, AX3, AX4, AX5, AX6, AX8, AX9, AX7, AX10, AX11, AX12, AX13, AX14. -/
set_option linter.all false
set_option linter.unusedVariables false
set_option linter.unusedSimpArgs false
namespace Go.Ax
abbrev Arc:=Int × Int × Int
structure Au where
 F:List Bool
 A:List (List Arc)
def nxt:List Arc→Int→Int
 | [],_=> -1
 | x::l,c=>if x.1≤c∧c≤x.2.1 then x.2.2 else nxt l c
def Au.arcs (a:Au) (q:Int):List Arc:=if q<0 then [] else a.A.getD q.toNat []
def Au.fin (a:Au) (q:Int):Bool:=if q<0 then false else a.F.getD q.toNat false
def Au.nx (a:Au) (q c:Int):Int:=nxt (a.arcs q) c
def Au.run (a:Au):Int→List Int→Int
 | q,[]=>q
 | q,c::w=>a.run (a.nx q c) w
def Au.acc (a:Au) (q:Int) (w:List Int):Bool:=a.fin (a.run q w)
theorem Au.acc_nil (a:Au) (q:Int):a.acc q []=a.fin q:=rfl
theorem Au.acc_cons (a:Au) (q c:Int) (w:List Int):a.acc q (c::w)=a.acc (a.nx q c) w:=rfl
theorem Au.nx_neg (a:Au) {q:Int} (h:q<0) (c:Int):a.nx q c=-1:=by rw[nx,arcs,if_pos h];rfl
theorem Au.acc_neg (a:Au):∀ (w:List Int) {q:Int},q<0→a.acc q w=false
 | [],q,h=>by rw[acc_nil,fin,if_pos h]
 | c::w,q,h=>by rw[acc_cons,a.nx_neg h c];exact a.acc_neg w (by decide)
def okA:Option Arc→List Arc→Prop
 | _,[]=>True
 | p,x::l=>x.1≤x.2.1∧0≤x.2.2∧(∀ y,p=some y→y.2.1<x.1∧¬ (y.2.1+1=x.1∧y.2.2=x.2.2))∧okA (some x) l
theorem z9x:∀ {l:List Arc} {y:Arc},okA (some y) l→∀ c,c≤y.2.1→nxt l c=-1
 | [],_,_,_,_=>rfl
 | x::l,y,h,c,hc=>by
  have h1:=(h.2.2.1 y rfl).1
  rw[nxt,if_neg (by omega)]
  exact z9x h.2.2.2 c (by have:=h.1;omega)
theorem ze5 {x:Arc} {l:List Arc} {p:Option Arc} (h:okA p (x::l)) {c:Int} (hc:c<x.1):nxt (x::l) c=-1:=by
 rw[nxt,if_neg (by omega)]
 exact z9x h.2.2.2 c (by have:=h.1;omega)
theorem z7h {x:Arc} {l:List Arc} {c:Int} (h1:x.1≤c) (h2:c≤x.2.1):nxt (x::l) c=x.2.2:=by rw[nxt,if_pos ⟨h1,h2⟩]
theorem zio {l:List Arc} {y:Arc} (h:okA (some y) l):nxt l (y.2.1+1)≠y.2.2∨y.2.2<0:=by
 cases l with
 | nil=>simp only[nxt];omega
 | cons x l =>
  have h1:=h.2.2.1 y rfl
  by_cases hc:x.1=y.2.1+1
  · left
    rw[z7h (by omega) (by have:=h.1;omega)]
    exact fun e=>h1.2 ⟨hc.symm,e.symm⟩
  · rw[ze5 h (by omega)]
    omega
theorem zo1:∀ {l m:List Arc} {p:Option Arc},okA p l→okA p m→(∀ c,nxt l c=nxt m c)→l=m
 | [],[],_,_,_,_=>rfl
 | [],y::m,p,_,h2,h=>by
  have:=h y.1
  rw[z7h (Int.le_refl _) h2.1] at this
  have:=h2.2.1
  simp only[nxt] at *;omega
 | x::l,[],p,h1,_,h=>by
  have:=h x.1
  rw[z7h (Int.le_refl _) h1.1] at this
  have:=h1.2.1
  simp only[nxt] at *;omega
 | x::l,y::m,p,h1,h2,h=>by
  have e1:x.1=y.1:=by
   rcases Int.lt_trichotomy x.1 y.1 with g|g|g
   · have:=h x.1
     rw[z7h (Int.le_refl _) h1.1,ze5 h2 g] at this
     have:=h1.2.1;omega
   · exact g
   · have:=h y.1
     rw[z7h (Int.le_refl _) h2.1,ze5 h1 g] at this
     have:=h2.2.1;omega
  have e2:x.2.2=y.2.2:=by
   have:=h x.1
   rw[z7h (Int.le_refl _) h1.1,z7h (by omega) (by have:=h2.1;omega)] at this
   exact this
  have e3:x.2.1=y.2.1:=by
   rcases Int.lt_trichotomy x.2.1 y.2.1 with g|g|g
   · have:=h (x.2.1+1)
     rw[z7h (x:=y) (by have:=h1.1;omega) (by omega),nxt,if_neg (by omega)] at this
     rcases zio h1.2.2.2 with g2|g2
     · exact absurd (this.trans e2.symm) g2
     · have:=h1.2.1;omega
   · exact g
   · have:=h (y.2.1+1)
     rw[z7h (x:=x) (by have:=h2.1;omega) (by omega),nxt,if_neg (by omega)] at this
     rcases zio h2.2.2.2 with g2|g2
     · exact absurd (this.symm.trans e2) g2
     · have:=h2.2.1;omega
  have e:x=y:=by
   obtain⟨a,b,c⟩:=x;obtain⟨a',b',c'⟩:=y
   simp only at e1 e2 e3;rw[e1,e2,e3]
  subst e
  congr 1
  refine zo1 h1.2.2.2 h2.2.2.2 fun c=>?_
  by_cases hc:c≤x.2.1
  · rw[z9x h1.2.2.2 c hc,z9x h2.2.2.2 c hc]
  · have:=h c
    rw[nxt,nxt,if_neg (by omega),if_neg (by omega)] at this
    exact this
def before (i c j d:Int):Prop:=i<j∨i=j∧c<d
structure Can (a:Au):Prop where
 pos:0<a.F.length
 len:a.A.length=a.F.length
 ok:∀ l∈a.A,okA none l
 rng:∀ q c,a.nx q c<a.F.length
 bfs:∀ j:Int,1≤j→j<a.F.length→∃ i c,0≤i∧i<j∧a.nx i c=j∧∀ i' c',0≤i'→before i' c' i c→a.nx i' c'<j
 dif:∀ i j:Int,0≤i→i<a.F.length→0≤j→j<a.F.length→(∀ w,a.acc i w=a.acc j w)→i=j
 live:∀ i:Int,0≤i→i<a.F.length→∃ w,a.acc i w=true
theorem zix {p:Option Arc}:∀ {l:List Arc} {p:Option Arc},okA p l→∀ c,-1≤nxt l c
 | [],_,_,_=>Int.le_refl _
 | x::l,p,h,c=>by
  rw[nxt]
  split
  · have:=h.2.1;omega
  · exact zix (p:=none) h.2.2.2 c
theorem Can.nx_ge {a:Au} (h:Can a) (q c:Int):-1≤a.nx q c:=by
 rw[Au.nx,Au.arcs]
 split
 · exact Int.le_refl _
 · by_cases hq:q.toNat<a.A.length
   · rw[List.getD,List.getElem?_eq_getElem hq]
     exact zix (p:=none) (h.ok _ (List.getElem_mem hq)) c
   · rw[List.getD,List.getElem?_eq_none (by omega)];exact Int.le_refl _
theorem Can.arcs_ok {a:Au} (h:Can a) (q:Int):okA none (a.arcs q):=by
 rw[Au.arcs]
 split
 · trivial
 · by_cases hq:q.toNat<a.A.length
   · rw[List.getD,List.getElem?_eq_getElem hq];exact h.ok _ (List.getElem_mem hq)
   · rw[List.getD,List.getElem?_eq_none (by omega)];trivial
section
variable {a b:Au} (ha:Can a) (hb:Can b) (h0:∀ w,a.acc 0 w=b.acc 0 w)
include ha hb
def zfn (a b:Au) (m:Int):Prop:=∀ j:Int,0≤j→j<m→j<a.F.length∧j<b.F.length∧∀ w,a.acc j w=b.acc j w
theorem zga {i:Int} (h:∀ w,a.acc i w=b.acc i w) (c:Int):(∀ w,a.acc (a.nx i c) w=b.acc (b.nx i c) w)∧(a.nx i c<0↔b.nx i c<0):=by
 have h1:∀ w,a.acc (a.nx i c) w=b.acc (b.nx i c) w:=fun w=>h (c::w)
 refine⟨h1,?_,?_⟩
 · intro g
   false_or_by_contra
   rename_i g2
   obtain⟨w,hw⟩:=hb.live (b.nx i c) (by omega) (hb.rng i c)
   rw[← h1,a.acc_neg w g] at hw;cases hw
 · intro g
   false_or_by_contra
   rename_i g2
   obtain⟨w,hw⟩:=ha.live (a.nx i c) (by omega) (ha.rng i c)
   rw[h1,b.acc_neg w g] at hw;cases hw
theorem zcw {m i c:Int} (hm:zfn a b m) (hi:∀ w,a.acc i w=b.acc i w) (h:a.nx i c<m):b.nx i c=a.nx i c:=by
 obtain⟨h1,h2⟩:=zga ha hb hi c
 by_cases hn:a.nx i c<0
 · have e1:=h2.1 hn
   have:=ha.nx_ge i c
   have:=hb.nx_ge i c
   omega
 · obtain⟨k1,k2,k3⟩:=hm (a.nx i c) (by omega) h
   have hbn:¬ b.nx i c<0:=fun g=>hn (h2.2 g)
   exact hb.dif _ _ (by omega) (hb.rng i c) (by omega) k2 fun w=>by rw[← h1,k3]
theorem zmi {m:Int} (h1:1≤m) (hm:zfn a b m) (hlt:m<a.F.length):zfn a b (m+1):=by
 obtain⟨i,c,i0,im,hic,hbef⟩:=ha.bfs m h1 hlt
 obtain⟨l1,l2,hi⟩:=hm i i0 im
 obtain⟨s1,s2⟩:=zga ha hb hi c
 -- what b meets there
 have hn:¬ b.nx i c<0:=fun g=>by have:=s2.2 g;omega
 have hge:m≤b.nx i c:=by
  false_or_by_contra
  rename_i g
  obtain⟨k1,k2,k3⟩:=hm (b.nx i c) (by omega) (by omega)
  have:=ha.dif (a.nx i c) (b.nx i c) (by omega) (ha.rng i c) (by omega) k1 fun w=>by rw[s1,k3]
  omega
 have heq:b.nx i c=m:=by
  have hbm:m<b.F.length:=by have:=hb.rng i c;omega
  obtain⟨i1,c1,j0,jm,hjc,hbef2⟩:=hb.bfs m h1 hbm
  by_cases g:before i1 c1 i c
  · -- b meets m earlier than a does
    have g1:=hbef i1 c1 j0 g
    obtain⟨_,_,hi1⟩:=hm i1 j0 jm
    have:=zcw ha hb hm hi1 g1
    omega
  · by_cases g2:before i c i1 c1
    · have:=hbef2 i c i0 g2
      omega
    · have:i=i1∧c=c1:=by
       unfold before at g g2;omega
      rw[this.1,this.2];exact hjc
 intro j j0 jm
 by_cases hj:j<m
 · exact hm j j0 hj
 · obtain rfl:j=m:=by omega
   refine⟨hlt,by have:=hb.rng i c;omega,fun w=>?_⟩
   have:=s1 w
   rw[hic,heq] at this;exact this
include h0 in
theorem zin:zfn a b a.F.length:=by
 have key:∀ k:Nat,k+1≤a.F.length→zfn a b ((k:Int)+1):=fun k=>by
  induction k with
  | zero =>
   intro _ j j0 j1
   obtain rfl:j=0:=by omega
   exact⟨by have:=ha.pos;omega,by have:=hb.pos;omega,h0⟩
  | succ k ih =>
   intro hk
   have:=zmi ha hb (by omega) (ih (by omega)) (by omega)
   intro j j0 j1
   exact this j j0 (by omega)
 have hp:=ha.pos
 have:=key (a.F.length-1) (by omega)
 intro j j0 j1
 exact this j j0 (by omega)
end
theorem znd {a b:Au} (ha:Can a) (hb:Can b) (h0:∀ w,a.acc 0 w=b.acc 0 w):a.F.length≤b.F.length:=by
 have h:=zin ha hb h0
 have hp:=ha.pos
 have:=(h ((a.F.length:Int)-1) (by omega) (by omega)).2.1
 omega
theorem zwb {a b:Au} (ha:Can a) (hb:Can b) (h0:∀ w,a.acc 0 w=b.acc 0 w):a=b:=by
 have h:=zin ha hb h0
 have hl:a.F.length=b.F.length:=Nat.le_antisymm (znd ha hb h0) (znd hb ha fun w=>(h0 w).symm)
 have hF:a.F=b.F:=by
  refine List.ext_getElem hl fun i h1 h2=>?_
  have:=(h (i:Nat) (by omega) (by omega)).2.2 []
  rw[Au.acc_nil,Au.acc_nil,Au.fin,Au.fin,if_neg (by omega),if_neg (by omega),Int.toNat_natCast,List.getD,List.getD,List.getElem?_eq_getElem h1,List.getElem?_eq_getElem h2] at this
  exact this
 have hA:a.A=b.A:=by
  refine List.ext_getElem (by rw[ha.len,hb.len,hl]) fun i h1 h2=>?_
  have hi:=(h (i:Nat) (by omega) (by rw[ha.len] at h1;omega)).2.2
  have e1:a.arcs (i:Nat)=a.A[i]:=by rw[Au.arcs,if_neg (by omega),Int.toNat_natCast,List.getD,List.getElem?_eq_getElem h1];rfl
  have e2:b.arcs (i:Nat)=b.A[i]:=by rw[Au.arcs,if_neg (by omega),Int.toNat_natCast,List.getD,List.getElem?_eq_getElem h2];rfl
  rw[← e1,← e2]
  refine zo1 (ha.arcs_ok _) (hb.arcs_ok _) fun c=>?_
  have:=zcw ha hb h hi (ha.rng (i:Nat) c)
  exact this.symm
 obtain⟨F,A⟩:=a
 obtain⟨F',A'⟩:=b
 simp only at hF hA
 rw[hF,hA]
end Go.Ax
namespace Go.Ax
def z7t:Option Arc→List Arc→Option Arc
 | p,[]=>p
 | _,x::l=>z7t (some x) l
theorem z2t:∀ (l:List Arc) (p:Option Arc) (x:Arc),z7t p (l++[x])=some x
 | [],_,_=>rfl
 | y::l,p,x=>by rw[List.cons_append,z7t,z2t l]
theorem zd9:∀ {l:List Arc} {p:Option Arc} {x:Arc},okA p l→x.1≤x.2.1→0≤x.2.2→(∀ y,z7t p l=some y→y.2.1<x.1∧¬ (y.2.1+1=x.1∧y.2.2=x.2.2))→okA p (l++[x])
 | [],p,x,_,h1,h2,h3=>⟨h1,h2,h3,trivial⟩
 | z::l,p,x,h,h1,h2,h3=>⟨h.1,h.2.1,h.2.2.1,zd9 h.2.2.2 h1 h2 h3⟩
theorem zii:∀ {l:List Arc} {p:Option Arc} {x:Arc},okA p (l++[x])→okA p l∧x.1≤x.2.1∧0≤x.2.2∧∀ y,z7t p l=some y→y.2.1<x.1∧¬ (y.2.1+1=x.1∧y.2.2=x.2.2)
 | [],p,x,h=>⟨trivial,h.1,h.2.1,h.2.2.1⟩
 | z::l,p,x,h=>by
  obtain⟨h1,h2⟩:=zii (l:=l) (p:=some z) h.2.2.2
  exact⟨⟨h.1,h.2.1,h.2.2.1,h1⟩,h2⟩
theorem zdn:∀ {l:List Arc} {p:Option Arc},okA p l→∀ (m:List Arc) (c:Int),nxt (l++m) c=if nxt l c=-1 then nxt m c else nxt l c
 | [],_,_,m,c=>by simp[nxt]
 | x::l,p,h,m,c=>by
  rw[List.cons_append,nxt,nxt]
  by_cases hc:x.1≤c∧c≤x.2.1
  · rw[if_pos hc,if_pos hc,if_neg (by have:=h.2.1;omega)]
  · rw[if_neg hc,if_neg hc]
    exact zdn h.2.2.2 m c
theorem zil:∀ {l:List Arc} {p:Option Arc} {y:Arc},okA p l→z7t p l=some y→(∀ z,p=some z→z=y∨z.2.1<y.1∨True)→∀ c,y.2.1<c→nxt l c=-1
 | [],_,_,_,_,_,_,_=>rfl
 | x::l,p,y,h,hl,_,c,hc=>by
  have h1:nxt l c=-1:=zil h.2.2.2 hl (fun _ _=>.inr (.inr trivial)) c hc
  have h2:x.2.1≤y.2.1:=by
   have key:∀ (l:List Arc) (x y:Arc),okA (some x) l→z7t (some x) l=some y→x.2.1≤y.2.1:=fun l=>by
    induction l with
    | nil=>intro x y _ h;rw[z7t] at h;cases h;exact Int.le_refl _
    | cons z l ih =>
     intro x y h hl
     have:=ih z y h.2.2.2 hl
     have:=(h.2.2.1 x rfl).1
     have:=h.1
     omega
   exact key l x y h.2.2.2 hl
  rw[nxt,if_neg (by omega)];exact h1
def ext (l:List Arc) (f t q:Int):List Arc:=match l.getLast? with
 | some y=>if y.2.1+1=f∧y.2.2=q then l.dropLast++[(y.1,t,q)] else l++[(f,t,q)]
 | none=>[(f,t,q)]
theorem ext_nil (f t q:Int):ext [] f t q=[(f,t,q)]:=rfl
theorem z3u (l:List Arc) (y:Arc) (f t q:Int):ext (l++[y]) f t q=if y.2.1+1=f∧y.2.2=q then l++[(y.1,t,q)] else l++[y]++[(f,t,q)]:=by
 rw[ext,List.getLast?_append]
 simp
theorem zgh {α:Type} (l:List α):l=[]∨∃ m x,l=m++[x]:=by
 rcases List.eq_nil_or_concat l with h|⟨m,x,h⟩
 · exact .inl h
 · exact .inr ⟨m,x,by rw[h,List.concat_eq_append]⟩
theorem zrc {l:List Arc} {f t q:Int} (h:okA none l) (hft:f≤t) (hq:0≤q) (hl:∀ y,z7t none l=some y→y.2.1<f):okA none (ext l f t q)∧z7t none (ext l f t q)≠none∧(∀ y,z7t none (ext l f t q)=some y→y.2.1=t) ∧
 ∀ c,nxt (ext l f t q) c=if f≤c∧c≤t then q else nxt l c:=by
 rcases zgh l with rfl|⟨m,y,rfl⟩
 · rw[ext_nil]
   refine⟨⟨hft,hq,(fun y hy=>by cases hy),trivial⟩,by simp[z7t],fun y hy=>?_,fun c=>?_⟩
   · simp only[z7t,Option.some.injEq] at hy;rw[← hy]
   · simp only[nxt]
 · have hy:=hl y (z2t _ _ _)
   obtain⟨h1,h2,h3,h4⟩:=zii h
   rw[z3u]
   have hm:∀ c,y.1≤c→nxt m c=-1:=fun c hc=>by
    rcases zgh m with rfl|⟨m',z,rfl⟩
    · rfl
    · have:=(h4 z (z2t _ _ _)).1
      exact zil h1 (z2t _ _ _) (fun _ _=>.inr (.inr trivial)) c (by omega)
   by_cases hj:y.2.1+1=f∧y.2.2=q
   · rw[if_pos hj]
     refine⟨zd9 h1 (by simp only;omega) (by simp only;omega) (fun z hz=>?_),by rw[z2t];simp,fun z hz=>?_,fun c=>?_⟩
     · have:=h4 z hz
       simp only
       exact⟨this.1,fun g=>this.2 ⟨g.1,by rw[g.2,hj.2]⟩⟩
     · rw[z2t] at hz;cases hz;rfl
     · rw[zdn h1,zdn h1]
       simp only[nxt]
       by_cases hc:f≤c∧c≤t
       · rw[if_pos hc,if_pos (hm c (by omega)),if_pos (by omega)]
       · rw[if_neg hc]
         by_cases hmc:nxt m c=-1
         · rw[if_pos hmc,if_pos hmc]
           by_cases hc2:y.1≤c∧c≤y.2.1
           · rw[if_pos hc2,if_pos (by omega),hj.2]
           · rw[if_neg hc2,if_neg (by omega)]
         · rw[if_neg hmc,if_neg hmc]
   · rw[if_neg hj]
     refine⟨zd9 h (by simpa using hft) (by simpa using hq) (fun z hz=>?_),by rw[z2t];simp,fun z hz=>?_,fun c=>?_⟩
     · rw[z2t] at hz
       cases hz
       exact⟨hy,hj⟩
     · rw[z2t] at hz;cases hz;rfl
     · rw[zdn h]
       simp only[nxt]
       by_cases hc:f≤c∧c≤t
       · have:nxt (m++[y]) c=-1:=zil h (z2t _ _ _) (fun _ _=>.inr (.inr trivial)) c (by omega)
         rw[if_pos hc,if_pos this,if_pos hc]
       · rw[if_neg hc,if_neg hc]
         split
         · rename_i h5;rw[h5]
         · rfl
abbrev Edge (K:Type):=Int × Int × K
def kx {K:Type}:List (Edge K)→Int→Option K
 | [],_=>none
 | e::l,c=>if e.1≤c∧c≤e.2.1 then some e.2.2 else kx l c
def okE {K:Type}:Int→List (Edge K)→Prop
 | _,[]=>True
 | a,e::l=>a≤e.1∧e.1≤e.2.1∧e.2.1≤1114111∧okE (e.2.1+1) l
theorem zlx {K:Type}:∀ {l:List (Edge K)} {a:Int},okE a l→∀ c,c<a→kx l c=none
 | [],_,_,_,_=>rfl
 | e::l,a,h,c,hc=>by
  rw[kx,if_neg (by have:=h.1;omega)]
  exact zlx h.2.2.2 c (by have:=h.1;have:=h.2.1;omega)
section
variable {K:Type} [DecidableEq K]
def z3y (k:K):List K→Nat
 | []=>0
 | x::l=>if x=k then 0 else z3y k l+1
theorem z3l {k:K}:∀ {l:List K},k∈l→z3y k l<l.length∧l[z3y k l]? =some k
 | [],h=>by simp at h
 | x::l,h=>by
  rw[z3y]
  by_cases hx:x=k
  · rw[if_pos hx];exact⟨by simp,by simp[hx]⟩
  · rw[if_neg hx]
    rw[List.mem_cons] at h
    have:=z3l (h.resolve_left fun g=>hx g.symm)
    exact⟨by rw[List.length_cons];omega,by rw[List.getElem?_cons_succ];exact this.2⟩
theorem z3o {k:K}:∀ {l:List K},k∉l→z3y k l=l.length
 | [],_=>rfl
 | x::l,h=>by
  rw[List.mem_cons,not_or] at h
  rw[z3y,if_neg (fun g=>h.1 g.symm),z3o h.2];rfl
theorem zau {k:K}:∀ {l m:List K},k∈l→z3y k (l++m)=z3y k l
 | [],m,h=>by simp at h
 | x::l,m,h=>by
  rw[List.cons_append,z3y,z3y]
  by_cases hx:x=k
  · rw[if_pos hx,if_pos hx]
  · rw[if_neg hx,if_neg hx,zau ((List.mem_cons.1 h).resolve_left fun g=>hx g.symm)]
def z6n (ks:List K) (k:K):List K:=if k∈ks then ks else ks++[k]
theorem zam (ks:List K) (k:K):k∈z6n ks k:=by rw[z6n];split <;> simp[*]
theorem zh6 (ks:List K) (k:K):z3y k (z6n ks k)=z3y k ks:=by
 rw[z6n];split
 · rfl
 · rename_i h
   rw[z3o h]
   have key:∀ l:List K,k∉l→z3y k (l++[k])=l.length:=fun l=>by
    induction l with
    | nil=>intro _;simp[z3y]
    | cons x l ih =>
     intro h
     rw[List.mem_cons,not_or] at h
     rw[List.cons_append,z3y,if_neg (fun g=>h.1 g.symm),ih h.2];rfl
   exact key ks h
theorem z7o (ks:List K) (k:K):∃ r,z6n ks k=ks++r:=by
 rw[z6n];split
 · exact⟨[],by simp⟩
 · exact⟨[k],rfl⟩
theorem zcu {ks:List K} {k:K} (h:ks.Nodup):(z6n ks k).Nodup:=by
 rw[z6n];split
 · exact h
 · rename_i hk
   rw[List.nodup_append]
   exact⟨h,by simp,fun a ha b hb=>by rw[List.mem_singleton] at hb;subst hb;exact fun g=>hk (g▸ha)⟩
def z5n (s:List K × List Arc) (e:Edge K):List K × List Arc:=(z6n s.1 e.2.2,ext s.2 e.1 e.2.1 (z3y e.2.2 s.1:Nat))
def exL (fin:K→Bool) (edg:K→List (Edge K)) (lim:Nat):Nat→Nat→List K→Au→Option Au
 | 0,_,_,_=>none
 | n+1,i,ks,a=>match ks[i]? with
  | none=>some a
  | some k=>if lim<((edg k).foldl z5n (ks,[])).1.length then none else exL fin edg lim n (i+1) ((edg k).foldl z5n (ks,[])).1 ⟨a.F++[fin k],a.A++[((edg k).foldl z5n (ks,[])).2]⟩
end
end Go.Ax
namespace Go.Ax
section
variable {K:Type} [DecidableEq K]
theorem ze2 {l:List K} (h:l.Nodup) {i:Nat} {k:K} (hi:l[i]? =some k):z3y k l=i:=by
 have hm:k∈l:=List.mem_of_getElem? hi
 obtain⟨h1,h2⟩:=z3l hm
 obtain⟨h3,h4⟩:=List.getElem?_eq_some_iff.1 hi
 obtain⟨h5,h6⟩:=List.getElem?_eq_some_iff.1 h2
 exact(List.getElem_inj (h₀:=h5) (h₁:=h3) h).1 (h6.trans h4.symm)
structure Fold (es:List (Edge K)) (a:Int) (ks:List K) (l:List Arc) (r:List K × List Arc):Prop where
 pre:∃ e,r.1=ks++e
 nod:ks.Nodup→r.1.Nodup
 ok:okA none r.2
 nx:∀ c,nxt r.2 c=match kx es c with|some k=>((z3y k r.1:Nat):Int)|none=>nxt l c
 mem:∀ c k,kx es c=some k→k∈r.1
 bfs:∀ j k,ks.length≤j→r.1[j]? =some k→∃ c,a≤c∧kx es c=some k∧∀ c' k',c'<c→kx es c'=some k'→z3y k' r.1<j
theorem znv:∀ (es:List (Edge K)) (a:Int) (ks:List K) (l:List Arc),okE a es→okA none l→(∀ y,z7t none l=some y→y.2.1<a)→Fold es a ks l (es.foldl z5n (ks,l))
 | [],a,ks,l,_,h2,_=>⟨⟨[],by simp⟩,fun h=>h,h2,fun c=>rfl,fun c k h=>by simp[kx] at h,fun j k h1 h2=>by
     rw[List.foldl_nil] at h2
     have:=(List.getElem?_eq_some_iff.1 h2).1
     simp only at this;omega⟩
 | e::es,a,ks,l,h1,h2,h3=>by
  have hx:=zrc (q:=(z3y e.2.2 ks:Nat)) h2 h1.2.1 (by omega) (fun y hy=>by have:=h3 y hy;have:=h1.1;omega)
  obtain⟨x1,x2,x3,x4⟩:=hx
  have ih:=znv es (e.2.1+1) (z6n ks e.2.2) (ext l e.1 e.2.1 (z3y e.2.2 ks:Nat)) h1.2.2.2 x1 (fun y hy=>by rw[x3 y hy];omega)
  rw[List.foldl_cons]
  change Fold (e::es) a ks l (es.foldl z5n (z6n ks e.2.2,ext l e.1 e.2.1 (z3y e.2.2 ks:Nat)))
  obtain⟨g1,g2,g3,g4,g5,g6⟩:=ih
  generalize es.foldl z5n (z6n ks e.2.2,ext l e.1 e.2.1 (z3y e.2.2 ks:Nat))=r at *
  obtain⟨q1,hq1⟩:=g1
  obtain⟨q2,hq2⟩:=z7o ks e.2.2
  have hix:z3y e.2.2 r.1=z3y e.2.2 ks:=by rw[hq1,zau (zam ks e.2.2),zh6]
  have hem:e.2.2∈r.1:=by rw[hq1];exact List.mem_append_left _ (zam _ _)
  refine⟨⟨q2++q1,by rw[hq1,hq2,List.append_assoc]⟩,fun h=>g2 (zcu h),g3,fun c=>?_,fun c k h=>?_,fun j k hj hk=>?_⟩
  · rw[g4 c,kx]
    by_cases hc:e.1≤c∧c≤e.2.1
    · rw[if_pos hc,zlx h1.2.2.2 c (by omega)]
      simp only
      rw[x4 c,if_pos hc,hix]
    · rw[if_neg hc]
      cases kx es c with
      | some k=>rfl
      | none=>simp only;rw[x4 c,if_neg hc]
  · rw[kx] at h
    split at h
    · simp only[Option.some.injEq] at h;rw[← h];exact hem
    · exact g5 c k h
  · by_cases hj2:(z6n ks e.2.2).length≤j
    · obtain⟨c,c1,c2,c3⟩:=g6 j k hj2 hk
      refine⟨c,by have:=h1.1;have:=h1.2.1;omega,by rw[kx,if_neg (by omega)];exact c2,fun c' k' hc' hk'=>?_⟩
      rw[kx] at hk'
      split at hk'
      · simp only[Option.some.injEq] at hk'
        subst hk'
        have:=(z3l (zam ks e.2.2)).1
        rw[zh6] at this
        rw[hix];omega
      · exact c3 c' k' hc' hk'
    · -- the new key of this edge
      have hnew:e.2.2∉ks:=fun g=>hj2 (by rw[z6n,if_pos g];exact hj)
      have hadd:z6n ks e.2.2=ks++[e.2.2]:=by rw[z6n,if_neg hnew]
      rw[hadd,List.length_append,List.length_singleton] at hj2
      obtain rfl:j=ks.length:=by omega
      have hke:k=e.2.2:=by
       rw[hq1,hadd,List.append_assoc,List.getElem?_append_right (Nat.le_refl _),Nat.sub_self] at hk
       simpa using hk.symm
      refine⟨e.1,h1.1,by rw[kx,if_pos ⟨Int.le_refl _,h1.2.1⟩,hke],fun c' k' hc' hk'=>?_⟩
      rw[kx,if_neg (by omega),zlx h1.2.2.2 c' (by have:=h1.2.1;omega)] at hk'
      cases hk'
def zjd (fin:K→Bool) (edg:K→List (Edge K)):Option K→List Int→Bool
 | none,_=>false
 | some k,[]=>fin k
 | some k,c::w=>zjd fin edg (kx (edg k) c) w
structure Ex (fin:K→Bool) (edg:K→List (Edge K)) (first:K) (i:Nat) (ks:List K) (a:Au):Prop where
 le:i≤ks.length
 fl:a.F.length=i
 al:a.A.length=i
 hd:ks[0]? =some first
 nod:ks.Nodup
 fin_:∀ q k,q<i→ks[q]? =some k→a.F[q]? =some (fin k)
 arc:∀ q k,q<i→ks[q]? =some k→∃ l,a.A[q]? =some l∧okA none l∧(∀ c,nxt l c=match kx (edg k) c with|some k'=>((z3y k' ks:Nat):Int)|none=> -1)∧∀ c k',kx (edg k) c=some k'→k'∈ks
 bfs:∀ j:Nat,1≤j→j<ks.length→∃ q k c,q<i∧q<j∧ks[q]? =some k∧(∃ k',kx (edg k) c=some k'∧ks[j]? =some k') ∧
  ∀ q' k0 c' k',(q'<q∨q'=q∧c'<c)→ks[q']? =some k0→kx (edg k0) c'=some k'→z3y k' ks<j
theorem zo5 {fin:K→Bool} {edg:K→List (Edge K)} {first:K} {i:Nat} {ks:List K} {a:Au} (h:Ex fin edg first i ks a) {k:K} (hk:ks[i]? =some k) (he:okE 0 (edg k)) :
 Ex fin edg first (i+1) ((edg k).foldl z5n (ks,[])).1 ⟨a.F++[fin k],a.A++[((edg k).foldl z5n (ks,[])).2]⟩:=by
 have hf:=znv (edg k) 0 ks [] he trivial (fun y hy=>by cases hy)
 generalize (edg k).foldl z5n (ks,[])=r at *
 obtain⟨⟨e,hp⟩,g2,g3,g4,g5,g6⟩:=hf
 obtain⟨hi,_⟩:=List.getElem?_eq_some_iff.1 hk
 have hget:∀ {q:Nat} {x:K},q<ks.length→r.1[q]? =some x→ks[q]? =some x:=fun {q x} hq hx=>by
  rw[hp,List.getElem?_append_left hq] at hx;exact hx
 have hget2:∀ {q:Nat} {x:K},ks[q]? =some x→r.1[q]? =some x:=fun {q x} hx=>by
  rw[hp,List.getElem?_append_left (List.getElem?_eq_some_iff.1 hx).1];exact hx
 have hix:∀ {x:K},x∈ks→z3y x r.1=z3y x ks:=fun {x} hx=>by rw[hp,zau hx]
 have hmem:∀ {x:K},x∈ks→x∈r.1:=fun {x} hx=>by rw[hp];exact List.mem_append_left _ hx
 have hkr:=hget2 hk
 refine⟨?_,by simp[h.fl],by simp[h.al],hget2 h.hd,g2 h.nod,fun q x hq hx=>?_,fun q x hq hx=>?_,fun j hj1 hj2=>?_⟩
 · rw[hp,List.length_append];omega
 · by_cases hqi:q<i
   · have:=h.fin_ q x hqi (hget (by omega) hx)
     simp only
     rw[List.getElem?_append_left (by rw[h.fl];omega)];exact this
   · obtain rfl:q=i:=by omega
     rw[hkr] at hx;cases hx
     simp only
     rw[List.getElem?_append_right (by rw[h.fl];omega),h.fl,Nat.sub_self];rfl
 · by_cases hqi:q<i
   · obtain⟨l,l1,l2,l3,l4⟩:=h.arc q x hqi (hget (by omega) hx)
     refine⟨l,?_,l2,fun c=>?_,fun c k' hk'=>hmem (l4 c k' hk')⟩
     · simp only
       rw[List.getElem?_append_left (by rw[h.al];omega)];exact l1
     · rw[l3 c]
       cases hc:kx (edg x) c with
       | none=>rfl
       | some k'=>simp only;rw[hix (l4 c k' hc)]
   · obtain rfl:q=i:=by omega
     rw[hkr] at hx;cases hx
     refine⟨r.2,?_,g3,fun c=>?_,fun c k' hk'=>g5 c k' hk'⟩
     · simp only
       rw[List.getElem?_append_right (by rw[h.al];omega),h.al,Nat.sub_self];rfl
     · rw[g4 c];rfl
 · by_cases hjk:j<ks.length
   · obtain⟨q,x,c,q1,q2,q3,⟨k',k1,k2⟩,q4⟩:=h.bfs j hj1 hjk
     refine⟨q,x,c,by omega,q2,hget2 q3,⟨k',k1,hget2 k2⟩,fun q' k0 c' k2' hb h0 h1=>?_⟩
     have hq':q'<ks.length:=by have:=(List.getElem?_eq_some_iff.1 q3).1;omega
     have h0':=hget hq' h0
     have hm:k2'∈ks:=by
      obtain⟨l,_,_,_,l4⟩:=h.arc q' k0 (by omega) h0'
      exact l4 c' k2' h1
     rw[hix hm]
     exact q4 q' k0 c' k2' hb h0' h1
   · obtain⟨k',hk'⟩:∃ k',r.1[j]? =some k':=⟨_,List.getElem?_eq_getElem hj2⟩
     obtain⟨c,c1,c2,c3⟩:=g6 j k' (by omega) hk'
     refine⟨i,k,c,by omega,by omega,hkr,⟨k',c2,hk'⟩,fun q' k0 c' k2' hb h0 h1=>?_⟩
     rcases hb with hb|⟨rfl,hb⟩
     · have h0':=hget (by omega) h0
       obtain⟨l,_,_,_,l4⟩:=h.arc q' k0 hb h0'
       have hm:=l4 c' k2' h1
       rw[hix hm]
       have:=(z3l hm).1
       omega
     · rw[hkr] at h0;cases h0
       exact c3 c' k2' hb h1
theorem zm9 {fin:K→Bool} {edg:K→List (Edge K)} {first:K} {lim:Nat} (he:∀ k,okE 0 (edg k)):∀ (n i:Nat) (ks:List K) (a b:Au),Ex fin edg first i ks a→exL fin edg lim n i ks a=some b→∃ ks',Ex fin edg first ks'.length ks' b
 | 0,i,ks,a,b,_,h=>by rw[exL] at h;cases h
 | n+1,i,ks,a,b,hx,h=>by
  rw[exL] at h
  split at h
  · rename_i hn
    simp only[Option.some.injEq] at h
    subst h
    have:ks.length≤i:=by simpa using hn
    have:=hx.le
    obtain rfl:i=ks.length:=by omega
    exact⟨ks,hx⟩
  · rename_i k hk
    split at h
    · cases h
    · exact zm9 he n _ _ _ b (zo5 hx hk (he k)) h
theorem zy2 (fin:K→Bool) (edg:K→List (Edge K)) (first:K):Ex fin edg first 0 [first] ⟨[],[]⟩ :=
 ⟨Nat.zero_le _,rfl,rfl,rfl,by simp,fun q k h=>absurd h (Nat.not_lt_zero _),fun q k h=>absurd h (Nat.not_lt_zero _),fun j h1 h2=>by simp at h2;omega⟩
theorem zci {fin:K→Bool} {edg:K→List (Edge K)} {first:K} {ks:List K} {a:Au} (h:Ex fin edg first ks.length ks a):∀ (w:List Int) (q:Nat) (k:K),ks[q]? =some k→a.acc (q:Nat) w=zjd fin edg (some k) w
 | [],q,k,hk=>by
  have hq:=(List.getElem?_eq_some_iff.1 hk).1
  rw[Au.acc_nil,Au.fin,if_neg (by omega),Int.toNat_natCast,List.getD,h.fin_ q k hq hk,zjd];rfl
 | c::w,q,k,hk=>by
  have hq:=(List.getElem?_eq_some_iff.1 hk).1
  obtain⟨l,l1,l2,l3,l4⟩:=h.arc q k hq hk
  have e1:a.nx (q:Nat) c=nxt l c:=by rw[Au.nx,Au.arcs,if_neg (by omega),Int.toNat_natCast,List.getD,l1];rfl
  rw[Au.acc_cons,zjd,e1,l3 c]
  cases hc:kx (edg k) c with
  | none=>simp only;rw[a.acc_neg w (by decide),zjd]
  | some k'=>simp only;exact zci h w _ k' (z3l (l4 c k' hc)).2
theorem zvm {fin:K→Bool} {edg:K→List (Edge K)} {first:K} {ks:List K} {a:Au} (h:Ex fin edg first ks.length ks a)
 (hd:∀ x∈ks,∀ y∈ks,(∀ w,zjd fin edg (some x) w=zjd fin edg (some y) w)→x=y) (hl:∀ x∈ks,∃ w,zjd fin edg (some x) w=true):Can a:=by
 have hpos:0<ks.length:=(List.getElem?_eq_some_iff.1 h.hd).1
 have hnx:∀ (q:Nat) (k:K) (c:Int),ks[q]? =some k→a.nx (q:Nat) c=match kx (edg k) c with|some k'=>((z3y k' ks:Nat):Int)|none=> -1:=fun q k c hk=>by
  obtain⟨l,l1,l2,l3,l4⟩:=h.arc q k (List.getElem?_eq_some_iff.1 hk).1 hk
  rw[Au.nx,Au.arcs,if_neg (by omega),Int.toNat_natCast,List.getD,l1]
  exact l3 c
 have hout:∀ (q c:Int),q<0∨(ks.length:Int)≤q→a.nx q c=-1:=fun q c hq=>by
  rw[Au.nx,Au.arcs]
  split
  · rfl
  · rw[List.getD,List.getElem?_eq_none (by rw[h.al];omega)];rfl
 have hget:∀ q:Int,0≤q→q<ks.length→∃ k,ks[q.toNat]? =some k:=fun q h0 h1=>⟨_,List.getElem?_eq_getElem (by omega)⟩
 refine⟨by rw[h.fl];exact hpos,by rw[h.al,h.fl],fun l hl'=>?_,fun q c=>?_,fun j j1 j2=>?_,fun i j i0 i1 j0 j1 hw=>?_,fun i i0 i1=>?_⟩
 · obtain⟨q,hq⟩:=List.mem_iff_getElem?.1 hl'
   have hq1:q<ks.length:=by have:=(List.getElem?_eq_some_iff.1 hq).1;rw[h.al] at this;exact this
   obtain⟨k,hk⟩:∃ k,ks[q]? =some k:=⟨_,List.getElem?_eq_getElem hq1⟩
   obtain⟨l',l1,l2,_,_⟩:=h.arc q k hq1 hk
   rw[hq] at l1;cases l1;exact l2
 · rw[h.fl]
   by_cases hq:q<0∨(ks.length:Int)≤q
   · rw[hout q c hq];omega
   · obtain⟨k,hk⟩:=hget q (by omega) (by omega)
     have:=hnx q.toNat k c hk
     rw[show ((q.toNat:Nat):Int)=q by omega] at this
     rw[this]
     obtain⟨l,_,_,_,l4⟩:=h.arc q.toNat k (List.getElem?_eq_some_iff.1 hk).1 hk
     cases hc:kx (edg k) c with
     | none=>simp only;omega
     | some k'=>simp only;have:=(z3l (l4 c k' hc)).1;omega
 · rw[h.fl] at j2
   obtain⟨q,k,c,q1,q2,q3,⟨k',k1,k2⟩,q4⟩:=h.bfs j.toNat (by omega) (by omega)
   refine⟨(q:Nat),c,by omega,by omega,?_,fun i' c' hi' hb=>?_⟩
   · rw[hnx q k c q3,k1]
     simp only
     rw[ze2 h.nod k2];omega
   · by_cases hi2:(ks.length:Int)≤i'
     · rw[hout i' c' (.inr hi2)];omega
     · obtain⟨k0,hk0⟩:=hget i' hi' (by omega)
       have:=hnx i'.toNat k0 c' hk0
       rw[show ((i'.toNat:Nat):Int)=i' by omega] at this
       rw[this]
       cases hc:kx (edg k0) c' with
       | none=>simp only;omega
       | some k2' =>
        simp only
        have:=q4 i'.toNat k0 c' k2' (by unfold before at hb;omega) hk0 hc
        omega
 · rw[h.fl] at i1 j1
   obtain⟨x,hx⟩:=hget i i0 i1
   obtain⟨y,hy⟩:=hget j j0 j1
   have hxy:=hd x (List.mem_of_getElem? hx) y (List.mem_of_getElem? hy) fun w=>by
    have e1:=zci h w i.toNat x hx
    have e2:=zci h w j.toNat y hy
    rw[show ((i.toNat:Nat):Int)=i by omega] at e1
    rw[show ((j.toNat:Nat):Int)=j by omega] at e2
    rw[← e1,← e2,hw w]
   have e1:=ze2 h.nod hx
   have e2:=ze2 h.nod hy
   rw[hxy] at e1
   omega
 · rw[h.fl] at i1
   obtain⟨x,hx⟩:=hget i i0 i1
   obtain⟨w,hw⟩:=hl x (List.mem_of_getElem? hx)
   refine⟨w,?_⟩
   have e1:=zci h w i.toNat x hx
   rw[show ((i.toNat:Nat):Int)=i by omega] at e1
   rw[e1,hw]
end
end Go.Ax
namespace Go.Ax
def zri (n:Int) (x:Arc):Bool:=decide (x.1<0)||decide (x.1>x.2.1)||decide (x.2.1>1114111)||decide (x.2.2<0)||decide (x.2.2≥n)
def zre (p x:Arc):Bool:=decide (x.1≤p.2.1)||(decide (x.1=p.2.1+1)&&decide (x.2.2=p.2.2))
def zhj (n:Int):Option Arc→List Arc→Int
 | _,[]=>0
 | p,x::l=>if zri n x=true then 8 else match p with
  | some y=>if zre y x=true then 6 else zhj n (some x) l
  | none=>zhj n (some x) l
theorem zbk (n:Int) (p:Option Arc) (x:Arc) (l:List Arc):zhj n p (x::l)=if zri n x=true then 8 else match p with
 | some y=>if zre y x=true then 6 else zhj n (some x) l
 | none=>zhj n (some x) l:=by cases p <;> rfl
def zcc (n:Int):List (List Arc)→Int
 | []=>0
 | l::A=>if zhj n none l≠0 then zhj n none l else zcc n A
def vAu (a:Au):Int:=if 256<a.F.length then 2 else if a.F.length=0∨a.A.length≠a.F.length then 15 else zcc a.F.length a.A
theorem zee:∀ {n:Int} {l:List Arc} {p:Option Arc},zhj n p l=0→okA p l∧∀ x∈l,0≤x.1∧x.1≤x.2.1∧x.2.1≤1114111∧0≤x.2.2∧x.2.2<n
 | n,[],p,_=>⟨trivial,by simp⟩
 | n,x::l,p,h=>by
  rw[zbk] at h
  split at h
  · cases h
  rename_i hb
  simp only[zri,Bool.or_eq_true,decide_eq_true_eq,not_or] at hb
  have hx:0≤x.1∧x.1≤x.2.1∧x.2.1≤1114111∧0≤x.2.2∧x.2.2<n:=by omega
  have fin:zhj n (some x) l=0→∀ y∈x::l,0≤y.1∧y.1≤y.2.1∧y.2.1≤1114111∧0≤y.2.2∧y.2.2<n:=fun h y hy=>by
   rw[List.mem_cons] at hy
   rcases hy with rfl|hy
   · exact hx
   · exact(zee h).2 y hy
  cases p with
  | none =>
   simp only at h
   exact⟨⟨hx.2.1,hx.2.2.2.1,(fun y hy=>by cases hy),(zee h).1⟩,fin h⟩
  | some y =>
   simp only at h
   split at h
   · cases h
   · rename_i ho
     simp only[zre,Bool.or_eq_true,Bool.and_eq_true,decide_eq_true_eq,not_or,not_and] at ho
     refine⟨⟨hx.2.1,hx.2.2.2.1,fun z hz=>?_,(zee h).1⟩,fin h⟩
     cases hz
     refine⟨by omega,fun g=>?_⟩
     exact ho.2 (by omega) g.2.symm
theorem zj4:∀ {n:Int} {A:List (List Arc)},zcc n A=0→∀ l∈A,zhj n none l=0
 | n,[],_,l,hl=>by simp at hl
 | n,m::A,h,l,hl=>by
  rw[zcc] at h
  split at h
  · rename_i h1;exact absurd h h1
  · rename_i h1
    rw[List.mem_cons] at hl
    rcases hl with rfl|hl
    · exact Classical.not_not.1 h1
    · exact zj4 h l hl
structure y01 (a:Au):Prop where
 few:a.F.length≤256
 pos:0<a.F.length
 len:a.A.length=a.F.length
 arc:∀ l∈a.A,okA none l∧∀ x∈l,0≤x.1∧x.1≤x.2.1∧x.2.1≤1114111∧0≤x.2.2∧x.2.2<a.F.length
theorem ze8 {a:Au} (h:vAu a=0):y01 a:=by
 rw[vAu] at h
 split at h
 · cases h
 split at h
 · cases h
 · exact⟨by omega,by omega,by omega,fun l hl=>zee (zj4 h l hl)⟩
end Go.Ax
namespace Go.Ax
def zeg (c:Int):List Arc→Nat
 | []=>0
 | x::l=>if x.2.1<c then zeg c l+1 else 0
theorem zno (c:Int):∀ l:List Arc,zeg c l≤l.length
 | []=>Nat.le_refl _
 | x::l=>by rw[zeg];split <;> simp[zno c l]
theorem zs5 {c:Int}:∀ {l:List Arc} {p:Nat} {x:Arc},p<zeg c l→l[p]? =some x→x.2.1<c
 | [],p,x,h,_=>absurd h (Nat.not_lt_zero _)
 | y::l,p,x,h,hx=>by
  rw[zeg] at h
  split at h
  · rename_i hy
    cases p with
    | zero=>simp only[List.getElem?_cons_zero,Option.some.injEq] at hx;rw[← hx];exact hy
    | succ p=>exact zs5 (l:=l) (p:=p) (by omega) (by rw[List.getElem?_cons_succ] at hx;exact hx)
  · exact absurd h (Nat.not_lt_zero _)
theorem zrk {c:Int}:∀ {l:List Arc} {x:Arc},l[zeg c l]? =some x→¬ x.2.1<c
 | [],x,h=>by simp at h
 | y::l,x,h=>by
  rw[zeg] at h
  split at h
  · rw[List.getElem?_cons_succ] at h;exact zrk h
  · rename_i hy
    simp only[List.getElem?_cons_zero,Option.some.injEq] at h;rw[← h];exact hy
theorem zjp:∀ {l:List Arc} {p:Option Arc},okA p l→∀ (i j:Nat) (x y:Arc),i≤j→l[i]? =some x→l[j]? =some y→x.2.1≤y.2.1
 | [],_,_,i,j,x,y,_,h,_=>by simp at h
 | z::l,p,h,i,j,x,y,hij,hx,hy=>by
  have low:∀ (l:List Arc) (z:Arc),okA (some z) l→∀ (j:Nat) (y:Arc),l[j]? =some y→z.2.1≤y.2.1:=fun l=>by
   induction l with
   | nil=>intro z _ j y h;simp at h
   | cons w l ih =>
    intro z h j y hy
    have h1:=(h.2.2.1 z rfl).1
    have h2:=h.1
    cases j with
    | zero=>simp only[List.getElem?_cons_zero,Option.some.injEq] at hy;rw[← hy];omega
    | succ j=>rw[List.getElem?_cons_succ] at hy;have:=ih w h.2.2.2 j y hy;omega
  cases i with
  | zero =>
   simp only[List.getElem?_cons_zero,Option.some.injEq] at hx
   subst hx
   cases j with
   | zero=>simp only[List.getElem?_cons_zero,Option.some.injEq] at hy;rw[hy];exact Int.le_refl _
   | succ j=>rw[List.getElem?_cons_succ] at hy;exact low l _ h.2.2.2 j y hy
  | succ i =>
   obtain⟨j,rfl⟩:∃ j',j=j'+1:=⟨j-1,by omega⟩
   rw[List.getElem?_cons_succ] at hx hy
   exact zjp h.2.2.2 i j x y (by omega) hx hy
theorem zvp {c:Int} {l:List Arc} {i:Nat} (hi:i≤l.length) (h1:∀ p x,p<i→l[p]? =some x→x.2.1<c) (h2:∀ x,l[i]? =some x→¬ x.2.1<c):i=zeg c l:=by
 have hl:=zno c l
 rcases Nat.lt_trichotomy i (zeg c l) with h|h|h
 · obtain⟨x,hx⟩:∃ x,l[i]? =some x:=⟨_,List.getElem?_eq_getElem (by omega)⟩
   exact absurd (zs5 h hx) (h2 x hx)
 · exact h
 · obtain⟨x,hx⟩:∃ x,l[zeg c l]? =some x:=⟨_,List.getElem?_eq_getElem (by omega)⟩
   exact absurd (h1 _ x h hx) (zrk hx)
theorem znx {c:Int}:∀ {l:List Arc} {p:Option Arc},okA p l→nxt l c=match l[zeg c l]? with|none=> -1|some x=>if c<x.1 then -1 else x.2.2
 | [],_,_=>rfl
 | x::l,p,h=>by
  rw[zeg,nxt]
  by_cases hx:x.2.1<c
  · rw[if_pos hx,if_neg (by omega),List.getElem?_cons_succ]
    exact znx h.2.2.2
  · rw[if_neg hx,List.getElem?_cons_zero]
    simp only
    by_cases hc:c<x.1
    · rw[if_neg (by omega),if_pos hc,z9x h.2.2.2 c (by omega)]
    · rw[if_pos (by omega),if_neg hc]
end Go.Ax
namespace Go.Ax
def clA (cl:List Int) (q:Int):Int:=if q<0 then -1 else cl.getD q.toNat 0
def z9q (cl:List Int) (out:List Arc) (x:Arc):List Arc:=if clA cl x.2.2<0 then out else ext out x.1 x.2.1 (clA cl x.2.2)
def byC (cl:List Int) (l:List Arc):List Arc:=l.foldl (z9q cl) []
theorem z9s (l:List Arc) (f t q:Int):(ext l f t q).length≤l.length+1:=by
 rcases zgh l with rfl|⟨m,y,rfl⟩
 · simp[ext_nil]
 · rw[z3u];split <;> simp
theorem ext_mem {l:List Arc} {f t q:Int} {y:Arc} (h:y∈ext l f t q):y.2.1=t∨y∈l:=by
 rcases zgh l with rfl|⟨m,z,rfl⟩
 · rw[ext_nil,List.mem_singleton] at h;exact .inl (by rw[h])
 · rw[z3u] at h
   split at h
   · rw[List.mem_append,List.mem_singleton] at h
     rcases h with h|h
     · exact .inr (List.mem_append_left _ h)
     · exact .inl (by rw[h])
   · rw[List.mem_append,List.mem_singleton] at h
     rcases h with h|h
     · exact .inr h
     · exact .inl (by rw[h])
end Go.Ax
namespace Go.Ax
def zou (i:Nat) (xss:List (List Int)) (x:Arc):List (List Int):=xss.set x.2.2.toNat (xss.getD x.2.2.toNat []++[(i:Int)])
def zrw:Nat→List (List Arc)→List (List Int)→List (List Int)
 | _,[],xss=>xss
 | i,l::A,xss=>zrw (i+1) A (l.foldl (zou i) xss)
theorem zj9 (i:Nat) (xss:List (List Int)) (x:Arc):(zou i xss x).length=xss.length:=by simp[zou]
theorem zi5 (i:Nat):∀ (l:List Arc) (xss:List (List Int)),(l.foldl (zou i) xss).length=xss.length
 | [],_=>rfl
 | x::l,xss=>by rw[List.foldl_cons,zi5 i l,zj9]
theorem zq0 {i:Nat} {xss:List (List Int)} {x:Arc} {s:Nat} (hx:x.2.2.toNat<xss.length) (p:Int):p∈(zou i xss x).getD s []↔p∈xss.getD s []∨(x.2.2.toNat=s∧p=i):=by
 rw[zou,List.getD,List.getD]
 by_cases h:x.2.2.toNat=s
 · subst h
   rw[List.getElem?_set_self hx]
   simp[List.getD]
 · rw[List.getElem?_set_ne h]
   simp[h]
theorem zjk {i s:Nat} {p:Int}:∀ {l:List Arc} {xss:List (List Int)},(∀ x∈l,x.2.2.toNat<xss.length)→(p∈(l.foldl (zou i) xss).getD s []↔p∈xss.getD s []∨(∃ x∈l,x.2.2.toNat=s)∧p=i)
 | [],xss,_=>by simp
 | x::l,xss,h=>by
  rw[List.foldl_cons,zjk (fun y hy=>by rw[zj9];exact h y (by simp[hy])),zq0 (h x (by simp))]
  constructor
  · rintro((h1|⟨h1,h2⟩)|⟨⟨y,hy,h1⟩,h2⟩)
    · exact .inl h1
    · exact .inr ⟨⟨x,by simp,h1⟩,h2⟩
    · exact .inr ⟨⟨y,by simp[hy],h1⟩,h2⟩
  · rintro(h1|⟨⟨y,hy,h1⟩,h2⟩)
    · exact .inl (.inl h1)
    · rw[List.mem_cons] at hy
      rcases hy with rfl|hy
      · exact .inl (.inr ⟨h1,h2⟩)
      · exact .inr ⟨⟨y,hy,h1⟩,h2⟩
theorem zia {s:Nat} {p:Int}:∀ {A:List (List Arc)} {i:Nat} {xss:List (List Int)},(∀ l∈A,∀ x∈l,x.2.2.toNat<xss.length)→(p∈(zrw i A xss).getD s []↔p∈xss.getD s []∨∃ k l x,A[k]? =some l∧x∈l∧x.2.2.toNat=s∧p=((i+k:Nat):Int))
 | [],i,xss,_=>by simp[zrw]
 | l::A,i,xss,h=>by
  rw[zrw,zia (fun m hm x hx=>by rw[zi5];exact h m (by simp[hm]) x hx),zjk (h l (by simp))]
  constructor
  · rintro((h1|⟨⟨x,hx,h1⟩,h2⟩)|⟨k,m,x,h1,h2,h3,h4⟩)
    · exact .inl h1
    · exact .inr ⟨0,l,x,rfl,hx,h1,by simpa using h2⟩
    · exact .inr ⟨k+1,m,x,by simpa using h1,h2,h3,by rw[h4,show i+1+k=i+(k+1) by omega]⟩
  · rintro(h1|⟨k,m,x,h1,h2,h3,h4⟩)
    · exact .inl (.inl h1)
    · cases k with
      | zero =>
       simp at h1;subst h1
       exact .inl (.inr ⟨⟨x,h2,h3⟩,by simpa using h4⟩)
      | succ k=>exact .inr ⟨k,m,x,by simpa using h1,h2,h3,by rw[h4,show i+1+k=i+(k+1) by omega]⟩
inductive z5o (F:List Bool) (A:List (List Arc)):Nat→Prop
 | fin (q:Nat) (h:F[q]? =some true):z5o F A q
 | arc (q:Nat) (l:List Arc) (x:Arc) (h:A[q]? =some l) (hx:x∈l) (h2:z5o F A x.2.2.toNat):z5o F A q
end Go.Ax
namespace Go.Ax
theorem count_set {l:List Bool} {i:Nat} (h:l[i]? =some false):(l.set i true).count false+1=l.count false:=by
 induction l generalizing i with
 | nil=>simp at h
 | cons x l ih =>
  cases i with
  | zero=>simp at h;subst h;simp
  | succ i =>
   have:=ih (i:=i) (by simpa using h)
   simp only[List.set_cons_succ,List.count_cons];omega
structure Reach (F:List Bool) (A:List (List Arc)) (X:List (List Int)) (out:List Bool) (stk:List Int) (skip:Nat→Prop):Prop where
 len:out.length=F.length
 onS:∀ z∈stk,∃ s:Nat,z=(s:Int)∧out[s]? =some true
 sound:∀ s:Nat,out[s]? =some true→z5o F A s
 fin:∀ s:Nat,F[s]? =some true→out[s]? =some true
 clos:∀ s:Nat,out[s]? =some true→(s:Int)∈stk∨skip s∨∀ p∈X.getD s [],out[p.toNat]? =some true
 few:stk.length+out.count false≤F.length
theorem Reach.done {F:List Bool} {A:List (List Arc)} {X:List (List Int)} {out:List Bool} (h:Reach F A X out [] fun _=>False)
 (hX:∀ (s:Nat) (p:Int),p∈X.getD s []↔∃ (k:Nat) (l:List Arc) (x:Arc),A[k]? =some l∧x∈l∧x.2.2.toNat=s∧p=k) (q:Nat):out[q]? =some true↔z5o F A q:=by
 refine⟨h.sound q,fun hq=>?_⟩
 induction hq with
 | fin q h1=>exact h.fin q h1
 | arc q l x h1 h2 h3 ih =>
  rcases h.clos _ ih with h4|h4|h4
  · simp at h4
  · exact h4.elim
  · have:=h4 (q:Int) ((hX _ _).2 ⟨q,l,x,h1,h2,rfl,rfl⟩)
    rwa [Int.toNat_natCast] at this
theorem Reach.push {F:List Bool} {A:List (List Arc)} {X:List (List Int)} {out:List Bool} {stk:List Int} {skip:Nat→Prop} (h:Reach F A X out stk skip) {p:Nat} (hp:out[p]? =some false) (hl:z5o F A p):Reach F A X (out.set p true) (stk++[(p:Int)]) skip:=by
 have hpl:=(List.getElem?_eq_some_iff.1 hp).1
 have hc:=count_set hp
 have up:∀ s:Nat,out[s]? =some true→(out.set p true)[s]? =some true:=fun s hs=>by
  by_cases e:p=s
  · subst e;exact List.getElem?_set_self hpl
  · rw[List.getElem?_set_ne e];exact hs
 have down:∀ s:Nat,(out.set p true)[s]? =some true→s=p∨out[s]? =some true:=fun s hs=>by
  by_cases e:p=s
  · exact .inl e.symm
  · rw[List.getElem?_set_ne e] at hs;exact .inr hs
 refine⟨by rw[List.length_set];exact h.len,fun z hz=>?_,fun s hs=>?_,fun s hs=>up s (h.fin s hs),fun s hs=>?_,?_⟩
 · rw[List.mem_append,List.mem_singleton] at hz
   rcases hz with hz|rfl
   · obtain⟨s,h1,h2⟩:=h.onS z hz;exact⟨s,h1,up s h2⟩
   · exact⟨p,rfl,List.getElem?_set_self hpl⟩
 · rcases down s hs with rfl|hs
   · exact hl
   · exact h.sound s hs
 · rcases down s hs with rfl|hs
   · exact .inl (by simp)
   · rcases h.clos s hs with h1|h1|h1
     · exact .inl (by simp[h1])
     · exact .inr (.inl h1)
     · exact .inr (.inr fun q hq=>up _ (h1 q hq))
 · rw[List.length_append,List.length_singleton]
   have:=h.few;omega
theorem Reach.pop {F:List Bool} {A:List (List Arc)} {X:List (List Int)} {out:List Bool} {stk:List Int} {s0:Nat} (h:Reach F A X out (stk++[(s0:Int)]) fun _=>False):Reach F A X out stk fun s=>s=s0:=by
 refine⟨h.len,fun z hz=>h.onS z (by simp[hz]),h.sound,h.fin,fun s hs=>?_,?_⟩
 · rcases h.clos s hs with h1|h1|h1
   · rw[List.mem_append,List.mem_singleton] at h1
     rcases h1 with h1|h1
     · exact .inl h1
     · exact .inr (.inl (by omega))
   · exact h1.elim
   · exact .inr (.inr h1)
 · have:=h.few;rw[List.length_append,List.length_singleton] at this;omega
theorem Reach.shut {F:List Bool} {A:List (List Arc)} {X:List (List Int)} {out:List Bool} {stk:List Int} {s0:Nat} (h:Reach F A X out stk fun s=>s=s0) (hc:∀ p∈X.getD s0 [],out[p.toNat]? =some true):Reach F A X out stk fun _=>False :=
 ⟨h.len,h.onS,h.sound,h.fin,fun s hs=>by
   rcases h.clos s hs with h1|rfl|h1
   · exact .inl h1
   · exact .inr (.inr hc)
   · exact .inr (.inr h1),h.few⟩
noncomputable def z5x (F:List Bool) (A:List (List Arc)):List Bool:=(List.range F.length).map fun q=>@decide (z5o F A q) (Classical.propDecidable _)
theorem zpo {F:List Bool} {A:List (List Arc)} {out:List Bool} (hl:out.length=F.length) (h:∀ q:Nat,out[q]? =some true↔z5o F A q):out=z5x F A:=by
 refine List.ext_getElem (by simp[z5x,hl]) fun i h1 h2=>?_
 simp only[z5x,List.getElem_map,List.getElem_range]
 have:=h i
 rw[List.getElem?_eq_getElem h1] at this
 by_cases hq:z5o F A i
 · simp only[hq,iff_true,Option.some.injEq] at this
   rw[this];simp[hq]
 · simp only[hq,iff_false,Option.some.injEq] at this
   cases ho:out[i] with
   | true=>exact absurd ho this
   | false=>simp[hq]
end Go.Ax
namespace Go.Ax
theorem zmp {cl:List Int} (hc:∀ q,-1≤clA cl q):∀ {l:List Arc} {p:Option Arc} {out:List Arc},okA p l→okA none out→(∀ y z,z7t none out=some y→l.head? =some z→y.2.1<z.1) →
 okA none (l.foldl (z9q cl) out)∧∀ c,nxt (l.foldl (z9q cl) out) c=if nxt l c=-1 then nxt out c else if nxt out c=-1 then clA cl (nxt l c) else nxt (l.foldl (z9q cl) out) c
 | [],p,out,_,h2,_=>⟨h2,fun c=>by simp[nxt]⟩
 | x::l,p,out,h1,h2,h3=>by
  have hx:=h1.2.2.2
  have hlow:∀ c,c≤x.2.1→nxt l c=-1:=fun c hc=>z9x hx c hc
  rw[List.foldl_cons]
  have hnext:∀ z,l.head? =some z→x.2.1<z.1:=fun z hz=>by
   cases l with
   | nil=>simp at hz
   | cons w l=>simp at hz;subst hz;exact(hx.2.2.1 x rfl).1
  rw[z9q]
  by_cases hneg:clA cl x.2.2<0
  · rw[if_pos hneg]
    obtain⟨i1,i2⟩:=zmp hc (out:=out) hx h2 (fun y z hy hz=>by
     have:=h3 y x hy rfl
     have:=hnext z hz
     have:=h1.1
     omega)
    refine⟨i1,fun c=>?_⟩
    rw[i2 c,nxt]
    by_cases hcx:x.1≤c∧c≤x.2.1
    · rw[if_pos hcx,if_pos (hlow c hcx.2),if_neg (by have:=h1.2.1;omega)]
      have:=hc x.2.2
      by_cases h0:nxt out c=-1
      · rw[if_pos h0,h0];omega
      · rw[if_neg h0]
    · rw[if_neg hcx]
      by_cases g1:nxt l c=-1
      · rw[if_pos g1,if_pos g1]
      · rw[if_neg g1,if_neg g1]
        by_cases g2:nxt out c=-1 <;> simp[g2]
  · rw[if_neg hneg]
    obtain⟨e1,e2,e3,e4⟩:=zrc (q:=clA cl x.2.2) h2 h1.1 (by omega) (fun y hy=>h3 y x hy rfl)
    obtain⟨i1,i2⟩:=zmp hc (out:=ext out x.1 x.2.1 (clA cl x.2.2)) hx e1 (fun y z hy hz=>by rw[e3 y hy];exact hnext z hz)
    refine⟨i1,fun c=>?_⟩
    by_cases hcx:x.1≤c∧c≤x.2.1
    · rw[i2 c,if_pos (hlow c hcx.2),e4 c,if_pos hcx,nxt,if_pos hcx,if_neg (by have:=h1.2.1;omega)]
      have hout:nxt out c=-1:=by
       rcases zgh out with rfl|⟨m,y,rfl⟩
       · rfl
       · exact zil h2 (z2t _ _ _) (fun _ _=>.inr (.inr trivial)) c (by have:=h3 y x (z2t _ _ _) rfl;omega)
      rw[if_pos hout]
    · have e5:=e4 c
      rw[if_neg hcx] at e5
      have e6:=i2 c
      rw[e5] at e6
      rw[nxt,if_neg hcx]
      exact e6
theorem zaa {cl:List Int} (hc:∀ q,-1≤clA cl q) {l:List Arc} (h:okA none l):okA none (byC cl l)∧∀ c,nxt (byC cl l) c=clA cl (nxt l c):=by
 obtain⟨h1,h2⟩:=zmp hc (out:=[]) h trivial (fun y z hy=>by simp[z7t] at hy)
 refine⟨h1,fun c=>?_⟩
 have:=h2 c
 rw[byC,this]
 simp only[nxt,if_true]
 split
 · rename_i g;rw[g,clA,if_pos (by decide)]
 · rfl
def toB (xs:List Int):ByteArray:=⟨(xs.map fun n=>UInt8.ofNat n.toNat).toArray⟩
def z5z (n:Int):List Int:=[n / 16777216 % 256,n / 65536 % 256,n / 256 % 256,n % 256]
def zrl (cl:List Int) (k:Int) (l:List Arc):List Int:=z5z k++(byC cl l).flatMap fun x=>z5z x.1++z5z x.2.1++z5z x.2.2
def isB (b:List Int):Prop:=∀ c∈b,0≤c∧c<256
theorem zto:∀ {a b:List Int},isB a→isB b→toB a=toB b→a=b:=by
 intro a b ha hb h
 have h1:=congrArg (fun t:ByteArray=>t.data.toList) h
 simp only[toB] at h1
 induction a generalizing b with
 | nil=>cases b with|nil=>rfl|cons y b=>simp at h1
 | cons x a ih =>
  cases b with
  | nil=>simp at h1
  | cons y b =>
   simp only[List.map_cons,List.cons.injEq] at h1
   obtain⟨e1,e2⟩:=h1
   have hx:=ha x (by simp)
   have hy:=hb y (by simp)
   have e3:=congrArg UInt8.toNat e1
   simp only[UInt8.toNat_ofNat'] at e3
   have:x=y:=by omega
   rw[this,ih (fun c hc=>ha c (by simp[hc])) (fun c hc=>hb c (by simp[hc])) (by
    have:(a.map fun n=>UInt8.ofNat n.toNat)=b.map fun n=>UInt8.ofNat n.toNat:=e2
    simp only[toB,this]) e2]
theorem zb2 (n:Int):isB (z5z n):=fun c hc=>by
 simp only[z5z,List.mem_cons,List.not_mem_nil,or_false] at hc
 omega
theorem zgo {a b:List Int} (ha:isB a) (hb:isB b):isB (a++b):=fun c hc=>by
 rw[List.mem_append] at hc
 exact hc.elim (ha c) (hb c)
theorem zik (cl:List Int) (k:Int) (l:List Arc):isB (zrl cl k l):=by
 refine zgo (zb2 k) fun c hc=>?_
 rw[List.mem_flatMap] at hc
 obtain⟨x,_,hx⟩:=hc
 exact zgo (zgo (zb2 _) (zb2 _)) (zb2 _) c hx
theorem zan {a b:Int} (ha:0≤a∧a<4294967296) (hb:0≤b∧b<4294967296) {x y:List Int} (h:z5z a++x=z5z b++y):a=b∧x=y:=by
 simp only[z5z,List.cons_append,List.nil_append,List.cons.injEq] at h
 obtain⟨h1,h2,h3,h4,h5⟩:=h
 exact⟨by omega,h5⟩
def za7 (l:List Arc):Prop:=∀ x∈l,(0≤x.1∧x.1<4294967296)∧(0≤x.2.1∧x.2.1<4294967296)∧(0≤x.2.2∧x.2.2<4294967296)
theorem zjv:∀ {l m:List Arc},za7 l→za7 m→(l.flatMap fun x=>z5z x.1++z5z x.2.1++z5z x.2.2)=(m.flatMap fun x=>z5z x.1++z5z x.2.1++z5z x.2.2)→l=m
 | [],[],_,_,_=>rfl
 | [],y::m,_,_,h=>by simp[z5z] at h
 | x::l,[],_,_,h=>by simp[z5z] at h
 | x::l,y::m,hl,hm,h=>by
  rw[List.flatMap_cons,List.flatMap_cons,List.append_assoc,List.append_assoc,List.append_assoc,List.append_assoc] at h
  obtain⟨x1,x2,x3⟩:=hl x (by simp)
  obtain⟨y1,y2,y3⟩:=hm y (by simp)
  obtain⟨e1,h⟩:=zan x1 y1 h
  obtain⟨e2,h⟩:=zan x2 y2 h
  obtain⟨e3,h⟩:=zan x3 y3 h
  rw[zjv (fun z hz=>hl z (by simp[hz])) (fun z hz=>hm z (by simp[hz])) h]
  congr 1
  obtain⟨a,b,c⟩:=x;obtain⟨a',b',c'⟩:=y
  simp only at e1 e2 e3;rw[e1,e2,e3]
theorem zhd {cl:List Int} {k k':Int} {l m:List Arc} (hk:0≤k∧k<4294967296) (hk':0≤k'∧k'<4294967296) (hl:za7 (byC cl l)) (hm:za7 (byC cl m)) (h:toB (zrl cl k l)=toB (zrl cl k' m)):k=k'∧byC cl l=byC cl m:=by
 have:=zto (zik _ _ _) (zik _ _ _) h
 obtain⟨e1,e2⟩:=zan hk hk' this
 exact⟨e1,zjv hl hm e2⟩
def sgA (A:List (List Arc)) (cl:List Int) (q:Nat):ByteArray:=toB (zrl cl (cl.getD q 0) (A.getD q []))
def z8u (A:List (List Arc)) (cl:List Int) (s:List ByteArray × List Int) (q:Nat):List ByteArray × List Int :=
 if cl.getD q 0<0 then (s.1,s.2++[-1]) else (z6n s.1 (sgA A cl q),s.2++[((z3y (sgA A cl q) s.1:Nat):Int)])
def rnd (A:List (List Arc)) (cl:List Int):List ByteArray × List Int:=(List.range cl.length).foldl (z8u A cl) ([],[])
def zh8 (A:List (List Arc)) (lim:Nat):Nat→Nat→List Int→Option (List Int)
 | 0,_,_=>none
 | f+1,c,cl=>if lim<(rnd A cl).1.length then none else if (rnd A cl).1.length=c then some (rnd A cl).2 else zh8 A lim f (rnd A cl).1.length (rnd A cl).2
structure RnS (A:List (List Arc)) (cl:List Int) (q:Nat) (s:List ByteArray × List Int):Prop where
 len:s.2.length=q
 nod:s.1.Nodup
 few:s.1.length≤q
 at_:∀ p,p<q→(cl.getD p 0<0→s.2[p]? =some (-1))∧(0≤cl.getD p 0→sgA A cl p∈s.1∧s.2[p]? =some ((z3y (sgA A cl p) s.1:Nat):Int))
 src:∀ g∈s.1,∃ p,p<q∧0≤cl.getD p 0∧sgA A cl p=g
theorem RnS.step {A:List (List Arc)} {cl:List Int} {q:Nat} {s:List ByteArray × List Int} (h:RnS A cl q s):RnS A cl (q+1) (z8u A cl s q):=by
 rw[z8u]
 by_cases hn:cl.getD q 0<0
 · rw[if_pos hn]
   refine⟨by simp[h.len],h.nod,by have:=h.few;simp only;omega,fun p hp=>?_,fun g hg=>?_⟩
   · by_cases hpq:p<q
     · obtain⟨h1,h2⟩:=h.at_ p hpq
       rw[List.getElem?_append_left (by rw[h.len];exact hpq)]
       exact⟨h1,h2⟩
     · obtain rfl:p=q:=by omega
       refine⟨fun _=>?_,fun g=>by omega⟩
       simp only
       rw[List.getElem?_append_right (by rw[h.len];omega),h.len,Nat.sub_self];rfl
   · obtain⟨p,p1,p2⟩:=h.src g hg;exact⟨p,by omega,p2⟩
 · rw[if_neg hn]
   obtain⟨r,hr⟩:=z7o s.1 (sgA A cl q)
   refine⟨by simp[h.len],zcu h.nod,?_,fun p hp=>?_,fun g hg=>?_⟩
   · have:=h.few;simp only[z6n];split <;> simp <;> omega
   · by_cases hpq:p<q
     · obtain⟨h1,h2⟩:=h.at_ p hpq
       rw[List.getElem?_append_left (by rw[h.len];exact hpq)]
       refine⟨h1,fun g=>?_⟩
       obtain⟨h3,h4⟩:=h2 g
       simp only
       rw[hr]
       exact⟨List.mem_append_left _ h3,by rw[zau h3];exact h4⟩
     · obtain rfl:p=q:=by omega
       refine⟨fun g=>absurd g hn,fun _=>⟨zam _ _,?_⟩⟩
       simp only
       rw[List.getElem?_append_right (by rw[h.len];omega),h.len,Nat.sub_self,zh6];rfl
   · simp only[z6n] at hg
     split at hg
     · obtain⟨p,p1,p2⟩:=h.src g hg;exact⟨p,by omega,p2⟩
     · rw[List.mem_append,List.mem_singleton] at hg
       rcases hg with hg|rfl
       · obtain⟨p,p1,p2⟩:=h.src g hg;exact⟨p,by omega,p2⟩
       · exact⟨q,by omega,by omega,rfl⟩
theorem rnS (A:List (List Arc)) (cl:List Int):∀ q,RnS A cl q ((List.range q).foldl (z8u A cl) ([],[]))
 | 0=>⟨rfl,by simp,by simp,fun p hp=>absurd hp (Nat.not_lt_zero _),by simp⟩
 | q+1=>by rw[List.range_succ,List.foldl_append,List.foldl_cons,List.foldl_nil];exact(rnS A cl q).step
theorem zve (A:List (List Arc)) (cl:List Int):RnS A cl cl.length (rnd A cl):=rnS A cl _
def Full (c:Nat) (cl:List Int):Prop:=∀ k:Nat,k<c→∃ q,q<cl.length∧cl.getD q 0=(k:Int)
theorem z3f {l:List Int} {i:Nat} {x:Int} (h:l[i]? =some x):l.getD i 0=x:=by rw[List.getD,h];rfl
theorem zqi (A:List (List Arc)) (cl:List Int):Full (rnd A cl).1.length (rnd A cl).2:=fun k hk=>by
 have hR:=zve A cl
 obtain⟨g,hg⟩:∃ g,(rnd A cl).1[k]? =some g:=⟨_,List.getElem?_eq_getElem hk⟩
 obtain⟨p,p1,p2,p3⟩:=hR.src g (List.mem_of_getElem? hg)
 obtain⟨h1,h2⟩:=(hR.at_ p p1).2 p2
 refine⟨p,by rw[hR.len];exact p1,?_⟩
 rw[z3f h2,p3]
 have hm:=List.mem_of_getElem? hg
 obtain⟨i1,i2⟩:=z3l hm
 have:z3y g (rnd A cl).1=k:=by
  obtain⟨a1,a2⟩:=List.getElem?_eq_some_iff.1 i2
  obtain⟨b1,b2⟩:=List.getElem?_eq_some_iff.1 hg
  exact(List.getElem_inj (h₀:=a1) (h₁:=b1) hR.nod).1 (a2.trans b2.symm)
 rw[this]
theorem z8c {α:Type} [DecidableEq α]:∀ {l m:List α},l.Nodup→(∀ x∈l,x∈m)→l.length≤m.length
 | [],m,_,_=>Nat.zero_le _
 | x::l,m,h,hs=>by
  have h1:=List.nodup_cons.1 h
  have hx:=hs x (by simp)
  have:=z8c (l:=l) (m:=m.erase x) h1.2 fun y hy=>by
   rw[List.mem_erase_of_ne (fun e:y=x=>h1.1 (by rw[← e];exact hy))]
   exact hs y (by simp[hy])
  have h3:=List.length_erase_of_mem hx
  have h4:=List.length_pos_of_mem hx
  rw[List.length_cons];omega
theorem zij {A:List (List Arc)} {cl:List Int} {c:Nat} (hF:Full c cl) (hs:∀ q,q<cl.length→cl.getD q 0<4294967296) (hsm:∀ q,q<cl.length→za7 (byC cl (A.getD q []))):c≤(rnd A cl).1.length ∧
 (c=(rnd A cl).1.length→∀ p r,p<cl.length→r<cl.length→0≤cl.getD p 0→cl.getD p 0<c→cl.getD p 0=cl.getD r 0→sgA A cl p=sgA A cl r):=by
 have hR:=zve A cl
 -- a signature for each class
 have hw:∀ k:Nat,∃ q,k<c→q<cl.length∧cl.getD q 0=(k:Int):=fun k=>by
  by_cases hk:k<c
  · obtain⟨q,h1,h2⟩:=hF k hk;exact⟨q,fun _=>⟨h1,h2⟩⟩
  · exact⟨0,fun h=>absurd h hk⟩
 obtain⟨f,hf⟩:∃ f:Nat→Nat,∀ k,k<c→f k<cl.length∧cl.getD (f k) 0=(k:Int):=⟨fun k=>Classical.choose (hw k),fun k=>Classical.choose_spec (hw k)⟩
 have hinj:∀ p r,p<cl.length→r<cl.length→0≤cl.getD p 0→0≤cl.getD r 0→sgA A cl p=sgA A cl r→cl.getD p 0=cl.getD r 0:=fun p r hp hr h1 h2 h=>(zhd ⟨h1,hs p hp⟩ ⟨h2,hs r hr⟩ (hsm p hp) (hsm r hr) h).1
 let L:=(List.range c).map fun k=>sgA A cl (f k)
 have hLn:L.Nodup:=by
  show List.Pairwise (· ≠·) _
  rw[List.pairwise_map]
  refine List.Pairwise.imp_of_mem ?_ (List.nodup_range (n:=c))
  intro a b ha hb hab e
  rw[List.mem_range] at ha hb
  obtain⟨a1,a2⟩:=hf a ha
  obtain⟨b1,b2⟩:=hf b hb
  have:=hinj _ _ a1 b1 (by omega) (by omega) e
  omega
 have hLs:∀ x∈L,x∈(rnd A cl).1:=fun x hx=>by
  simp only[L,List.mem_map,List.mem_range] at hx
  obtain⟨k,hk,rfl⟩:=hx
  obtain⟨k1,k2⟩:=hf k hk
  exact((hR.at_ (f k) k1).2 (by omega)).1
 have hLl:L.length=c:=by simp[L]
 refine⟨by have:=z8c hLn hLs;omega,fun hc p r hp hr h0 h1 hpr=>?_⟩
 -- then the signatures of the choice are all
 have hall:∀ x∈(rnd A cl).1,x∈L:=fun x hx=>by
  false_or_by_contra
  rename_i hn
  have:=z8c (l:=x::L) (m:=(rnd A cl).1) (List.nodup_cons.2 ⟨hn,hLn⟩) (fun y hy=>by
   rw[List.mem_cons] at hy
   rcases hy with rfl|hy
   · exact hx
   · exact hLs y hy)
  rw[List.length_cons] at this;omega
 have one:∀ q,q<cl.length→0≤cl.getD q 0→sgA A cl q=sgA A cl (f (cl.getD q 0).toNat):=fun q hq h0=>by
  have:=hall _ ((hR.at_ q hq).2 h0).1
  simp only[L,List.mem_map,List.mem_range] at this
  obtain⟨k,hk,he⟩:=this
  obtain⟨k1,k2⟩:=hf k hk
  have e:=hinj _ _ k1 hq (by omega) h0 he
  rw[k2] at e
  rw[← e,Int.toNat_natCast,he]
 rw[one p hp h0,one r hr (by omega),hpr]
end Go.Ax
namespace Go.Ax
theorem zqq {l:List Arc} {f t q:Int} {y:Arc} (h:y∈ext l f t q):y∈l∨(y.2.1=t∧y.2.2=q∧(y.1=f∨∃ z∈l,y.1=z.1)):=by
 rcases zgh l with rfl|⟨m,z,rfl⟩
 · rw[ext_nil,List.mem_singleton] at h;subst h;exact .inr ⟨rfl,rfl,.inl rfl⟩
 · rw[z3u] at h
   split at h
   · rw[List.mem_append,List.mem_singleton] at h
     rcases h with h|h
     · exact .inl (List.mem_append_left _ h)
     · subst h;exact .inr ⟨rfl,rfl,.inr ⟨z,by simp,rfl⟩⟩
   · rw[List.mem_append,List.mem_singleton] at h
     rcases h with h|h
     · exact .inl h
     · subst h;exact .inr ⟨rfl,rfl,.inl rfl⟩
theorem zmx {cl:List Int} {B:Int} (hc:∀ q,clA cl q≤B):∀ {l out:List Arc},(∀ x∈l,0≤x.1∧x.1≤x.2.1∧x.2.1≤1114111)→(∀ y∈out,0≤y.1∧y.1≤1114111∧0≤y.2.1∧y.2.1≤1114111∧0≤y.2.2∧y.2.2≤B)→∀ y∈l.foldl (z9q cl) out,0≤y.1∧y.1≤1114111∧0≤y.2.1∧y.2.1≤1114111∧0≤y.2.2∧y.2.2≤B
 | [],out,_,h2=>h2
 | x::l,out,h1,h2=>by
  rw[List.foldl_cons]
  refine zmx hc (fun z hz=>h1 z (by simp[hz])) fun y hy=>?_
  rw[z9q] at hy
  split at hy
  · exact h2 y hy
  · rename_i hn
    obtain⟨x1,x2,x3⟩:=h1 x (by simp)
    rcases zqq hy with h|⟨e1,e2,e3⟩
    · exact h2 y h
    · have:=hc x.2.2
      rcases e3 with e3|⟨z,hz,e3⟩
      · omega
      · have:=h2 z hz;omega
theorem ze7 {cl:List Int} {B:Int} (hc:∀ q,clA cl q≤B) {l:List Arc} (h1:∀ x∈l,0≤x.1∧x.1≤x.2.1∧x.2.1≤1114111):∀ y∈byC cl l,0≤y.1∧y.1≤1114111∧0≤y.2.1∧y.2.1≤1114111∧0≤y.2.2∧y.2.2≤B:=zmx hc h1 (by simp)
theorem zmu {cl:List Int}:∀ {l out:List Arc},(l.foldl (z9q cl) out).length≤out.length+l.length
 | [],out=>by simp
 | x::l,out=>by
  rw[List.foldl_cons]
  have:=zmu (cl:=cl) (l:=l) (out:=z9q cl out x)
  have h2:(z9q cl out x).length≤out.length+1:=by
   rw[z9q];split
   · omega
   · exact z9s _ _ _ _
  simp only[List.length_cons];omega
theorem zle {cl:List Int} {l:List Arc}:(byC cl l).length≤l.length:=by have:=zmu (cl:=cl) (l:=l) (out:=[]);simpa[byC] using this
structure ClW (n c:Nat) (cl:List Int):Prop where
 len:cl.length=n
 full:Full c cl
 rng:∀ x∈cl,-1≤x∧x≤4000000
 few:c≤n
theorem z96 {cl:List Int} (h:∀ x∈cl,-1≤x∧x≤4000000) (q:Int):-1≤clA cl q∧clA cl q≤4000000:=by
 rw[clA]
 split
 · omega
 · cases hq:cl[q.toNat]? with
   | none=>rw[List.getD,hq];simp
   | some x=>rw[z3f hq];exact h x (List.mem_of_getElem? hq)
theorem z4s {cl:List Int} (h:∀ x∈cl,-1≤x∧x≤4000000) (q:Nat):-1≤cl.getD q 0∧cl.getD q 0≤4000000:=by
 cases hq:cl[q]? with
 | none=>rw[List.getD,hq];simp
 | some x=>rw[z3f hq];exact h x (List.mem_of_getElem? hq)
theorem z8e {cl:List Int} (h:∀ x∈cl,-1≤x∧x≤4000000) {l:List Arc} (h1:∀ x∈l,0≤x.1∧x.1≤x.2.1∧x.2.1≤1114111):za7 (byC cl l):=fun y hy=>by
 have:=ze7 (B:=4000000) (fun q=>(z96 h q).2) h1 y hy
 omega
theorem znb {A:List (List Arc)} {cl:List Int} {n c:Nat} (hn:n≤4000000) (h:ClW n c cl) (hA:∀ l∈A,∀ x∈l,0≤x.1∧x.1≤x.2.1∧x.2.1≤1114111):c≤(rnd A cl).1.length∧ClW n (rnd A cl).1.length (rnd A cl).2:=by
 have hR:=zve A cl
 have hfew:=hR.few
 have hl:=hR.len
 have hcl:=h.len
 refine⟨(zij h.full (fun q _=>by have:=z4s h.rng q;omega) (fun q _=>z8e h.rng ?_)).1,by omega,zqi A cl,fun x hx=>?_,by omega⟩
 · cases hq:A[q]? with
   | none=>rw[List.getD,hq];simp
   | some l=>rw[List.getD,hq];exact hA l (List.mem_of_getElem? hq)
 · obtain⟨p,hp⟩:=List.mem_iff_getElem?.1 hx
   have hpl:p<cl.length:=by have:=(List.getElem?_eq_some_iff.1 hp).1;omega
   obtain⟨h1,h2⟩:=hR.at_ p hpl
   by_cases hn0:cl.getD p 0<0
   · rw[h1 hn0] at hp;cases hp;omega
   · obtain⟨h3,h4⟩:=h2 (by omega)
     rw[h4] at hp;cases hp
     have:=(z3l h3).1
     omega
noncomputable def cl0 (F:List Bool) (A:List (List Arc)):List Int:=(List.range F.length).map fun q=>if (z5x F A).getD q false=true then (if F.getD q false=true then 1 else 0) else -1
theorem zlh (F:List Bool) (A:List (List Arc)):ClW F.length 0 (cl0 F A) :=
 ⟨by simp[cl0],fun k hk=>absurd hk (Nat.not_lt_zero _),fun x hx=>by
   simp only[cl0,List.mem_map] at hx
   obtain⟨q,_,rfl⟩:=hx
   split
   · split <;> omega
   · omega,Nat.zero_le _⟩
noncomputable def zrz (F:List Bool) (A:List (List Arc)) (lim:Nat):Option (List Int):=zh8 A lim (F.length+1) 0 (cl0 F A)
end Go.Ax
namespace Go.Ax
theorem zl6:∀ {l:List Arc} {p:Option Arc},okA p l→∀ e∈l,e.1≤e.2.1
 | [],_,_,e,he=>by simp at he
 | x::l,p,h,e,he=>by
  rw[List.mem_cons] at he
  rcases he with rfl|he
  · exact h.1
  · exact zl6 h.2.2.2 e he
theorem zfr:∀ {l:List Arc} {y:Arc},okA (some y) l→∀ e∈l,y.2.1<e.1
 | [],_,_,e,he=>by simp at he
 | x::l,y,h,e,he=>by
  have h1:=(h.2.2.1 y rfl).1
  rw[List.mem_cons] at he
  rcases he with rfl|he
  · exact h1
  · have:=zfr h.2.2.2 e he
    have:=h.1;omega
theorem zh9:∀ {l:List Arc} {p:Option Arc},okA p l→∀ {e:Arc},e∈l→nxt l e.1=e.2.2
 | [],_,_,e,he=>by simp at he
 | x::l,p,h,e,he=>by
  rw[List.mem_cons] at he
  rcases he with rfl|he
  · exact z7h (Int.le_refl _) h.1
  · have:=zfr h.2.2.2 e he
    rw[nxt,if_neg (by omega)]
    exact zh9 h.2.2.2 he
theorem zeu {c:Int}:∀ {l:List Arc},nxt l c≠-1→∃ y∈l,y.2.2=nxt l c
 | [],h=>absurd rfl h
 | x::l,h=>by
  rw[nxt] at h ⊢
  split
  · exact⟨x,by simp,rfl⟩
  · rename_i hc
    rw[if_neg hc] at h
    obtain⟨y,hy,e⟩:=zeu h
    exact⟨y,by simp[hy],e⟩
end Go.Ax
namespace Go.Ax
theorem zhr {l:List Int} {B:Nat} (h:l.Pairwise (· <·)) (hr:∀ z∈l,0≤z∧z≤B):l.length≤B+1:=by
 have h1:l.Nodup:=h.imp fun {a b} hab e=>by omega
 have:=z8c (m:=(List.range (B+1)).map fun k:Nat=>(k:Int)) h1 fun x hx=>by
  have:=hr x hx
  rw[List.mem_map]
  exact⟨x.toNat,by rw[List.mem_range];omega,by omega⟩
 simpa using this
end Go.Ax
namespace Go.Ax
def srt (l:List Int):List Int:=l.mergeSort fun x y=>decide (x≤y)
theorem zaz (l:List Int):(srt l).Perm l:=List.mergeSort_perm l _
theorem zda (l:List Int):(srt l).Pairwise (· ≤·):=by
 have:=List.pairwise_mergeSort (le:=fun x y:Int=>decide (x≤y)) (fun a b c h1 h2=>by simp only[decide_eq_true_eq] at *;omega) (fun a b=>by simp only[Bool.or_eq_true,decide_eq_true_eq];omega) l
 exact this.imp fun h=>by simpa using h
theorem zru {l m:List Int} (h:l.Perm m) (hm:m.Pairwise (· ≤·)):srt l=m :=
 List.Perm.eq_of_pairwise (fun a b _ _ h1 h2=>Int.le_antisymm h1 h2) (zda l) hm ((zaz l).trans h)
theorem zh0 (l:List Int):(srt l).length=l.length:=(zaz l).length_eq
theorem zwt {A B:List Int} {x:Int} (h:(A++B).Pairwise (· ≤·)) (h1:∀ y∈A,y≤x) (h2:∀ y∈B,x≤y):(A++x::B).Pairwise (· ≤·):=by
 rw[List.pairwise_append] at h ⊢
 refine⟨h.1,List.pairwise_cons.2 ⟨h2,h.2.1⟩,fun a ha b hb=>?_⟩
 rw[List.mem_cons] at hb
 rcases hb with rfl|hb
 · exact h1 a ha
 · exact h.2.2 a ha b hb
theorem zpt {A:List Int} {y:Int} (h:(A++[y]).Pairwise (· ≤·)):∀ z∈A++[y],z≤y:=fun z hz=>by
 rw[List.pairwise_append] at h
 rw[List.mem_append,List.mem_singleton] at hz
 rcases hz with hz|rfl
 · exact h.2.2 z hz y (by simp)
 · exact Int.le_refl _
end Go.Ax
namespace Go.Ax
def cq:Int→List Int→List Int
 | _,[]=>[]
 | x,y::l=>if x=y then cq y l else y::cq y l
def cpt:List Int→List Int
 | []=>[]
 | x::l=>x::cq x l
theorem zrh:∀ (l:List Int) (x:Int),(x::l).Pairwise (· ≤·)→(x::cq x l).Pairwise (· <·)∧∀ z,z∈x::cq x l↔z∈x::l
 | [],x,_=>by simp[cq]
 | y::l,x,h=>by
  have h1:=List.pairwise_cons.1 h
  have hxy:=h1.1 y (by simp)
  obtain⟨i1,i2⟩:=zrh l y h1.2
  rw[cq]
  split
  · rename_i e
    subst e
    exact⟨i1,fun z=>by rw[i2 z];simp⟩
  · rename_i e
    refine⟨List.pairwise_cons.2 ⟨fun z hz=>?_,i1⟩,fun z=>?_⟩
    · have hyz:y≤z:=by
       have:=(i2 z).1 hz
       rw[List.mem_cons] at this
       rcases this with rfl|this
       · exact Int.le_refl _
       · exact(List.pairwise_cons.1 h1.2).1 z this
      omega
    · rw[List.mem_cons,i2 z];simp only[List.mem_cons]
theorem zh5 {l:List Int} (h:l.Pairwise (· ≤·)):(cpt l).Pairwise (· <·)∧∀ z,z∈cpt l↔z∈l:=by
 cases l with
 | nil=>simp[cpt]
 | cons x l=>exact zrh l x h
theorem zrb:∀ (l:List Int) (x:Int),(cq x l).length≤l.length
 | [],_=>Nat.le_refl _
 | y::l,x=>by rw[cq];split <;> simp only[List.length_cons] <;> have:=zrb l y <;> omega
theorem zlr (l:List Int):(cpt l).length≤l.length:=by
 cases l with
 | nil=>simp[cpt]
 | cons x l=>rw[cpt];have:=zrb l x;simp only[List.length_cons];omega
end Go.Ax
namespace Go.Ax
theorem zol:∀ {l:List Arc} {p:Option Arc} {a:Int},okA p l→(∀ x∈l,x.2.1≤1114111)→(∀ x∈l,a≤x.1)→okE (K:=Int) a l
 | [],_,_,_,_,_=>trivial
 | x::l,p,a,h,h1,h2=>⟨h2 x (by simp),h.1,h1 x (by simp),zol h.2.2.2 (fun y hy=>h1 y (by simp[hy])) fun y hy=>by have:=zfr h.2.2.2 y hy;omega⟩
theorem zfl:∀ {l:List Arc} {p:Option Arc},okA p l→∀ c,kx (K:=Int) l c=if nxt l c=-1 then none else some (nxt l c)
 | [],_,_,c=>rfl
 | x::l,p,h,c=>by
  rw[kx,nxt]
  split
  · have:=h.2.1
    rw[if_neg (by omega)]
  · exact zfl h.2.2.2 c
theorem zl4 {a:Au} (h:∀ q,okA none (a.arcs q)):∀ (w:List Int) (q:Int),zjd a.fin a.arcs (some q) w=a.acc q w
 | [],q=>rfl
 | c::w,q=>by
  rw[zjd,zfl (h q),Au.acc_cons,Au.nx]
  by_cases e:nxt (a.arcs q) c=-1
  · rw[if_pos e,e,a.acc_neg w (by decide)];cases w <;> rfl
  · rw[if_neg e];exact zl4 h w _
section
variable {K:Type} [DecidableEq K]
theorem zr9 {fin:K→Bool} {edg:K→List (Edge K)} {first:K} {i:Nat} {ks:List K} {a:Au} (h:Ex fin edg first i ks a) {ok:K→Prop} (h0:ok first)
 (hc:∀ k,ok k→∀ c k',kx (edg k) c=some k'→ok k'):∀ (j:Nat) (k:K),ks[j]? =some k→ok k:=by
 intro j
 induction j using Nat.strongRecOn with
 | _ j ih =>
  intro k hk
  by_cases hj:j=0
  · subst hj;rw[h.hd] at hk;cases hk;exact h0
  · obtain⟨q,k0,c,_,hq,hk0,⟨k',e1,e2⟩,_⟩:=h.bfs j (by omega) (List.getElem?_eq_some_iff.1 hk).1
    rw[hk] at e2;cases e2
    exact hc k0 (ih q hq k0 hk0) c k e1
theorem zds {fin:K→Bool} {edg:K→List (Edge K)} {first:K} {lim:Nat} (he:∀ k,okE 0 (edg k)) {ok:K→Prop} (h0:ok first) (hc:∀ k,ok k→∀ c k',kx (edg k) c=some k'→ok k')
 (hfew:∀ l:List K,l.Nodup→(∀ x∈l,ok x)→l.length≤lim):∀ (n i:Nat) (ks:List K) (a:Au),Ex fin edg first i ks a→lim+1≤n+i→∃ b,exL fin edg lim n i ks a=some b
 | 0,i,ks,a,h,hn=>by
  have h1:=h.le
  have h2:=hfew ks h.nod fun x hx=>by
   obtain⟨j,hj⟩:=List.getElem?_of_mem hx
   exact zr9 h h0 hc j x hj
  omega
 | n+1,i,ks,a,h,hn=>by
  rw[exL]
  cases hk:ks[i]? with
  | none=>exact⟨a,rfl⟩
  | some k =>
   have hs:=zo5 h hk (he k)
   have h2:=hfew _ hs.nod fun x hx=>by
    obtain⟨j,hj⟩:=List.getElem?_of_mem hx
    exact zr9 hs h0 hc j x hj
   simp only
   rw[if_neg (by omega)]
   exact zds he h0 hc hfew n (i+1) _ _ hs (by omega)
theorem zrg {fin:K→Bool} {edg:K→List (Edge K)} {first:K} {ks:List K} {a:Au} (h:Ex fin edg first ks.length ks a) {ok:K→Prop} (h0:ok first) (hc:∀ k,ok k→∀ c k',kx (edg k) c=some k'→ok k') {lim:Nat}
 (hfew:∀ l:List K,l.Nodup→(∀ x∈l,ok x)→l.length≤lim):a.F.length≤lim:=by
 rw[h.fl]
 exact hfew ks h.nod fun x hx=>by
  obtain⟨j,hj⟩:=List.getElem?_of_mem hx
  exact zr9 h h0 hc j x hj
end
theorem zfs {n:Nat} {l:List Int} (h:l.Nodup) (hr:∀ x∈l,0≤x∧x<n):l.length≤n:=by
 have:=z8c (m:=(List.range n).map fun k:Nat=>(k:Int)) h fun x hx=>by
  have:=hr x hx
  exact List.mem_map.2 ⟨x.toNat,List.mem_range.2 (by omega),by omega⟩
 simpa using this
structure AuW (a:Au):Prop where
 len:a.A.length=a.F.length
 arc:∀ l∈a.A,okA none l∧∀ x∈l,0≤x.1∧x.1≤x.2.1∧x.2.1≤1114111∧0≤x.2.2∧x.2.2<a.F.length
 pos:0<a.F.length
theorem AuW.arcs {a:Au} (h:AuW a) (q:Int):okA none (a.arcs q)∧∀ x∈a.arcs q,0≤x.1∧x.1≤x.2.1∧x.2.1≤1114111∧0≤x.2.2∧x.2.2<a.F.length:=by
 rw[Au.arcs]
 split
 · exact⟨trivial,by simp⟩
 · cases hq:a.A[q.toNat]? with
   | none=>rw[List.getD,hq];exact⟨trivial,by simp⟩
   | some l=>rw[List.getD,hq];exact h.arc l (List.mem_of_getElem? hq)
theorem AuW.okE {a:Au} (h:AuW a) (q:Int):okE (K:=Int) 0 (a.arcs q) :=
 zol (h.arcs q).1 (fun x hx=>((h.arcs q).2 x hx).2.2.1) fun x hx=>((h.arcs q).2 x hx).1
theorem AuW.nx {a:Au} (h:AuW a) (q c:Int):-1≤a.nx q c∧a.nx q c<a.F.length:=by
 rw[Au.nx]
 have h1:=(h.arcs q).2
 by_cases e:nxt (a.arcs q) c=-1
 · rw[e];omega
 · obtain⟨y,hy,e2⟩:=zeu e
   have:=h1 y hy
   omega
theorem znw {a:Au} (h:AuW a) {q:Nat} (hl:z5o a.F a.A q):∃ w,a.acc (q:Nat) w=true:=by
 induction hl with
 | fin q hq=>exact⟨[],by rw[Au.acc_nil,Au.fin,if_neg (by omega),Int.toNat_natCast,List.getD,hq];rfl⟩
 | arc q l x hq hx _ ih =>
  obtain⟨w,hw⟩:=ih
  have h1:=(h.arc l (List.mem_of_getElem? hq))
  have h2:=h1.2 x hx
  refine⟨x.1::w,?_⟩
  have e:a.nx (q:Nat) x.1=x.2.2:=by rw[Au.nx,Au.arcs,if_neg (by omega),Int.toNat_natCast,List.getD,hq];exact zh9 h1.1 hx
  rw[Au.acc_cons,e,show x.2.2=((x.2.2.toNat:Nat):Int) by omega]
  exact hw
theorem zfc {a:Au} (h:AuW a):∀ (w:List Int) (q:Nat),a.acc (q:Nat) w=true→z5o a.F a.A q
 | [],q,hw=>by
  rw[Au.acc_nil,Au.fin,if_neg (by omega),Int.toNat_natCast,List.getD] at hw
  refine .fin q ?_
  cases hq:a.F[q]? with
  | none=>rw[hq] at hw;cases hw
  | some b=>rw[hq] at hw;simp at hw;rw[hw]
 | c::w,q,hw=>by
  rw[Au.acc_cons] at hw
  by_cases e:a.nx (q:Nat) c=-1
  · rw[e,a.acc_neg w (by decide)] at hw;cases hw
  · have e1:=e
    rw[Au.nx] at e1
    obtain⟨y,hy,e2⟩:=zeu e1
    have hy0:=hy
    rw[Au.arcs,if_neg (by omega),Int.toNat_natCast] at hy
    cases hq:a.A[q]? with
    | none=>rw[List.getD,hq] at hy;simp at hy
    | some l =>
     rw[List.getD,hq] at hy
     have h2:=((h.arcs (q:Nat)).2 y hy0)
     refine .arc q l y hq hy (zfc h w _ ?_)
     rw[show ((y.2.2.toNat:Nat):Int)=y.2.2 by omega,e2]
     exact hw
end Go.Ax
namespace Go.Ax
structure zot (a:Au) (cl:List Int):Prop where
 len:cl.length=a.F.length
 rng:∀ x∈cl,-1≤x∧x≤4000000
 dead:∀ q:Nat,q<a.F.length→(cl.getD q 0<0↔∀ w,a.acc (q:Nat) w=false)
 same:∀ p q:Nat,p<a.F.length→q<a.F.length→(∀ w,a.acc (p:Nat) w=a.acc (q:Nat) w)→cl.getD p 0=cl.getD q 0
 fin_:∀ p q:Nat,p<a.F.length→q<a.F.length→cl.getD p 0=cl.getD q 0→a.fin (p:Nat)=a.fin (q:Nat)
theorem z3x (cl:List Int) (q:Nat):clA cl (q:Nat)=cl.getD q 0:=by rw[clA,if_neg (by omega),Int.toNat_natCast]
theorem z6m (cl:List Int):clA cl (-1)=-1:=by rw[clA,if_pos (by decide)]
theorem zot.to {a:Au} {cl:List Int} (h:zot a cl) {p q:Int} (hp:-1≤p∧p<a.F.length) (hq:-1≤q∧q<a.F.length) (hs:∀ w,a.acc p w=a.acc q w):clA cl p=clA cl q:=by
 have one:∀ {p:Int},-1≤p∧p<a.F.length→(∀ w,a.acc p w=false)→clA cl p=-1:=fun {p} hp hd=>by
  by_cases e:p=-1
  · rw[e,z6m]
  · obtain⟨p,rfl⟩:∃ k:Nat,p=k:=⟨p.toNat,by omega⟩
    rw[z3x]
    have h1:=(h.dead p (by omega)).2 hd
    have h2:=(z4s h.rng p).1
    omega
 by_cases e:p=-1
 · have hd:∀ w,a.acc q w=false:=fun w=>by rw[← hs w,e];exact a.acc_neg w (by decide)
   rw[one hq hd,e,z6m]
 by_cases e2:q=-1
 · have hd:∀ w,a.acc p w=false:=fun w=>by rw[hs w,e2];exact a.acc_neg w (by decide)
   rw[one hp hd,e2,z6m]
 obtain⟨p,rfl⟩:∃ k:Nat,p=k:=⟨p.toNat,by omega⟩
 obtain⟨q,rfl⟩:∃ k:Nat,q=k:=⟨q.toNat,by omega⟩
 rw[z3x,z3x]
 exact h.same p q (by omega) (by omega) hs
theorem z8i {F:List Bool} {A:List (List Arc)} {q:Nat} (hq:q<F.length):(z5x F A).getD q false=true↔z5o F A q:=by
 rw[z5x,List.getD,List.getElem?_map,List.getElem?_range hq]
 simp
theorem zg5 {F:List Bool} {A:List (List Arc)} {q:Nat} (hq:q<F.length):(cl0 F A).getD q 0=if (z5x F A).getD q false=true then (if F.getD q false=true then 1 else 0) else -1:=by
 rw[cl0,List.getD,List.getElem?_map,List.getElem?_range hq];rfl
theorem zdj {a:Au} (h:AuW a) (q:Nat):¬ z5o a.F a.A q↔∀ w,a.acc (q:Nat) w=false:=by
 constructor
 · intro hn w
   cases hw:a.acc (q:Nat) w with
   | false=>rfl
   | true=>exact absurd (zfc h w q hw) hn
 · intro hd hl
   obtain⟨w,hw⟩:=znw h hl
   rw[hd w] at hw;cases hw
theorem zeb (a:Au) (q:Nat):a.fin (q:Nat)=a.F.getD q false:=by rw[Au.fin,if_neg (by omega),Int.toNat_natCast]
theorem zun {a:Au} (h:AuW a):zot a (cl0 a.F a.A):=by
 have hW:=zlh a.F a.A
 have dd:∀ q:Nat,q<a.F.length→((cl0 a.F a.A).getD q 0<0↔∀ w,a.acc (q:Nat) w=false):=fun q hq=>by
  rw[← zdj h q,zg5 hq]
  by_cases hl:(z5x a.F a.A).getD q false=true
  · rw[if_pos hl]
    have:=(z8i hq).1 hl
    constructor
    · intro h2;split at h2 <;> omega
    · intro h2;exact absurd this h2
  · rw[if_neg hl]
    exact⟨fun _ h2=>hl ((z8i hq).2 h2),fun _=>by decide⟩
 refine⟨hW.len,hW.rng,dd,fun p q hp hq hs=>?_,fun p q hp hq e=>?_⟩
 · have e1:a.F.getD p false=a.F.getD q false:=by have:=hs [];rwa [Au.acc_nil,Au.acc_nil,zeb,zeb] at this
   have e2:(z5x a.F a.A).getD p false=true↔(z5x a.F a.A).getD q false=true:=by
    rw[z8i hp,z8i hq]
    have h1:=zdj h p
    have h2:=zdj h q
    have h3:(∀ w,a.acc (p:Nat) w=false)↔(∀ w,a.acc (q:Nat) w=false):=⟨fun g w=>by rw[← hs w];exact g w,fun g w=>by rw[hs w];exact g w⟩
    have h4:=h1.trans (h3.trans h2.symm)
    constructor
    · intro x;exact Classical.byContradiction fun y=>h4.2 y x
    · intro x;exact Classical.byContradiction fun y=>h4.1 y x
   rw[zg5 hp,zg5 hq,e1]
   simp only[e2]
 · rw[zeb,zeb]
   rw[zg5 hp,zg5 hq] at e
   have nl:∀ q:Nat,q<a.F.length→¬ (z5x a.F a.A).getD q false=true→a.F.getD q false=false:=fun q hq hn=>by
    cases hf:a.F.getD q false with
    | false=>rfl
    | true =>
     refine absurd ((z8i hq).2 (.fin q ?_)) hn
     rw[List.getD,List.getElem?_eq_getElem hq] at hf
     rw[List.getElem?_eq_getElem hq];simp at hf;rw[hf]
   by_cases h1:(z5x a.F a.A).getD p false=true <;> by_cases h2:(z5x a.F a.A).getD q false=true
   · rw[if_pos h1,if_pos h2] at e
     generalize a.F.getD p false=x at *
     generalize a.F.getD q false=y at *
     cases x <;> cases y <;> simp at e ⊢
   · rw[if_pos h1,if_neg h2] at e
     split at e <;> omega
   · rw[if_neg h1,if_pos h2] at e
     split at e <;> omega
   · rw[nl p hp h1,nl q hq h2]
theorem z6o {A:List (List Arc)} {cl:List Int} {p:Nat} (hp:p<cl.length):(cl.getD p 0<0→(rnd A cl).2.getD p 0=-1)∧(0≤cl.getD p 0→(rnd A cl).2.getD p 0=((z3y (sgA A cl p) (rnd A cl).1:Nat):Int)∧sgA A cl p∈(rnd A cl).1):=by
 have hR:=(zve A cl).at_ p hp
 exact⟨fun h=>z3f (hR.1 h),fun h=>⟨z3f (hR.2 h).2,(hR.2 h).1⟩⟩
theorem zca {a:Au} {cl:List Int} (h:zot a cl) (q:Int):-1≤clA cl q:=(z96 h.rng q).1
theorem zts {a:Au} (h:AuW a) (hn:a.F.length≤4000000) {cl:List Int} {c:Nat} (hW:ClW a.F.length c cl) (hI:zot a cl):zot a (rnd a.A cl).2:=by
 have hA:∀ l∈a.A,∀ x∈l,0≤x.1∧x.1≤x.2.1∧x.2.1≤1114111:=fun l hl x hx=>by have:=(h.arc l hl).2 x hx;omega
 have hW2:=(znb hn hW hA).2
 have hlen:=hI.len
 have arcA:∀ p:Nat,p<a.F.length→a.arcs (p:Nat)=a.A.getD p []:=fun p _=>by rw[Au.arcs,if_neg (by omega),Int.toNat_natCast]
 have neg:∀ p:Nat,p<a.F.length→((rnd a.A cl).2.getD p 0<0↔cl.getD p 0<0):=fun p hp=>by
  have h1:=z6o (A:=a.A) (cl:=cl) (p:=p) (by omega)
  constructor
  · intro h2
    by_cases h3:cl.getD p 0<0
    · exact h3
    · rw[(h1.2 (by omega)).1] at h2;omega
  · intro h2;rw[h1.1 h2];decide
 refine⟨hW2.len,hW2.rng,fun q hq=>(neg q hq).trans (hI.dead q hq),fun p q hp hq hs=>?_,fun p q hp hq e=>?_⟩
 · have e1:=hI.same p q hp hq hs
   have h1:=z6o (A:=a.A) (cl:=cl) (p:=p) (by omega)
   have h2:=z6o (A:=a.A) (cl:=cl) (p:=q) (by omega)
   by_cases h3:cl.getD p 0<0
   · rw[h1.1 h3,h2.1 (by omega)]
   · rw[(h1.2 (by omega)).1,(h2.2 (by omega)).1]
     have hb:byC cl (a.A.getD p [])=byC cl (a.A.getD q []):=by
      rw[← arcA p hp,← arcA q hq]
      obtain⟨p1,p2⟩:=zaa (zca hI) (h.arcs (p:Nat)).1
      obtain⟨q1,q2⟩:=zaa (zca hI) (h.arcs (q:Nat)).1
      refine zo1 p1 q1 fun c=>?_
      rw[p2,q2]
      exact hI.to (h.nx (p:Nat) c) (h.nx (q:Nat) c) fun w=>hs (c::w)
     rw[sgA,sgA,zrl,zrl,hb,e1]
 · have h1:=z6o (A:=a.A) (cl:=cl) (p:=p) (by omega)
   have h2:=z6o (A:=a.A) (cl:=cl) (p:=q) (by omega)
   by_cases h3:cl.getD p 0<0
   · have h4:cl.getD q 0<0:=(neg q hq).1 (by rw[← e];exact(neg p hp).2 h3)
     have d1:=(hI.dead p hp).1 h3 []
     have d2:=(hI.dead q hq).1 h4 []
     rw[Au.acc_nil] at d1 d2
     rw[d1,d2]
   · have h4:¬ cl.getD q 0<0:=fun h5=>h3 ((neg p hp).1 (by rw[e];exact(neg q hq).2 h5))
     obtain⟨g1,g2⟩:=h1.2 (by omega)
     obtain⟨g3,g4⟩:=h2.2 (by omega)
     rw[g1,g3] at e
     have m1:=(z3l g2).2
     have m2:=(z3l g4).2
     rw[show z3y (sgA a.A cl p) (rnd a.A cl).1=z3y (sgA a.A cl q) (rnd a.A cl).1 by omega,m2] at m1
     have hs:sgA a.A cl p=sgA a.A cl q:=by simpa using m1.symm
     have sm:∀ p:Nat,p<a.F.length→za7 (byC cl (a.A.getD p [])):=fun p hp=>by
      rw[← arcA p hp]
      exact z8e hI.rng fun x hx=>by have:=(h.arcs (p:Nat)).2 x hx;omega
     have r1:=z4s hI.rng p
     have r2:=z4s hI.rng q
     exact hI.fin_ p q hp hq (zhd ⟨by omega,by omega⟩ ⟨by omega,by omega⟩ (sm p hp) (sm q hq) hs).1
end Go.Ax
namespace Go.Ax
structure Cls (a:Au) (lim:Nat) (r:List Int):Prop where
 inv:zot a r
 lang:∀ p q:Nat,p<a.F.length→q<a.F.length→r.getD p 0=r.getD q 0→∀ w,a.acc (p:Nat) w=a.acc (q:Nat) w
 few:∃ c:Nat,(c≤lim∧c≤a.F.length)∧∀ q,q<a.F.length→r.getD q 0<c
theorem zxr {A:List (List Arc)} {cl:List Int} {p:Nat} (hp:p<cl.length):(rnd A cl).2.getD p 0<(rnd A cl).1.length:=by
 have h:=z6o (A:=A) hp
 by_cases h1:cl.getD p 0<0
 · rw[h.1 h1];omega
 · obtain⟨g1,g2⟩:=h.2 (by omega)
   rw[g1]
   have:=(z3l g2).1
   omega
theorem zp9 {a:Au} (h:AuW a) {cl:List Int} (hI:zot a cl) {p q:Nat} (hp:p<a.F.length) (hq:q<a.F.length) (e:(rnd a.A cl).2.getD p 0=(rnd a.A cl).2.getD q 0) (h3:¬ cl.getD p 0<0) :
 ∀ c,clA cl (a.nx (p:Nat) c)=clA cl (a.nx (q:Nat) c):=by
 have hlen:=hI.len
 have arcA:∀ p:Nat,p<a.F.length→a.arcs (p:Nat)=a.A.getD p []:=fun p _=>by rw[Au.arcs,if_neg (by omega),Int.toNat_natCast]
 have h1:=z6o (A:=a.A) (cl:=cl) (p:=p) (by omega)
 have h2:=z6o (A:=a.A) (cl:=cl) (p:=q) (by omega)
 obtain⟨g1,g2⟩:=h1.2 (by omega)
 have h4:¬ cl.getD q 0<0:=fun h5=>by rw[g1,h2.1 h5] at e;omega
 obtain⟨g3,g4⟩:=h2.2 (by omega)
 rw[g1,g3] at e
 have m1:=(z3l g2).2
 have m2:=(z3l g4).2
 rw[show z3y (sgA a.A cl p) (rnd a.A cl).1=z3y (sgA a.A cl q) (rnd a.A cl).1 by omega,m2] at m1
 have hs:sgA a.A cl p=sgA a.A cl q:=by simpa using m1.symm
 have sm:∀ p:Nat,p<a.F.length→za7 (byC cl (a.A.getD p [])):=fun p hp=>by
  rw[← arcA p hp]
  exact z8e hI.rng fun x hx=>by have:=(h.arcs (p:Nat)).2 x hx;omega
 have r1:=z4s hI.rng p
 have r2:=z4s hI.rng q
 have hb:=(zhd ⟨by omega,by omega⟩ ⟨by omega,by omega⟩ (sm p hp) (sm q hq) hs).2
 intro c
 rw[← arcA p hp,← arcA q hq] at hb
 have p2:=(zaa (zca hI) (h.arcs (p:Nat)).1).2 c
 have q2:=(zaa (zca hI) (h.arcs (q:Nat)).1).2 c
 rw[Au.nx,Au.nx,← p2,← q2,hb]
theorem zha {a:Au} (h:AuW a) {r:List Int} (hI:zot a r) (hst:∀ p q:Nat,p<a.F.length→q<a.F.length→r.getD p 0=r.getD q 0→∀ c,clA r (a.nx (p:Nat) c)=clA r (a.nx (q:Nat) c)) :
 ∀ (w:List Int) (p q:Int),-1≤p→p<a.F.length→-1≤q→q<a.F.length→clA r p=clA r q→a.acc p w=a.acc q w:=by
 have dd:∀ q:Int,-1≤q→q<a.F.length→clA r q=-1→∀ w,a.acc q w=false:=fun q h1 h2 e w=>by
  by_cases e2:q=-1
  · rw[e2];exact a.acc_neg w (by decide)
  · obtain⟨q,rfl⟩:∃ k:Nat,q=k:=⟨q.toNat,by omega⟩
    rw[z3x] at e
    exact(hI.dead q (by omega)).1 (by omega) w
 intro w
 induction w with
 | nil =>
  intro p q p1 p2 q1 q2 e
  by_cases e1:clA r p=-1
  · rw[dd p p1 p2 e1,dd q q1 q2 (e▸e1)]
  · have hp:p≠-1:=by rintro rfl;exact e1 (z6m r)
    have hq:q≠-1:=by rintro rfl;exact e1 (e.trans (z6m r))
    obtain⟨p,rfl⟩:∃ k:Nat,p=k:=⟨p.toNat,by omega⟩
    obtain⟨q,rfl⟩:∃ k:Nat,q=k:=⟨q.toNat,by omega⟩
    rw[z3x,z3x] at e
    rw[Au.acc_nil,Au.acc_nil]
    exact hI.fin_ p q (by omega) (by omega) e
 | cons c w ih =>
  intro p q p1 p2 q1 q2 e
  by_cases e1:clA r p=-1
  · rw[dd p p1 p2 e1,dd q q1 q2 (e▸e1)]
  · have hp:p≠-1:=by rintro rfl;exact e1 (z6m r)
    have hq:q≠-1:=by rintro rfl;exact e1 (e.trans (z6m r))
    obtain⟨p,rfl⟩:∃ k:Nat,p=k:=⟨p.toNat,by omega⟩
    obtain⟨q,rfl⟩:∃ k:Nat,q=k:=⟨q.toNat,by omega⟩
    rw[z3x,z3x] at e
    rw[Au.acc_cons,Au.acc_cons]
    have n1:=h.nx (p:Nat) c
    have n2:=h.nx (q:Nat) c
    exact ih _ _ n1.1 n1.2 n2.1 n2.2 (hst p q (by omega) (by omega) e c)
theorem zjx {a:Au} (h:AuW a) (hn:a.F.length≤4000000) {lim:Nat}:∀ {f c:Nat} {cl r:List Int},ClW a.F.length c cl→zot a cl→(c=0∨∀ q,q<a.F.length→cl.getD q 0<c)→zh8 a.A lim f c cl=some r→Cls a lim r
 | 0,_,_,_,_,_,_,e=>by rw[zh8] at e;cases e
 | f+1,c,cl,r,hW,hI,hb,e=>by
  have hA:∀ l∈a.A,∀ x∈l,0≤x.1∧x.1≤x.2.1∧x.2.1≤1114111:=fun l hl x hx=>by have:=(h.arc l hl).2 x hx;omega
  have hlen:=hI.len
  have hW2:=(znb hn hW hA).2
  have hI2:=zts h hn hW hI
  have hlt:∀ q,q<a.F.length→(rnd a.A cl).2.getD q 0<(rnd a.A cl).1.length:=fun q hq=>zxr (by omega)
  rw[zh8] at e
  split at e
  · cases e
  rename_i hl
  split at e
  · rename_i hc
    simp only[Option.some.injEq] at e
    subst e
    have arcA:∀ p:Nat,p<a.F.length→a.arcs (p:Nat)=a.A.getD p []:=fun p _=>by rw[Au.arcs,if_neg (by omega),Int.toNat_natCast]
    have hm:=(zij (A:=a.A) hW.full (fun q hq=>by have:=z4s hI.rng q;omega) (fun q hq=>by
     rw[← arcA q (by omega)]
     exact z8e hI.rng fun x hx=>by have:=(h.arcs (q:Nat)).2 x hx;omega)).2 hc.symm
    -- old classes are new classes
    have hQ:∀ p q:Nat,p<a.F.length→q<a.F.length→cl.getD p 0=cl.getD q 0→(rnd a.A cl).2.getD p 0=(rnd a.A cl).2.getD q 0:=fun p q hp hq e=>by
     have h1:=z6o (A:=a.A) (cl:=cl) (p:=p) (by omega)
     have h2:=z6o (A:=a.A) (cl:=cl) (p:=q) (by omega)
     by_cases h3:cl.getD p 0<0
     · rw[h1.1 h3,h2.1 (by omega)]
     · have g1:=h1.2 (by omega)
       have g2:=h2.2 (by omega)
       have hlt2:cl.getD p 0<c:=by
        rcases hb with rfl|hb
        · have:=List.length_pos_of_mem g1.2;omega
        · exact hb p hp
       rw[g1.1,g2.1,hm p q (by omega) (by omega) (by omega) hlt2 e]
    have hQ2:∀ p q:Int,-1≤p→p<a.F.length→-1≤q→q<a.F.length→clA cl p=clA cl q→clA (rnd a.A cl).2 p=clA (rnd a.A cl).2 q:=fun p q p1 p2 q1 q2 e=>by
     have one:∀ q:Int,-1≤q→q<a.F.length→clA cl q=-1→clA (rnd a.A cl).2 q=-1:=fun q h1 h2 e=>by
      by_cases e2:q=-1
      · rw[e2,z6m]
      · obtain⟨q,rfl⟩:∃ k:Nat,q=k:=⟨q.toNat,by omega⟩
        rw[z3x] at e ⊢
        exact(z6o (A:=a.A) (cl:=cl) (p:=q) (by omega)).1 (by omega)
     by_cases e1:clA cl p=-1
     · rw[one p p1 p2 e1,one q q1 q2 (e▸e1)]
     · have hp:p≠-1:=by rintro rfl;exact e1 (z6m cl)
       have hq:q≠-1:=by rintro rfl;exact e1 (e.trans (z6m cl))
       obtain⟨p,rfl⟩:∃ k:Nat,p=k:=⟨p.toNat,by omega⟩
       obtain⟨q,rfl⟩:∃ k:Nat,q=k:=⟨q.toNat,by omega⟩
       rw[z3x,z3x] at e ⊢
       exact hQ p q (by omega) (by omega) e
    have hst:∀ p q:Nat,p<a.F.length→q<a.F.length→(rnd a.A cl).2.getD p 0=(rnd a.A cl).2.getD q 0→∀ c,clA (rnd a.A cl).2 (a.nx (p:Nat) c)=clA (rnd a.A cl).2 (a.nx (q:Nat) c):=fun p q hp hq e c=>by
     have n1:=h.nx (p:Nat) c
     have n2:=h.nx (q:Nat) c
     by_cases h3:(rnd a.A cl).2.getD p 0<0
     · have d1:=(hI2.dead p hp).1 h3
       have d2:=(hI2.dead q hq).1 (by rw[← e];exact h3)
       exact hI2.to n1 n2 fun w=>by
        have x1:=d1 (c::w)
        have x2:=d2 (c::w)
        rw[Au.acc_cons] at x1 x2
        rw[x1,x2]
     · have h4:¬ cl.getD p 0<0:=fun h5=>h3 (by rw[(z6o (A:=a.A) (cl:=cl) (p:=p) (by omega)).1 h5];decide)
       exact hQ2 _ _ n1.1 n1.2 n2.1 n2.2 (zp9 h hI hp hq e h4 c)
    refine⟨hI2,fun p q hp hq e w=>?_,_,⟨by omega,by have:=(zve a.A cl).few;omega⟩,hlt⟩
    exact zha h hI2 hst w (p:Nat) (q:Nat) (by omega) (by omega) (by omega) (by omega) (by rw[z3x,z3x];exact e)
  · exact zjx h hn hW2 hI2 (.inr hlt) e
theorem zf5 {a:Au} (h:AuW a) (hn:a.F.length≤4000000) {lim:Nat} (hl:a.F.length≤lim):∀ {f c:Nat} {cl:List Int},ClW a.F.length c cl→a.F.length<f+c→∃ r,zh8 a.A lim f c cl=some r
 | 0,c,cl,hW,hf=>by have:=hW.few;omega
 | f+1,c,cl,hW,hf=>by
  have hA:∀ l∈a.A,∀ x∈l,0≤x.1∧x.1≤x.2.1∧x.2.1≤1114111:=fun l hl x hx=>by have:=(h.arc l hl).2 x hx;omega
  obtain⟨h1,hW2⟩:=znb hn hW hA
  have h2:=(zve a.A cl).few
  have h3:=hW.len
  rw[zh8,if_neg (by omega)]
  split
  · exact⟨_,rfl⟩
  · exact zf5 h hn hl hW2 (by omega)
theorem zqg {a:Au} (h:AuW a) (hn:a.F.length≤4000000) {lim:Nat} {r:List Int} (e:zrz a.F a.A lim=some r):Cls a lim r :=
 zjx h hn (zlh a.F a.A) (zun h) (.inl rfl) e
end Go.Ax
namespace Go.Ax
theorem zn1:∀ {l:List Arc} {p:Option Arc},okA p l→∀ {e:Arc} {c:Int},e∈l→e.1≤c→c≤e.2.1→nxt l c=e.2.2
 | [],_,_,e,c,he,_,_=>by simp at he
 | x::l,p,h,e,c,he,h1,h2=>by
  rcases List.mem_cons.1 he with rfl|he
  · exact z7h h1 h2
  · have:=zfr h.2.2.2 e he
    rw[nxt,if_neg (by omega)]
    exact zn1 h.2.2.2 he h1 h2
theorem zma {K:Type}:∀ {es:List (Edge K)} {a c:Int} {k:K},okE a es→kx es c=some k→a≤c∧c≤1114111
 | [],_,_,_,_,h=>by cases h
 | e::es,a,c,k,h,hk=>by
  rw[kx] at hk
  have h1:=h.1
  have h2:=h.2.1
  have h3:=h.2.2.1
  split at hk
  · omega
  · have:=zma h.2.2.2 hk;omega
section
variable {K:Type} [DecidableEq K]
theorem y04 {fin:K→Bool} {edg:K→List (Edge K)} {first:K} {ks:List K} {a:Au} (h:Ex fin edg first ks.length ks a) (he:∀ k,okE 0 (edg k)):AuW a:=by
 have hpos:0<ks.length:=(List.getElem?_eq_some_iff.1 h.hd).1
 refine⟨by rw[h.al,h.fl],fun l hl=>?_,by rw[h.fl];exact hpos⟩
 obtain⟨q,hq⟩:=List.getElem?_of_mem hl
 have hql:q<ks.length:=by have:=(List.getElem?_eq_some_iff.1 hq).1;rw[h.al] at this;exact this
 obtain⟨l',e1,e2,e3,e4⟩:=h.arc q _ hql (List.getElem?_eq_getElem hql)
 rw[hq] at e1;cases e1
 refine⟨e2,fun x hx=>?_⟩
 have h1:=zl6 e2 x hx
 have a1:=zn1 e2 hx (Int.le_refl _) h1
 have a2:=zn1 e2 hx h1 (Int.le_refl _)
 have p0:0≤x.2.2:=by
  have:∀ {l:List Arc} {p:Option Arc},okA p l→∀ x∈l,0≤x.2.2:=fun {l}=>by
   induction l with
   | nil=>intro p _ x hx;simp at hx
   | cons y l ih =>
    intro p h x hx
    rcases List.mem_cons.1 hx with rfl|hx
    · exact h.2.1
    · exact ih h.2.2.2 x hx
  exact this e2 x hx
 have b1:=e3 x.1
 have b2:=e3 x.2.1
 rw[a1] at b1
 rw[a2] at b2
 cases k1:kx (edg ks[q]) x.1 with
 | none=>rw[k1] at b1;simp only at b1;omega
 | some y1 =>
  cases k2:kx (edg ks[q]) x.2.1 with
  | none=>rw[k2] at b2;simp only at b2;omega
  | some y2 =>
   rw[k1] at b1;simp only at b1
   have r1:=zma (he _) k1
   have r2:=zma (he _) k2
   have:=(z3l (e4 _ _ k1)).1
   rw[h.fl]
   omega
end
theorem zzu {a:Au} (h:AuW a) (q c:Int) (k':Int) (e:kx (K:=Int) (a.arcs q) c=some k'):0≤k'∧k'<a.F.length:=by
 rw[zfl (h.arcs q).1] at e
 split at e
 · cases e
 · rename_i hn
   simp only[Option.some.injEq] at e
   have:=h.nx q c
   rw[Au.nx] at this
   omega
theorem zk1 {a:Au} (h:AuW a):∃ b,exL a.fin a.arcs a.F.length (a.F.length+1) 0 [(0:Int)] ⟨[],[]⟩=some b∧AuW b∧b.F.length≤a.F.length∧∀ w,b.acc 0 w=a.acc 0 w:=by
 have hpos:=h.pos
 have hc:∀ k:Int,(0≤k∧k<a.F.length)→∀ c k',kx (K:=Int) (a.arcs k) c=some k'→0≤k'∧k'<a.F.length:=fun k _ c k' e=>zzu h k c k' e
 have hfew:∀ l:List Int,l.Nodup→(∀ x∈l,0≤x∧x<a.F.length)→l.length≤a.F.length:=fun l h1 h2=>zfs h1 h2
 obtain⟨b,hb⟩:=zds (fin:=a.fin) (first:=(0:Int)) (lim:=a.F.length) (ok:=fun k:Int=>0≤k∧k<a.F.length) h.okE ⟨by omega,by omega⟩ hc hfew (a.F.length+1) 0 _ _ (zy2 _ _ _) (by omega)
 obtain⟨ks,hx⟩:=zm9 h.okE _ _ _ _ b (zy2 _ _ _) hb
 refine⟨b,hb,y04 hx h.okE,zrg hx (ok:=fun k:Int=>0≤k∧k<a.F.length) ⟨by omega,by omega⟩ hc hfew,fun w=>?_⟩
 have:=zci hx w 0 0 hx.hd
 rw[zl4 (fun q=>(h.arcs q).1)] at this
 exact this
section
variable {a:Au} (h:AuW a) {lim:Nat} {cl:List Int} (hc:Cls a lim cl) {st:Int→Nat} (hst:∀ q,q<a.F.length→st (cl.getD q 0)<a.F.length∧cl.getD (st (cl.getD q 0)) 0=cl.getD q 0)
include h hc hst
theorem zbn:∀ (w:List Int) (q:Nat),q<a.F.length→0≤cl.getD q 0→zjd (fun k=>a.fin (st k:Nat)) (fun k=>byC cl (a.arcs (st k:Nat))) (some (cl.getD q 0)) w=a.acc (q:Nat) w
 | [],q,hq,h0=>by
  obtain⟨s1,s2⟩:=hst q hq
  rw[zjd,← hc.lang _ _ s1 hq s2 []];rfl
 | c::w,q,hq,h0=>by
  obtain⟨s1,s2⟩:=hst q hq
  obtain⟨b1,b2⟩:=zaa (zca hc.inv) (h.arcs (st (cl.getD q 0):Nat)).1
  have n1:=h.nx (st (cl.getD q 0):Nat) c
  rw[zjd,zfl b1,b2,← hc.lang _ _ s1 hq s2 (c::w),Au.acc_cons]
  change zjd _ _ (if clA cl (a.nx (st (cl.getD q 0):Nat) c)=-1 then none else some (clA cl (a.nx (st (cl.getD q 0):Nat) c))) w=_
  generalize a.nx (st (cl.getD q 0):Nat) c=t at *
  by_cases e:clA cl t=-1
  · rw[if_pos e]
    have hd:a.acc t w=false:=by
     by_cases e2:t=-1
     · rw[e2];exact a.acc_neg w (by decide)
     · obtain⟨t,rfl⟩:∃ k:Nat,t=k:=⟨t.toNat,by omega⟩
       rw[z3x] at e
       exact(hc.inv.dead t (by omega)).1 (by omega) w
    rw[hd];cases w <;> rfl
  · rw[if_neg e]
    have e2:t≠-1:=by rintro rfl;exact e (z6m cl)
    obtain⟨t,rfl⟩:∃ k:Nat,t=k:=⟨t.toNat,by omega⟩
    rw[z3x] at e ⊢
    have:=z4s hc.inv.rng t
    exact zbn w t (by omega) (by omega)
theorem ztk (h0:0≤cl.getD 0 0):∃ b,exL (fun k=>a.fin (st k:Nat)) (fun k=>byC cl (a.arcs (st k:Nat))) lim (lim+1) 0 [cl.getD 0 0] ⟨[],[]⟩=some b∧Can b∧AuW b∧b.F.length≤a.F.length∧∀ w,b.acc 0 w=a.acc 0 w:=by
 have hpos:=h.pos
 have he:∀ k:Int,okE (K:=Int) 0 (byC cl (a.arcs (st k:Nat))):=fun k=>by
  have h1:=ze7 (cl:=cl) (B:=4000000) (fun q=>(z96 hc.inv.rng q).2) (l:=a.arcs (st k:Nat)) fun x hx=>by have:=(h.arcs (st k:Nat)).2 x hx;omega
  exact zol (zaa (zca hc.inv) (h.arcs (st k:Nat)).1).1 (fun x hx=>by have:=h1 x hx;omega) fun x hx=>by have:=h1 x hx;omega
 obtain⟨c,⟨hcl,hcn⟩,hcb⟩:=hc.few
 have hok0:∃ q,q<a.F.length∧cl.getD q 0=cl.getD 0 0∧0≤cl.getD 0 0:=⟨0,hpos,rfl,h0⟩
 have hcc:∀ k:Int,(∃ q,q<a.F.length∧cl.getD q 0=k∧0≤k)→∀ d k',kx (K:=Int) (byC cl (a.arcs (st k:Nat))) d=some k'→∃ q,q<a.F.length∧cl.getD q 0=k'∧0≤k':=fun k hk d k' e=>by
  obtain⟨b1,b2⟩:=zaa (zca hc.inv) (h.arcs (st k:Nat)).1
  have n1:=h.nx (st k:Nat) d
  rw[Au.nx] at n1
  rw[zfl b1,b2] at e
  generalize nxt (a.arcs (st k:Nat)) d=t at *
  split at e
  · cases e
  · rename_i hn
    simp only[Option.some.injEq] at e
    have e2:t≠-1:=by rintro rfl;exact hn (z6m cl)
    obtain⟨t,rfl⟩:∃ k:Nat,t=k:=⟨t.toNat,by omega⟩
    rw[z3x] at e hn
    have:=z4s hc.inv.rng t
    exact⟨t,by omega,e,by omega⟩
 have hfew:∀ l:List Int,l.Nodup→(∀ x∈l,∃ q,q<a.F.length∧cl.getD q 0=x∧0≤x)→l.length≤c:=fun l h1 h2 =>
  zfs (n:=c) h1 fun x hx=>by obtain⟨q,q1,q2,q3⟩:=h2 x hx;have:=hcb q q1;omega
 obtain⟨b,hb⟩:=zds (fin:=fun k=>a.fin (st k:Nat)) (lim:=lim) (ok:=fun k:Int=>∃ q,q<a.F.length∧cl.getD q 0=k∧0≤k) he hok0 hcc (fun l h1 h2=>Nat.le_trans (hfew l h1 h2) hcl) (lim+1) 0 _ _ (zy2 _ _ _) (by omega)
 obtain⟨ks,hx⟩:=zm9 he _ _ _ _ b (zy2 _ _ _) hb
 have hks:∀ x∈ks,∃ q,q<a.F.length∧cl.getD q 0=x∧0≤x:=fun x hxx=>by
  obtain⟨j,hj⟩:=List.getElem?_of_mem hxx
  exact zr9 hx (ok:=fun k:Int=>∃ q,q<a.F.length∧cl.getD q 0=k∧0≤k) hok0 hcc j x hj
 refine⟨b,hb,zvm hx (fun x hxx y hyy hw=>?_) (fun x hxx=>?_),y04 hx he,zrg hx (ok:=fun k:Int=>∃ q,q<a.F.length∧cl.getD q 0=k∧0≤k) hok0 hcc (fun l h1 h2=>Nat.le_trans (hfew l h1 h2) hcn),fun w=>?_⟩
 · obtain⟨p,p1,rfl,p3⟩:=hks x hxx
   obtain⟨q,q1,rfl,q3⟩:=hks y hyy
   exact hc.inv.same p q p1 q1 fun w=>by rw[← zbn h hc hst w p p1 p3,← zbn h hc hst w q q1 q3];exact hw w
 · obtain⟨p,p1,rfl,p3⟩:=hks x hxx
   have hd:¬ ∀ w,a.acc (p:Nat) w=false:=fun hd=>by have:=(hc.inv.dead p p1).2 hd;omega
   obtain⟨w,hw⟩:=Classical.not_forall.1 hd
   exact⟨w,by rw[zbn h hc hst w p p1 p3];simpa using hw⟩
 · have:=zci hx w 0 _ hx.hd
   rw[zbn h hc hst w 0 hpos h0] at this
   exact this
end
end Go.Ax
namespace Go.Ax
def zg2:Au:=⟨[false],[[]]⟩
theorem zdg:∀ w,zg2.acc 0 w=false
 | []=>rfl
 | c::w=>by rw[Au.acc_cons];exact zg2.acc_neg w (show zg2.nx 0 c<0 from (by decide:(-1:Int)<0))
theorem zwr:AuW zg2:=⟨rfl,fun l hl=>by simp[zg2] at hl;subst hl;exact⟨trivial,by simp⟩,by decide⟩
def Nrm (m:Au):Prop:=Can m∨m=zg2
theorem zwi {a b:Au} (ha:Nrm a) (hb:Nrm b) (h:∀ w,a.acc 0 w=b.acc 0 w):a=b:=by
 rcases ha with ha|rfl <;> rcases hb with hb|rfl
 · exact zwb ha hb h
 · obtain⟨w,hw⟩:=ha.live 0 (by decide) (by have:=ha.pos;omega)
   rw[h w,zdg] at hw;cases hw
 · obtain⟨w,hw⟩:=hb.live 0 (by decide) (by have:=hb.pos;omega)
   rw[← h w,zdg] at hw;cases hw
 · rfl
theorem zpx {a:Au} (h:AuW a) (hn:a.F.length≤256) {st:List Int→Int→Nat} (hst:∀ cl:List Int,cl.length=a.F.length→∀ q,q<a.F.length→st cl (cl.getD q 0)<a.F.length∧cl.getD (st cl (cl.getD q 0)) 0=cl.getD q 0) :
 ∃ cl,zrz a.F a.A 256=some cl∧∃ m,(if cl.getD 0 0<0 then some zg2 else exL (fun k=>a.fin (st cl k:Nat)) (fun k=>byC cl (a.arcs (st cl k:Nat))) 256 257 0 [cl.getD 0 0] ⟨[],[]⟩)=some m∧Nrm m∧AuW m∧m.F.length≤a.F.length∧∀ w,m.acc 0 w=a.acc 0 w:=by
 have hpos:=h.pos
 obtain⟨cl,hcl⟩:=zf5 h (by omega) (lim:=256) hn (f:=a.F.length+1) (zlh a.F a.A) (by omega)
 have hc:=zqg h (by omega) (lim:=256) hcl
 refine⟨cl,hcl,?_⟩
 by_cases h0:cl.getD 0 0<0
 · rw[if_pos h0]
   refine⟨zg2,rfl,.inr rfl,zwr,hpos,fun w=>?_⟩
   rw[zdg]
   exact((hc.inv.dead 0 hpos).1 h0 w).symm
 · rw[if_neg h0]
   obtain⟨b,b1,b2,b3,b4,b5⟩:=ztk h hc (st:=st cl) (hst cl hc.inv.len) (by omega)
   exact⟨b,b1,.inl b2,b3,b4,b5⟩
end Go.Ax
