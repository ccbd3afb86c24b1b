/- A part. -/
import Derived.Test.YtonhfccmeammbaaGreatDoorV0
set_option linter.all false
namespace Go.Ab
abbrev Nm:=Nat × Nat
inductive D where
 | lit (v:Value)
 | slice (xs:List (List D))
 | agg (cs:List D)
 | ifc (t:TypeId) (x:D)
inductive DR(w:World)(own:Nat→Prop):D→Value→Prop where
 | lit (v:Value) (h:v.oneCell'=true):DR w own (.lit v) v
 | nil (a:Option Addr) (cap:Nat):DR w own (.slice []) (.slice a 0 cap)
 | slice (xs:List (List D)) (g o cap k:Nat) (c:Nat→Nat→Value) (hc:xs.length≤cap) (hown:¬own g) (hlt:g<w.heap.size)
  (hk:∀x∈xs,x.length=k)
  (hcell:∀i,i<xs.length→∀j,j<k→w.cell? ⟨g,o+(i*k+j),none⟩=some (c i j)∧(c i j).oneCell'=true)
  (hd:∀(i:Nat) (x:List D),xs[i]? =some x→∀(j:Nat) (y:D),x[j]? =some y→DR w own y (c i j)) :
  DR w own (.slice xs) (.slice (some ⟨g,o,none⟩) xs.length cap)
 | agg (cs:List D) (vs:List Value) (hl:cs.length=vs.length) (h1:∀v∈vs,v.oneCell'=true)
  (hd:∀(j:Nat) (x:D) (v:Value),cs[j]? =some x→vs[j]? =some v→DR w own x v):DR w own (.agg cs) (.agg vs.toArray)
 | ifc (t:TypeId) (x:D) (v:Value) (h:DR w own x v):DR w own (.ifc t x) (.iface t v)
structure Ext(w:World)(own:Nat→Prop)(w':World)(own':Nat→Prop):Prop where
 os:w'.os=w.os
 tape:w'.tape=w.tape
 output:w'.output=w.output
 size:w.heap.size≤w'.heap.size
 block:∀b,b<w.heap.size→¬own b→w'.heap[b]? =w.heap[b]?
 owns:∀b,b<w.heap.size→¬own b→¬own' b
theorem Ext.refl(w:World)(own:Nat→Prop):Ext w own w own:=⟨rfl,rfl,rfl,zAj _,fun _ _ _=>rfl,fun _ _ h=>h⟩
theorem Ext.trans{w w1 w2:World}{o o1 o2:Nat→Prop}(h:Ext w o w1 o1)(k:Ext w1 o1 w2 o2):Ext w o w2 o2 :=
 ⟨k.os.trans h.os,k.tape.trans h.tape,k.output.trans h.output,Nat.le_trans h.size k.size,
  fun b hb ho=>(k.block b (zAx hb h.size) (h.owns b hb ho)).trans (h.block b hb ho),
  fun b hb ho=>k.owns b (zAx hb h.size) (h.owns b hb ho)⟩
theorem Ext.cell{w w':World}{o o':Nat→Prop}(h:Ext w o w' o'){a:Addr}(hb:a.block<w.heap.size)(ho:¬o a.block):w'.cell? a=w.cell? a :=
 World.cell?_of_block (h.block _ hb ho)
theorem DR.mono{w w':World}{o o':Nat→Prop}(h:Ext w o w' o'){x:D}{v:Value}(hx:DR w o x v):DR w' o' x v:=by
 induction hx with
 | lit v h1=>exact .lit v h1
 | nil a cap=>exact .nil a cap
 | slice xs g o cap k c hc hown hlt hk hcell hd ih =>
  refine .slice xs g o cap k c hc (h.owns _ hlt hown) (zAx hlt h.size) hk (fun i hi j hj=>?_) ih
  rw[h.cell hlt hown]
  exact hcell i hi j hj
 | agg cs vs hl h1 hd ih=>exact .agg cs vs hl h1 ih
 | ifc t x v hx ih=>exact .ifc t x v ih
inductive PV where
 | any
 | d (x:D)
 | ptr (n:Nm) (off:Nat)
 | eptr (cs:List D)
 | ref (n:Nm)
 | rptr (n:Nm) (k i off:Nat)
 | rsub (n:Nm) (k lo len:Nat)
 | al (a b:Nm)
 | agg (cs:List PV)
 | tup (vs:List PV)
 | fn (f:Fn) (first cap:List PV)
 | yl (n:Nm)
 | full (xs:List (List D))
inductive PR(β:Nm→Value)(w:World)(own:Nat→Prop):PV→Value→Prop where
 | any (v:Value):PR β w own .any v
 | d (x:D) (v:Value) (h:DR w own x v):PR β w own (.d x) v
 | ptr (n:Nm) (off g:Nat) (h:β n=.pointer (some ⟨g,0,none⟩)):PR β w own (.ptr n off) (.pointer (some ⟨g,off,none⟩))
 | eptr (cs:List D) (g o:Nat) (c:Nat→Value) (hown:¬own g) (hlt:g<w.heap.size)
  (hcell:∀j,j<cs.length→w.cell? ⟨g,o+j,none⟩=some (c j)∧(c j).oneCell'=true)
  (hd:∀(j:Nat) (y:D),cs[j]? =some y→DR w own y (c j)):PR β w own (.eptr cs) (.pointer (some ⟨g,o,none⟩))
 | ref (n:Nm):PR β w own (.ref n) (β n)
 | rptr (n:Nm) (k i off g len cap:Nat) (h:β n=.slice (some ⟨g,0,none⟩) len cap):PR β w own (.rptr n k i off) (.pointer (some ⟨g,i*k+off,none⟩))
 | rsub (n:Nm) (k lo len L cap:Nat) (a:Option Addr) (h:β n=.slice a L cap) (hl:lo+len≤L) (hc:L≤cap) :
  PR β w own (.rsub n k lo len) (.slice (if cap=lo then a else a.map (·.add (lo*k))) len (cap-lo))
 | al (a b:Nm) (h:β a=β b) (v:Value):PR β w own (.al a b) v
 | agg (cs:List PV) (vs:List Value) (hl:cs.length=vs.length) (h1:∀v∈vs,v.oneCell'=true)
  (hd:∀(j:Nat) (x:PV) (v:Value),cs[j]? =some x→vs[j]? =some v→PR β w own x v):PR β w own (.agg cs) (.agg vs.toArray)
 | tup (ps:List PV) (vs:List Value) (hl:ps.length=vs.length)
  (hd:∀(j:Nat) (x:PV) (v:Value),ps[j]? =some x→vs[j]? =some v→PR β w own x v):PR β w own (.tup ps) (.tuple vs.toArray)
 | fn (f:Fn) (first cap:List PV) (fv cv:List Value) (hl:first.length=fv.length) (hl':cap.length=cv.length)
  (hd:∀(j:Nat) (x:PV) (v:Value),first[j]? =some x→fv[j]? =some v→PR β w own x v)
  (hd':∀(j:Nat) (x:PV) (v:Value),cap[j]? =some x→cv[j]? =some v→PR β w own x v):PR β w own (.fn f first cap) (.func f fv.toArray cv.toArray)
 | yl (n:Nm) (L:Nat) (h:β n=.pointer (some ⟨L,0,none⟩)):PR β w own (.yl n) (.func (.yield L) #[] #[])
 | full (xs:List (List D)) (a:Option Addr) (h:DR w own (.slice xs) (.slice a xs.length xs.length)):PR β w own (.full xs) (.slice a xs.length xs.length)
theorem PR.mono{β:Nm→Value}{w w':World}{o o':Nat→Prop}(h:Ext w o w' o'){x:PV}{v:Value}(hx:PR β w o x v):PR β w' o' x v:=by
 induction hx with
 | any v=>exact .any v
 | d x v hx=>exact .d x v (hx.mono h)
 | ptr n off g hb=>exact .ptr n off g hb
 | eptr cs g o c hown hlt hcell hd =>
  refine .eptr cs g o c (h.owns _ hlt hown) (zAx hlt h.size) (fun j hj=>?_) fun j y hy=>(hd j y hy).mono h
  rw[h.cell hlt hown]
  exact hcell j hj
 | ref n=>exact .ref n
 | rptr n k i off g len cap hb=>exact .rptr n k i off g len cap hb
 | rsub n k lo len L cap a hb hl hc=>exact .rsub n k lo len L cap a hb hl hc
 | al a b h v=>exact .al a b h v
 | agg cs vs hl h1 hd ih=>exact .agg cs vs hl h1 ih
 | tup ps vs hl hd ih=>exact .tup ps vs hl ih
 | fn f first cap fv cv hl hl' hd hd' ih ih'=>exact .fn f first cap fv cv hl hl' ih ih'
 | yl n L h=>exact .yl n L h
 | full xs a hx=>exact .full xs a (hx.mono h)
mutual
def PV.says(n:Nm):PV→Bool
 | .ptr m _=>m == n
 | .ref m=>m == n
 | .rptr m _ _ _=>m == n
 | .rsub m _ _ _=>m == n
 | .al a b=>a == n||b == n
 | .agg cs=>PV.saysL n cs
 | .tup vs=>PV.saysL n vs
 | .fn _ first cap=>PV.saysL n first||PV.saysL n cap
 | .yl m=>m == n
 | _=>false
def PV.saysL(n:Nm):List PV→Bool
 | []=>false
 | p::ps=>p.says n||PV.saysL n ps
end
mutual
def PV.lift(k:Nat):PV→PV
 | .ptr m off=>.ptr (m.1+k,m.2) off
 | .ref m=>.ref (m.1+k,m.2)
 | .rptr m e i off=>.rptr (m.1+k,m.2) e i off
 | .rsub m e i off=>.rsub (m.1+k,m.2) e i off
 | .al a b=>.al (a.1+k,a.2) (b.1+k,b.2)
 | .agg cs=>.agg (PV.liftL k cs)
 | .tup vs=>.tup (PV.liftL k vs)
 | .fn f first cap=>.fn f (PV.liftL k first) (PV.liftL k cap)
 | .yl m=>.yl (m.1+k,m.2)
 | .any=>.any
 | .d x=>.d x
 | .full xs=>.full xs
 | .eptr cs=>.eptr cs
def PV.liftL(k:Nat):List PV→List PV
 | []=>[]
 | p::ps=>p.lift k::PV.liftL k ps
end
theorem PV.saysL_mem{n:Nm}{ps:List PV}(h:PV.saysL n ps=false){j:Nat}{p:PV}(hj:ps[j]? =some p):p.says n=false:=by
 induction ps generalizing j with
 | nil=>simp at hj
 | cons q ps ih =>
  simp only[PV.saysL,Bool.or_eq_false_iff]at h
  cases j with
  | zero=>simp at hj;exact hj▸h.1
  | succ j=>exact ih h.2 (by simpa using hj)
theorem PR.reβ{β β':Nm→Value}{w:World}{o:Nat→Prop}{x:PV}{v:Value}(n:Nm)(hb:∀m,m≠n→β' m=β m)(hx:PR β w o x v)(hs:x.says n=false):PR β' w o x v:=by
 induction hx with
 | any v=>exact .any v
 | d x v hx=>exact .d x v hx
 | ptr m off g h=>exact .ptr m off g (by rw[hb m (by simpa[PV.says]using hs)];exact h)
 | eptr cs g o c hown hlt hcell hd=>exact .eptr cs g o c hown hlt hcell hd
 | ref m=>rw[←hb m (by simpa[PV.says]using hs)];exact .ref m
 | rptr m k i off g len cap h=>exact .rptr m k i off g len cap (by rw[hb m (by simpa[PV.says]using hs)];exact h)
 | rsub m k lo len L cap a h hl hc=>exact .rsub m k lo len L cap a (by rw[hb m (by simpa[PV.says]using hs)];exact h) hl hc
 | al a b h v =>
  simp only[PV.says,Bool.or_eq_false_iff,beq_eq_false_iff_ne]at hs
  exact .al a b (by rw[hb a hs.1,hb b hs.2];exact h) v
 | agg cs vs hl h1 hd ih=>exact .agg cs vs hl h1 fun j x v hx hv=>ih j x v hx hv (PV.saysL_mem (by simpa[PV.says]using hs) hx)
 | tup ps vs hl hd ih=>exact .tup ps vs hl fun j x v hx hv=>ih j x v hx hv (PV.saysL_mem (by simpa[PV.says]using hs) hx)
 | fn f first cap fv cv hl hl' hd hd' ih ih' =>
  simp only[PV.says,Bool.or_eq_false_iff]at hs
  exact .fn f first cap fv cv hl hl' (fun j x v hx hv=>ih j x v hx hv (PV.saysL_mem hs.1 hx)) fun j x v hx hv=>ih' j x v hx hv (PV.saysL_mem hs.2 hx)
 | yl m L h=>exact .yl m L (by rw[hb m (by simpa[PV.says]using hs)];exact h)
 | full xs a h=>exact .full xs a h
def inn(β:Nm→Value):Nm→Value:=fun n=>match n.1 with|0=>undef|d+1=>β (d,n.2)
def z71(β:Nm→Value):Nm→Value:=fun n=>β (n.1+1,n.2)
theorem z74(β:Nm→Value):z71 (inn β)=β:=rfl
theorem PV.liftL_length(k:Nat)(ps:List PV):(PV.liftL k ps).length=ps.length:=by
 induction ps with
 | nil=>rfl
 | cons p ps ih=>simp[PV.liftL,ih]
theorem PV.liftL_get(k:Nat)(ps:List PV)(j:Nat):(PV.liftL k ps)[j]? =(ps[j]?).map (PV.lift k):=by
 induction ps generalizing j with
 | nil=>simp[PV.liftL]
 | cons p ps ih=>cases j <;> simp[PV.liftL,ih]
theorem PR.lift{β:Nm→Value}{w:World}{o:Nat→Prop}{x:PV}{v:Value}(hx:PR (z71 β) w o x v):PR β w o (x.lift 1) v:=by
 induction hx with
 | any v=>exact .any v
 | d x v hx=>exact .d x v hx
 | ptr m off g h=>exact .ptr (m.1+1,m.2) off g h
 | eptr cs g o c hown hlt hcell hd=>exact .eptr cs g o c hown hlt hcell hd
 | ref m=>exact .ref (m.1+1,m.2)
 | rptr m k i off g len cap h=>exact .rptr (m.1+1,m.2) k i off g len cap h
 | rsub m k lo len L cap a h hl hc=>exact .rsub (m.1+1,m.2) k lo len L cap a h hl hc
 | al a b h v=>exact .al (a.1+1,a.2) (b.1+1,b.2) h v
 | agg cs vs hl h1 hd ih =>
  refine .agg _ vs (by rw[PV.liftL_length];exact hl) h1 fun j x v hx hv=>?_
  exact zD57
 | tup cs vs hl hd ih =>
  refine .tup _ vs (by rw[PV.liftL_length];exact hl) fun j x v hx hv=>?_
  exact zD57
 | fn f cs ds vs us hl hl' hd hd' ih ih' =>
  refine .fn f _ _ vs us (by rw[PV.liftL_length];exact hl) (by rw[PV.liftL_length];exact hl') (fun j x v hx hv=>?_) fun j x v hx hv=>?_
  ·exact zD57
  ·rw[PV.liftL_get]at hx
   cases hc:ds[j]? with
   | none=>simp[hc]at hx
   | some y=>rw[hc]at hx;simp at hx;subst hx;exact ih' j y v hc hv
 | yl m L h=>exact .yl (m.1+1,m.2) L h
 | full xs a h=>exact .full xs a h
theorem PR.low{β:Nm→Value}{w:World}{o:Nat→Prop}{y:PV}{v:Value}(hx:PR β w o y v):∀x:PV,y=x.lift 1→PR (z71 β) w o x v:=by
 have lst:∀ {cs xs:List PV} {vs:List Value},(∀(j:Nat) (x:PV) (v:Value),cs[j]? =some x→vs[j]? =some v→∀y:PV,x=y.lift 1→PR (z71 β) w o y v)→cs=PV.liftL 1 xs →
  ∀(j:Nat) (x:PV) (v:Value),xs[j]? =some x→vs[j]? =some v→PR (z71 β) w o x v:=by
  intro cs xs vs ih he j x v hx hv
  exact ih j (x.lift 1) v (by rw[he,PV.liftL_get,hx];rfl) hv x rfl
 induction hx with
 | any v=>intro x hx;cases x <;> simp[PV.lift]at hx;exact .any v
 | d z v h=>intro x hx;cases x <;> simp[PV.lift]at hx;subst hx;exact .d _ v h
 | ptr m off g h =>
  intro x hx;cases x <;> simp[PV.lift]at hx
  obtain⟨hm,rfl⟩:=hx
  exact .ptr _ _ g (by subst hm;exact h)
 | eptr cs g o c hown hlt hcell hd=>intro x hx;cases x <;> simp[PV.lift]at hx;subst hx;exact .eptr _ g o c hown hlt hcell hd
 | ref m=>intro x hx;cases x <;> simp[PV.lift]at hx;subst hx;exact .ref _
 | rptr m k i off g len cap h =>
  intro x hx;cases x <;> simp[PV.lift]at hx
  obtain⟨hm,rfl,rfl,rfl⟩:=hx
  exact .rptr _ _ _ _ g len cap (by subst hm;exact h)
 | rsub m k lo len L cap a h hl hc =>
  intro x hx;cases x <;> simp[PV.lift]at hx
  obtain⟨hm,rfl,rfl,rfl⟩:=hx
  exact .rsub _ _ _ _ L cap a (by subst hm;exact h) hl hc
 | al a b h v =>
  intro x hx;cases x <;> simp[PV.lift]at hx
  obtain⟨hm,hm'⟩:=hx
  exact .al _ _ (by subst hm hm';exact h) v
 | agg cs vs hl h1 hd ih =>
  intro x hx;cases x <;> simp[PV.lift]at hx
  exact .agg _ vs (by rw[←hl,hx,PV.liftL_length]) h1 (lst ih hx)
 | tup cs vs hl hd ih =>
  intro x hx;cases x <;> simp[PV.lift]at hx
  exact .tup _ vs (by rw[←hl,hx,PV.liftL_length]) (lst ih hx)
 | fn f cs ds vs us hl hl' hd hd' ih ih' =>
  intro x hx;cases x <;> simp[PV.lift]at hx
  obtain⟨rfl,hx,hx'⟩:=hx
  exact .fn _ _ _ vs us (by rw[←hl,hx,PV.liftL_length]) (by rw[←hl',hx',PV.liftL_length]) (lst ih hx) (lst ih' hx')
 | yl m L h =>
  intro x hx;cases x <;> simp[PV.lift]at hx
  exact .yl _ L (by subst hx;exact h)
 | full xs a h=>intro x hx;cases x <;> simp[PV.lift]at hx;subst hx;exact .full _ a h
inductive Blk where
 | box (cs:List PV)
 | row (e:TypeId) (k:Nat) (xs:List (List D))
 | siter (s:ByteArray) (pos:Nat)
 | gmap (g:Nat) (cur:List MapEntry) (clock:Nat)
 | mit (g since:Nat) (seen:Array Nat) (last:Nat)
 | glob (g:Nat) (o:Obj)
 | mp (es:List (Value × D))
 | rowp (e:TypeId) (cs:List PV)
 | lp (n:Nat) (f:FuncId) (ps:Array Tmp) (asg body:Code) (st:List (Nat × PV)) (state:LoopState) (pending:Option Code)
 | gone
def z42(n:Nm):List (Nat × PV)→Bool
 | []=>false
 | (_,p)::r=>p.says n||z42 n r
def z3j(k:Nat):List (Nat × PV)→List (Nat × PV)
 | []=>[]
 | (t,p)::r=>(t,p.lift k)::z3j k r
def Blk.says(n:Nm):Blk→Bool
 | .box cs=>PV.saysL n cs
 | .rowp _ cs=>PV.saysL n cs
 | .lp _ _ _ _ _ st _ _=>z42 n st
 | _=>false
def Blk.lift(k:Nat):Blk→Blk
 | .box cs=>.box (PV.liftL k cs)
 | .rowp e cs=>.rowp e (PV.liftL k cs)
 | .lp n f ps asg body st state pending=>.lp n f ps asg body (z3j k st) state pending
 | b=>b
def Blk.live:Blk→Bool
 | .gone=>false
 | _=>true
def z2h:Value→Option Nat
 | .slice (some a) _ _=>some a.block
 | .pointer (some a)=>some a.block
 | .map (some r)=>some r
 | _=>none
def z9n(w:World)(own:Nat→Prop)(k:Nat)(xs:List (List D))(vs:List Value):Prop :=
 (∀x∈xs,x.length=k)∧vs.length=xs.length*k∧(∀v∈vs,v.oneCell'=true) ∧
 ∀(i:Nat) (x:List D),xs[i]? =some x→∀(j:Nat) (y:D),x[j]? =some y→∃v,vs[i*k+j]? =some v∧DR w own y v
inductive BR(β:Nm→Value)(w:World)(own:Nat→Prop):Value→Blk→Prop where
 | box (g t:Nat) (cs:List PV) (cur:List Value) (ho:own g) (hg:w.heap[g]? =some (.cells cur.toArray t (0,0))) (hl:cs.length=cur.length)
  (h1:∀v∈cur,v.oneCell'=true) (hd:∀(j:Nat) (x:PV) (v:Value),cs[j]? =some x→cur[j]? =some v→PR β w own x v):BR β w own (.pointer (some ⟨g,0,none⟩)) (.box cs)
 | row (v:Value) (e k:Nat) (xs:List (List D)) (vs:List Value) (ho:∀g,v.ownBlock=some g→own g) (hk:0<k) (hr:w.ownsRow 0 e k v xs.length vs)
  (hd:z9n w own k xs vs):BR β w own v (.row e k xs)
 | rowp (v:Value) (e:Nat) (cs:List PV) (vs:List Value) (ho:∀g,v.ownBlock=some g→own g) (hr:w.ownsRow 0 e 1 v cs.length vs) (h1:∀u∈vs,u.oneCell'=true)
  (hd:∀(j:Nat) (x:PV) (u:Value),cs[j]? =some x→vs[j]? =some u→PR β w own x u):BR β w own v (.rowp e cs)
 | siter (g:Nat) (s:ByteArray) (pos:Nat) (ho:own g) (hg:w.heap[g]? =some (.stringIter s pos)):BR β w own (.pointer (some ⟨g,0,none⟩)) (.siter s pos)
 | gmap (g:Nat) (cur:List MapEntry) (clock:Nat) (ho:own g) (hg:w.heap[g]? =some (.map cur.toArray clock)):BR β w own (.map (some g)) (.gmap g cur clock)
 | mit (h g since:Nat) (seen:Array Nat) (last:Nat) (ho:own h) (hg:w.heap[h]? =some (.mapIter (some g) since seen last)):BR β w own (.pointer (some ⟨h,0,none⟩)) (.mit g since seen last)
 | glob (g:Nat) (o:Obj) (ho:own g) (hg:w.heap[g]? =some o) (hd:∀x,o≠.deferred x):BR β w own (.pointer (some ⟨g,0,none⟩)) (.glob g o)
 | mp (g clock:Nat) (es:List (Value × D)) (cur:List MapEntry) (ho:own g) (hg:w.heap[g]? =some (.map cur.toArray clock)) (hl:es.length=cur.length)
  (hd:∀(j:Nat) (x:Value × D) (m:MapEntry),es[j]? =some x→cur[j]? =some m→m.key=x.1∧m.val.oneCell'=true∧DR w own x.2 m.val)
  (hb:(cur.map (·.born)).Pairwise (· <·)) (hc:∀m∈cur,m.born<clock):BR β w own (.map (some g)) (.mp es)
 | lp (g n:Nat) (f:FuncId) (ps:Array Tmp) (asg body:Code) (st:List (Nat × PV)) (state:LoopState) (pending:Option Code) (tmps:Array Value) (df:Nat) (ho:own g) (hg:w.heap[g]? =some (.loop { state,pending,fn:=f,tmps,params:=ps,assign:=asg,body,defers:=df }))
  (hl:tmps.size=n) (hd:∀(t:Nat) (p:PV),(t,p)∈st→PR β w own p (tmps.getD t (.tuple #[]))):BR β w own (.pointer (some ⟨g,0,none⟩)) (.lp n f ps asg body st state pending)
 | gone (v:Value):BR β w own v .gone
theorem z9n.mono{w w':World}{o o':Nat→Prop}(h:Ext w o w' o'){k:Nat}{xs:List (List D)}{vs:List Value}(hx:z9n w o k xs vs):z9n w' o' k xs vs :=
 ⟨hx.1,hx.2.1,hx.2.2.1,fun i x hi j y hj=>let ⟨v,hv,hd⟩:=hx.2.2.2 i x hi j y hj;⟨v,hv,hd.mono h⟩⟩
theorem BR.kept{β:Nm→Value}{w w':World}{o o':Nat→Prop}(h:Ext w o w' o'){v:Value}{b:Blk}(hb:BR β w o v b)
 (hk:b.live=true→∀g,z2h v=some g→w'.heap[g]? =w.heap[g]?∧o' g):BR β w' o' v b:=by
 cases hb with
 | box g t cs cur ho hg hl h1 hd =>
  obtain⟨e,eo⟩:=hk rfl g rfl
  exact .box g t cs cur eo (by rw[e];exact hg) hl h1 fun j x v hx hv=>(hd j x v hx hv).mono h
 | row v e k xs vs ho hkk hr hd =>
  refine .row v e k xs vs (fun g hg=>?_) hkk ?_ (hd.mono h)
  ·exact zD90
  ·exact zD60
 | rowp v e cs vs ho hr h1 hd =>
  refine .rowp v e cs vs (fun g hg=>?_) ?_ h1 fun j x u hx hu=>(hd j x u hx hu).mono h
  ·exact zD90
  ·exact zD60
 | siter g s pos ho hg=>obtain⟨e,eo⟩:=hk rfl g rfl;exact .siter g s pos eo (by rw[e];exact hg)
 | gmap g cur clock ho hg=>obtain⟨e,eo⟩:=hk rfl g rfl;exact .gmap g cur clock eo (by rw[e];exact hg)
 | mit h2 g since seen last ho hg=>obtain⟨e,eo⟩:=hk rfl h2 rfl;exact .mit h2 g since seen last eo (by rw[e];exact hg)
 | glob g o ho hg hd=>obtain⟨e,eo⟩:=hk rfl g rfl;exact .glob g o eo (by rw[e];exact hg) hd
 | mp g clock es cur ho hg hl hd hb hc=>obtain⟨e,eo⟩:=hk rfl g rfl;exact .mp g clock es cur eo (by rw[e];exact hg) hl (fun j x m hx hm=>let ⟨a,b,c⟩:=hd j x m hx hm;⟨a,b,c.mono h⟩) hb hc
 | lp g n f ps asg body st state pending tmps df ho hg hl hd=>obtain⟨e,eo⟩:=hk rfl g rfl;exact .lp g n f ps asg body st state pending tmps df eo (by rw[e];exact hg) hl fun t p hp=>(hd t p hp).mono h
 | gone v=>exact .gone v
theorem zfv{n:Nm}:∀ {st:List (Nat × PV)} {t:Nat} {p:PV},z42 n st=false→(t,p)∈st→p.says n=false
 | [],t,p,_,h=>by simp at h
 | (u,q)::r,t,p,h,hm=>by
  simp only[z42,Bool.or_eq_false_iff]at h
  rw[zAc]at hm
  rcases hm with e|hm
  ·simp at e;rw[e.2];exact h.1
  ·exact zfv h.2 hm
theorem zby{k:Nat}:∀ {st:List (Nat × PV)} {t:Nat} {p:PV},(t,p)∈z3j k st→∃q,(t,q)∈st∧p=q.lift k
 | [],t,p,h=>by simp[z3j]at h
 | (u,q)::r,t,p,h=>by
  simp only[z3j,zAc]at h
  rcases h with e|h
  ·simp at e;exact⟨q,by simp[e.1],e.2⟩
  ·obtain⟨q',h1,h2⟩:=zby h;exact⟨q',by simp[h1],h2⟩
theorem za8{k:Nat}:∀ {st:List (Nat × PV)} {t:Nat} {q:PV},(t,q)∈st→(t,q.lift k)∈z3j k st
 | [],t,q,h=>by simp at h
 | (u,p)::r,t,q,h=>by
  simp only[z3j,zAc]at h⊢
  rcases h with e|h
  ·simp at e;exact .inl (by rw[e.1,e.2])
  ·exact .inr (za8 h)
theorem BR.reβ{β β':Nm→Value}{w:World}{o:Nat→Prop}{v:Value}{b:Blk}(n:Nm)(hb:∀m,m≠n→β' m=β m)(hx:BR β w o v b)(hs:b.says n=false):BR β' w o v b:=by
 cases hx with
 | box g t cs cur ho hg hl h1 hd=>exact .box g t cs cur ho hg hl h1 fun j x v hx hv=>(hd j x v hx hv).reβ n hb (PV.saysL_mem (by simpa[Blk.says]using hs) hx)
 | row v e k xs vs ho hk hr hd=>exact .row v e k xs vs ho hk hr hd
 | rowp v e cs vs ho hr h1 hd=>exact .rowp v e cs vs ho hr h1 fun j x u hx hu=>(hd j x u hx hu).reβ n hb (PV.saysL_mem (by simpa[Blk.says]using hs) hx)
 | siter g s pos ho hg=>exact .siter g s pos ho hg
 | gmap g cur clock ho hg=>exact .gmap g cur clock ho hg
 | mit h g since seen last ho hg=>exact .mit h g since seen last ho hg
 | glob g o ho hg hd=>exact .glob g o ho hg hd
 | mp g clock es cur ho hg hl hd hb hc=>exact .mp g clock es cur ho hg hl hd hb hc
 | lp g n' f ps asg body st state pending tmps df ho hg hl hd=>exact .lp g n' f ps asg body st state pending tmps df ho hg hl fun t p hp=>(hd t p hp).reβ n hb (zfv (by simpa[Blk.says]using hs) hp)
 | gone v=>exact .gone v
theorem BR.lift{β:Nm→Value}{w:World}{o:Nat→Prop}{v:Value}{b:Blk}(hx:BR (z71 β) w o v b):BR β w o v (b.lift 1):=by
 cases hx with
 | box g t cs cur ho hg hl h1 hd =>
  refine .box g t _ cur ho hg (by rw[PV.liftL_length];exact hl) h1 fun j x v hx hv=>?_
  rw[PV.liftL_get]at hx
  cases hc:cs[j]? with
  | none=>simp[hc]at hx
  | some y=>rw[hc]at hx;simp at hx;subst hx;exact(hd j y v hc hv).lift
 | row v e k xs vs ho hk hr hd=>exact .row v e k xs vs ho hk hr hd
 | rowp v e cs vs ho hr h1 hd =>
  refine .rowp v e _ vs ho (by rw[PV.liftL_length];exact hr) h1 fun j x u hx hu=>?_
  rw[PV.liftL_get]at hx
  cases hc:cs[j]? with
  | none=>simp[hc]at hx
  | some y=>rw[hc]at hx;simp at hx;subst hx;exact(hd j y u hc hu).lift
 | siter g s pos ho hg=>exact .siter g s pos ho hg
 | gmap g cur clock ho hg=>exact .gmap g cur clock ho hg
 | mit h g since seen last ho hg=>exact .mit h g since seen last ho hg
 | glob g o ho hg hd=>exact .glob g o ho hg hd
 | mp g clock es cur ho hg hl hd hb hc=>exact .mp g clock es cur ho hg hl hd hb hc
 | lp g n' f ps asg body st state pending tmps df ho hg hl hd=>exact .lp g n' f ps asg body _ state pending tmps df ho hg hl fun t p hp=>(let ⟨q,h1,h2⟩:=zby hp;h2▸(hd t q h1).lift)
 | gone v=>exact .gone v
theorem BR.low{β:Nm→Value}{w:World}{o:Nat→Prop}{v:Value}{b:Blk}(hx:BR β w o v (b.lift 1)):BR (z71 β) w o v b:=by
 cases b with
 | box cs =>
  simp only[Blk.lift]at hx
  cases hx with
  | box g t _ cur ho hg hl h1 hd =>
   refine .box g t cs cur ho hg (by rw[←hl,PV.liftL_length]) h1 fun j x v hx hv=>?_
   exact(hd j (x.lift 1) v (by rw[PV.liftL_get,hx];rfl) hv).low x rfl
 | row e k xs =>
  simp only[Blk.lift]at hx
  cases hx with
  | row v e k xs vs ho hk hr hd=>exact .row v e k xs vs ho hk hr hd
 | rowp e cs =>
  simp only[Blk.lift]at hx
  cases hx with
  | rowp v e _ vs ho hr h1 hd =>
   refine .rowp v e cs vs ho (by rw[PV.liftL_length]at hr;exact hr) h1 fun j x u hx hu=>?_
   exact(hd j (x.lift 1) u (by rw[PV.liftL_get,hx];rfl) hu).low x rfl
 | siter s pos=>simp only[Blk.lift]at hx;cases hx with|siter g s pos ho hg=>exact .siter g s pos ho hg
 | gmap g cur clock=>simp only[Blk.lift]at hx;cases hx with|gmap g cur clock ho hg=>exact .gmap g cur clock ho hg
 | mit g since seen last=>simp only[Blk.lift]at hx;cases hx with|mit h g since seen last ho hg=>exact .mit h g since seen last ho hg
 | glob g o=>simp only[Blk.lift]at hx;cases hx with|glob _ _ ho hg hd=>exact .glob g o ho hg hd
 | mp es=>simp only[Blk.lift]at hx;cases hx with|mp g clock es cur ho hg hl hd hb hc=>exact .mp g clock es cur ho hg hl hd hb hc
 | lp n' f ps asg body st state pending =>
  simp only[Blk.lift]at hx
  cases hx with
  | lp g _ _ _ _ _ _ _ _ tmps df ho hg hl hd=>exact .lp g n' f ps asg body st state pending tmps df ho hg hl fun t p hp=>(hd t _ (za8 hp)).low p rfl
 | gone=>exact .gone v
theorem BR.block_lt{β:Nm→Value}{w:World}{o:Nat→Prop}{v:Value}{b:Blk}(hx:BR β w o v b)(hl:b.live=true){g:Nat}(hg:z2h v=some g):o g:=by
 cases hx with
 | gone v=>cases hl
 | box g' t cs cur ho hg' hl h1 hd=>simp[z2h]at hg;subst hg;exact ho
 | row v e k xs vs ho hk hr hd =>
  exact zD95
 | rowp v e cs vs ho hr h1 hd =>
  exact zD95
 | siter g' s pos ho hg'=>simp[z2h]at hg;subst hg;exact ho
 | gmap g' cur clock ho hg'=>simp[z2h]at hg;subst hg;exact ho
 | mit h' g' since seen last ho hg'=>simp[z2h]at hg;subst hg;exact ho
 | glob g' o ho hg' hd=>simp[z2h]at hg;subst hg;exact ho
 | mp g' clock es cur ho hg' hl' hd hb hc=>simp[z2h]at hg;subst hg;exact ho
 | lp g' n' f ps asg body st state pending tmps df ho hg' hl' hd=>simp[z2h]at hg;subst hg;exact ho
def zey(v:Value):D:=match v with
 | .slice none 0 0=>.slice []
 | v=>.lit v
@[simp] theorem litD_bool(b:Bool):zey (.bool b)=.lit (.bool b):=rfl
@[simp] theorem litD_int(k:IntKind)(b:Int):zey (.int k b)=.lit (.int k b):=rfl
@[simp] theorem litD_string(b:ByteArray):zey (.string b)=.lit (.string b):=rfl
@[simp] theorem litD_nil:zey (.slice none 0 0)=.slice []:=rfl
@[simp] theorem litD_pointer(b:Option Addr):zey (.pointer b)=.lit (.pointer b):=rfl
theorem DR.zey{w:World}{own:Nat→Prop}{v:Value}(h:v.oneCell'=true):DR w own (zey v) v:=by
 unfold Ab.zey
 split
 ·exact .nil none 0
 ·exact .lit _ h
end Go.Ab
namespace Go.Ab
def look{α:Type}:List (Nat × α)→Nat→Option α
 | [],_=>none
 | (k,v)::l,j=>if k=j then some v else look l j
abbrev Hp:=List (Nat × Blk)
abbrev Hf:=Nat→Nat→Option Blk
def push(hp:Hp)(up:Hf):Hf:=fun d s=>match d with|0=>look hp s|d+1=>up d s
def z19(H:Hf)(n:Nm):Option Blk:=match n.1 with|0=>H 0 n.2|d+1=>(H (d+1) n.2).map (Blk.lift (d+1))
def upd(H:Hf)(n:Nm)(b:Blk):Hf:=fun d s=>if d=n.1∧s=n.2 then some b else H d s
structure HR(H:Hf)(β:Nm→Value)(own:Nat→Prop)(w:World):Prop where
 blk:∀n b,z19 H n=some b→BR β w own (β n) b
 inj:∀n m bn bm,z19 H n=some bn→z19 H m=some bm→bn.live=true→bm.live=true→n≠m→∀g,z2h (β n)=some g→z2h (β m)≠some g
 lt:∀g,own g→g<w.heap.size
structure St where
 n:Nat
 tm:List (Nat × PV)
 hp:Hp
 up:Hf
structure Rep(s:St)(β:Nm→Value)(own:Nat→Prop)(a:Act)(w:World):Prop where
 size:a.tmps.size=s.n
 defers:a.defers=[]
 tm:∀t p,look s.tm t=some p→PR β w own p (a.tmps.getD t undef)
 heap:HR (push s.hp s.up) β own w
inductive RV where
 | v (p:PV)
 | new (b:Blk)
 | newT (b:Blk) (rest:List PV)
inductive RVR(H:Hf)(β:Nm→Value)(w:World)(own:Nat→Prop):RV→Value→Prop where
 | v (p:PV) (x:Value) (h:PR β w own p x):RVR H β w own (.v p) x
 | new (b:Blk) (x:Value) (h:BR β w own x b) (hf:∀n c,z19 H n=some c→c.live=true→∀g,z2h (β n)=some g→z2h x≠some g):RVR H β w own (.new b) x
 | newT (b:Blk) (rest:List PV) (x:Value) (xs:List Value) (h:BR β w own x b) (hf:∀n c,z19 H n=some c→c.live=true→∀g,z2h (β n)=some g→z2h x≠some g)
  (hl:rest.length=xs.length) (hd:∀(j:Nat) (p:PV) (v:Value),rest[j]? =some p→xs[j]? =some v→PR β w own p v):RVR H β w own (.newT b rest) (.tuple (x::xs).toArray)
abbrev zc7:=RV→Hf→Prop
structure z4b where
 post:zc7
 vol:Nm→Prop
 rnd:Option Nm
def y68(R:zc7)(β:Nm→Value)(own:Nat→Prop)(w:World)(e:Ending)(w':World):Prop :=
 ∃v r H own',e=.returned v∧R r H∧RVR H β w' own' r v∧HR H β own' w'∧Ext w own w' own'
def Fin(R:z4b)(β:Nm→Value)(own:Nat→Prop)(w:World)(e:Ending)(w':World):Prop :=
 ∃v r H own' β',e=.returned v∧R.post r H∧RVR H β' w' own' r v∧HR H β' own' w'∧Ext w own w' own'∧∀n,¬R.vol n→β' n=β n
theorem Fin.strong{R:zc7}{β:Nm→Value}{own:Nat→Prop}{w w':World}{e:Ending}(h:Fin ⟨R,fun _=>False,none⟩ β own w e w'):y68 R β own w e w':=by
 obtain⟨v,r,H,own',β',h1,h2,h3,h4,h5,h6⟩:=h
 obtain rfl:β'=β:=funext fun n=>h6 n id
 exact⟨v,r,H,own',h1,h2,h3,h4,h5⟩
theorem Fin.same{R:z4b}{β β1:Nm→Value}{own:Nat→Prop}{w w':World}{e:Ending}(hb:∀n,¬R.vol n→β1 n=β n)(h:Fin R β1 own w e w'):Fin R β own w e w':=by
 obtain⟨v,r,H,own',β',h1,h2,h3,h4,h5,h6⟩:=h
 exact⟨v,r,H,own',β',h1,h2,h3,h4,h5,fun n hn=>(h6 n hn).trans (hb n hn)⟩
def z8g(β:Nm→Value)(w:World)(own:Nat→Prop)(ps:List PV)(vs:List Value):Prop :=
 ps.length=vs.length∧∀(j:Nat) (p:PV) (v:Value),ps[j]? =some p→vs[j]? =some v→PR β w own p v
def Plain(P:Program)(f:FuncId):Prop:=∃fn,P.funcs[f]? =some fn∧(fn.name == "runtime.NumGoroutine")=false∧fn.body.isNone=false
structure Spec(P:Program)(f:FuncId)(args:List PV)(H:Hf)(R:zc7):Prop where
 plain:Plain P f
 run:∀β own w vals,HR H β own w→z8g β w own args vals→Calls P f vals.toArray w (y68 R β own w)
structure z9r(P:Program)(f:FuncId)(args:List PV)(H:Hf)(R:z4b):Prop where
 plain:Plain P f
 run:∀β own w vals,HR H β own w→z8g β w own args vals→Calls P f vals.toArray w (Fin R β own w)
def am(b:Frame)(a:Act)(k:List Item):Frame:=b.atR { a with defers:=b.defers } k
theorem zk2(b:Frame)(a:Act)(x:Operand):({ a with defers:=b.defers }:Act).eval x=a.eval x:=by cases x <;> rfl
theorem zb5(b:Frame)(a:Act):({ a with defers:=b.defers }:Act).eval=a.eval:=funext fun x=>zk2 b a x
theorem z90(b:Frame)(a:Act)(ops:Array Oper)(i:Nat)(rest:List Nat)(k:List Item)(v:Value) :
 (am b a (.inRegion ops (i::rest)::k)).finish v=am b (a.put ((ops[i]?).bind (·.dst)) v) (.inRegion ops rest::k):=by
 rw[am,Frame.finish_atR,am]
 cases(ops[i]?).bind (·.dst) <;> rfl
theorem z9a{ro:Option Nat}{ρ:Operand→Value}{o:Oper}{P:Program}{w w':World}{nx:Next}(h:(execOp ρ o).run P w=.ok nx w')(hn:∀d,nx≠.defer d):(o.semAt ro ρ).run P w=.ok nx w':=by
 rw[Oper.semAt_eq]
 ·exact h
 ·intro c hc
  rw[execOp,hc]at h
  simp only[Sem.run_bind]at h
  cases hr:(resolve ρ c o.type).run P w with
  | ok d w1=>rw[hr]at h;simp[Result.andThen]at h;exact hn d h.1.symm
  | halt a b=>rw[hr]at h;simp[Result.andThen]at h
structure Dx(Es:List Nat)(w w':World):Prop where
 os:w'.os=w.os
 tape:w'.tape=w.tape
 output:w'.output=w.output
 size:w'.heap.size=w.heap.size
 here:∀D∈Es,w.heap[D]? =some (.deferred (some []))
 block:∀g,g∉Es→w'.heap[g]? =w.heap[g]?
theorem Dx.nil(w:World):Dx [] w w:=⟨rfl,rfl,rfl,rfl,by simp,fun _ _=>rfl⟩
def mark(D:Nat):Deferred:={ target:=.collected D,args:=#[] }
def zu0(todo:List Item)(v:Value):Prop:=(todo=[]∧v=.bool true)∨((∃k,todo=.code .ret::k)∧v=.bool false)∨(∃id k,todo=.code (.exit id)::k∧exitTo id k=none∧v=.int .i64 (id:Nat))
def zbf(R:z4b)(β:Nm→Value)(b:Frame):Prop :=
 match R.rnd with
 | none=>b.roundOf=none
 | some m=>¬R.vol m∧∃L,b.roundOf=some L∧β m=.pointer (some ⟨L,0,none⟩)
def zqf(P:Program)(f:FuncId)(R:z4b)(β:Nm→Value)(own:Nat→Prop)(w:World)(b:Frame)(cs:List Frame)(m:Machine):Prop :=
 ∃w' fr r H ownm β',Steps P m (lone fr cs w')∧fr.fn=f∧fr.kind=.normal∧R.post r H∧Ext w own w' ownm∧(∀n,¬R.vol n→β' n=β n) ∧
  match R.rnd with
  | none=>fr.mode=.returning∧(∃Ds:List Nat,fr.defers=Ds.map mark++b.defers∧Ds.Nodup∧(∀D∈Ds,w.heap.size≤D∧w'.heap[D]? =some (.deferred (some [])))) ∧
   ∀Es w2,Dx Es w' w2→∃own' v fn,P.funcs[fr.fn]? =some fn∧(results fn fr.tmps).run P w2=.ok v w2∧RVR H β' w2 own' r v∧HR H β' own' w2∧∀g,g<w'.heap.size→¬ownm g→¬own' g
  | some _=>fr.mode=.run∧fr.roundOf=b.roundOf∧∃v,zu0 fr.todo v∧r=.v (.d (.lit v))∧HR H β' ownm w'
def Run(P:Program)(f:FuncId)(R:z4b)(k:List Item)(s:St):Prop :=
 ∀β own a w,Rep s β own a w→∀(b:Frame),b.fn=f→b.kind=.normal→zbf R (z71 β) b→∀cs,zqf P f R (z71 β) own w b cs (lone (am b a k) cs w)
variable{P:Program}{f:FuncId}{R:z4b}{k k':List Item}{s s':St}
theorem zqf.of_steps{β:Nm→Value}{own:Nat→Prop}{w:World}{b:Frame}{cs:List Frame}{m m1:Machine}(h:Steps P m m1)(hd:zqf P f R β own w b cs m1):zqf P f R β own w b cs m:=by
 obtain⟨w',fr,r,H,own',β',h1,rest⟩:=hd
 exact⟨w',fr,r,H,own',β',Steps.trans h h1,rest⟩
theorem zqf.ext{β:Nm→Value}{own own1:Nat→Prop}{w w1:World}{b:Frame}{cs:List Frame}{m:Machine}(h:Ext w own w1 own1)(hd:zqf P f R β own1 w1 b cs m):zqf P f R β own w b cs m:=by
 obtain⟨w',fr,r,H,own',β',h1,h2,h3,h4,h5,h6,h7⟩:=hd
 refine⟨w',fr,r,H,own',β',h1,h2,h3,h4,h.trans h5,h6,?_⟩
 cases hr:R.rnd with
 | none =>
  rw[hr]at h7
  obtain⟨a1,⟨Ds,a2,a3,a4⟩,a5⟩:=h7
  exact⟨a1,⟨Ds,a2,a3,fun D hD=>⟨Nat.le_trans h.size (a4 D hD).1,(a4 D hD).2⟩⟩,a5⟩
 | some l=>rw[hr]at h7;exact h7
theorem zqf.same{β β1:Nm→Value}{own:Nat→Prop}{w:World}{b:Frame}{cs:List Frame}{m:Machine}(hb:∀n,¬R.vol n→β1 n=β n)(hd:zqf P f R β1 own w b cs m):zqf P f R β own w b cs m:=by
 obtain⟨w',fr,r,H,own',β',h1,h2,h3,h4,h5,h6,h7⟩:=hd
 exact⟨w',fr,r,H,own',β',h1,h2,h3,h4,h5,fun n hn=>(h6 n hn).trans (hb n hn),h7⟩
theorem Run.step (h:∀β own a w,Rep s β own a w→∀(b:Frame) cs,∃β' own' a' w',Rep s' β' own' a' w'∧Ext w own w' own'∧z71 β'=z71 β ∧
  Steps P (lone (am b a k) cs w) (lone (am b a' k') cs w')) (hr:Run P f R k' s'):Run P f R k s:=by
 intro β own a w hrep b hb hk hn cs
 obtain⟨β',own',a',w',hrep',hext,ho,hst⟩:=h β own a w hrep b cs
 have:=hr β' own' a' w' hrep' b hb hk (by rw[ho];exact hn) cs
 rw[ho]at this
 exact(this.ext hext).of_steps hst
theorem Run.same(h:∀(b:Frame) a w cs,Steps P (lone (am b a k) cs w) (lone (am b a k') cs w))(hr:Run P f R k' s):Run P f R k s :=
 Run.step (fun β own a w hrep b cs=>⟨β,own,a,w,hrep,Ext.refl _ _,rfl,h b a w cs⟩) hr
theorem z08{x y:Code}(h:Run P f R (.code x::.code y::k) s):Run P f R (.code (.seq x y)::k) s:=Run.same (fun _ _ _ _=>.one stepR_seq) h
theorem z04(h:Run P f R k s):Run P f R (.code .skip::k) s:=Run.same (fun _ _ _ _=>.one stepR_skip) h
theorem z03{id:Nat}(h:Run P f R k s):Run P f R (.inBlock id::k) s:=Run.same (fun _ _ _ _=>.one stepR_inBlock) h
theorem z01{id:Nat}{c:Code}(h:Run P f R (.code c::.inBlock id::k) s):Run P f R (.code (.block id c)::k) s:=Run.same (fun _ _ _ _=>.one stepR_block) h
theorem z0r{c:Code}(h:Run P f R (.inLoop c::k) s):Run P f R (.code (.loop c)::k) s:=by
 intro β own a w hrep b hb hk hn cs
 obtain⟨w',fr,r,H,own',β',hst,h2,h3,h4,h5,h6,h7⟩:=h β own a w hrep b hb hk hn cs
 refine⟨w',fr,r,H,own',β',?_,h2,h3,h4,h5,h6,h7⟩
 have e1:step P (lone (am b a (.code (.loop c)::k)) cs w)=.next (lone (am b a (.code c::.inLoop c::k)) cs w):=stepR_loop
 have e2:step P (lone (am b a (.inLoop c::k)) cs w)=.next (lone (am b a (.code c::.inLoop c::k)) cs w):=stepR_inLoop
 obtain⟨n,hn'⟩:=hst
 cases n with
 | zero =>
  exfalso
  simp only[runN,Stepped.next.injEq]at hn'
  have hfr:fr=am b a (.inLoop c::k):=by
   have:=congrArg (fun m=>(m.gs[0]?).map (·.frame)) hn'
   simpa[lone]using this.symm
  cases hr:R.rnd with
  | none=>rw[hr]at h7;have:=h7.1;rw[hfr]at this;simp[am,Frame.atR]at this
  | some l =>
   rw[hr]at h7
   obtain⟨_,_,v,hv,_⟩:=h7
   rw[hfr]at hv
   rcases hv with⟨h,_⟩|⟨⟨k',h⟩,_⟩|⟨id,k',h,_⟩ <;> simp[am,Frame.atR]at h
 | succ n =>
  refine⟨n+1,?_⟩
  simp only[runN,e2]at hn'
  simp only[runN,e1]
  exact hn'
theorem z1u{c:Code}(h:Run P f R (.code c::.inLoop c::k) s):Run P f R (.inLoop c::k) s:=Run.same (fun _ _ _ _=>.one stepR_inLoop) h
theorem y2m{id:Nat}(hk:exitTo id k=some k')(h:Run P f R k' s):Run P f R (.code (.exit id)::k) s:=Run.same (fun _ _ _ _=>.one (stepR_exit hk)) h
theorem z0o{id:Nat}(h:Run P f R k' s)(hk:exitTo id k=some k':=by exact rfl):Run P f R (.code (.exit id)::k) s:=y2m hk h
theorem ztu{c:Code}{σ:Type}(I:σ→St)(μ:σ→Nat)(h:∀x,(∀y,μ y<μ x→Run P f R (.inLoop c::k) (I y))→Run P f R (.code c::.inLoop c::k) (I x)) :
 ∀x,Run P f R (.inLoop c::k) (I x):=by
 have key:∀n x,μ x=n→Run P f R (.inLoop c::k) (I x):=by
  intro n
  induction n using Nat.strongRecOn with
  | _ n ih=>exact fun x hx=>z1u (h x fun y hy=>ih (μ y) (hx▸hy) y rfl)
 exact fun x=>key _ x rfl
def Le(s' s:St):Prop:=∀β own a w,Rep s' β own a w→∃β',z71 β'=z71 β∧Rep s β' own a w
theorem Run.le(hl:Le s' s)(h:Run P f R k s):Run P f R k s':=by
 intro β own a w hrep b hb hk hn cs
 obtain⟨β',ho,hrep'⟩:=hl β own a w hrep
 have:=h β' own a w hrep' b hb hk (by rw[ho];exact hn) cs
 rw[ho]at this
 exact this
def St.ev(s:St):Operand→Option PV
 | .tmp t=>look s.tm t
 | .const v=>if v.oneCell' then some (.d (.lit v))else none
 | .func g=>some (.fn (.func g) [] [])
 | .global _=>none
theorem Rep.ev{β:Nm→Value}{own:Nat→Prop}{a:Act}{w:World}(h:Rep s β own a w){x:Operand}{p:PV}(hx:s.ev x=some p):PR β w own p (a.eval x):=by
 cases x with
 | tmp t=>exact h.tm t p hx
 | func g =>
  simp only[St.ev,zAh]at hx
  subst hx
  exact .fn _ [] [] [] [] rfl rfl (by simp) (by simp)
 | global g=>simp[St.ev]at hx
 | const v =>
  simp only[St.ev]at hx
  split at hx
  ·rename_i h1
   simp at hx;subst hx
   exact .d _ _ (.lit _ h1)
  ·cases hx
theorem PR.lit{β:Nm→Value}{own:Nat→Prop}{w:World}{u v:Value}(h:PR β w own (.d (.lit u)) v):v=u:=by
 cases h with|d x v h=>cases h with|lit v h=>rfl
theorem z2q{c:Operand}{x y:Code}{t:Bool}(hc:s.ev c=some (.d (.lit (.bool t))))(ht:t=true→Run P f R (.code x::k) s)(hf:t=false→Run P f R (.code y::k) s) :
 Run P f R (.code (.cond c x y)::k) s:=by
 have hst:∀(b:Frame) a w cs β own,Rep s β own a w→Steps P (lone (am b a (.code (.cond c x y)::k)) cs w) (lone (am b a (.code (if t then x else y)::k)) cs w):=by
  intro b a w cs β own hrep
  exact .one (stepR_cond (by rw[zk2];exact(hrep.ev hc).lit))
 cases t with
 | true=>exact Run.step (fun β own a w hrep b cs=>⟨β,own,a,w,hrep,Ext.refl _ _,rfl,hst b a w cs β own hrep⟩) (ht rfl)
 | false=>exact Run.step (fun β own a w hrep b cs=>⟨β,own,a,w,hrep,Ext.refl _ _,rfl,hst b a w cs β own hrep⟩) (hf rfl)
theorem y6x{c:Operand}{x y:Code}{p:Prop}{inst:Decidable p}(hc:s.ev c=some (.d (.lit (.bool (decide p)))))(ht:p→Run P f R (.code x::k) s)(hf:¬p→Run P f R (.code y::k) s) :
 Run P f R (.code (.cond c x y)::k) s :=
 z2q hc (fun h=>ht (by simpa using h)) fun h=>hf (by simpa using h)
theorem z0h{c:Operand}{x y:Code}{p:Prop}{inst:Decidable p}(ht:p→Run P f R (.code x::k) s)(hf:¬p→Run P f R (.code y::k) s)(hc:s.ev c=some (.d (.lit (.bool (decide p)))):=by exact rfl):Run P f R (.code (.cond c x y)::k) s:=y6x hc ht hf
theorem z38{c:Operand}{x y:Code}{p:Prop}{inst:Decidable p}(hc:s.ev c=some (.d (.lit (.bool (!decide p)))))(ht:¬p→Run P f R (.code x::k) s)(hf:p→Run P f R (.code y::k) s) :
 Run P f R (.code (.cond c x y)::k) s :=
 z2q hc (fun h=>ht (by simpa using h)) fun h=>hf (by simpa using h)
theorem y38{c:Operand}{x y:Code}(hc:s.ev c=some (.d (.lit (.bool true))))(ht:Run P f R (.code x::k) s):Run P f R (.code (.cond c x y)::k) s :=
 z2q hc (fun _=>ht) fun h=>by cases h
theorem z1j{c:Operand}{x y:Code}(ht:Run P f R (.code x::k) s)(hc:s.ev c=some (.d (.lit (.bool true))):=by exact rfl):Run P f R (.code (.cond c x y)::k) s:=y38 hc ht
theorem zyn{c:Operand}{x y:Code}(hc:s.ev c=some (.d (.lit (.bool false))))(hf:Run P f R (.code y::k) s):Run P f R (.code (.cond c x y)::k) s :=
 z2q hc (fun h=>by cases h) fun _=>hf
theorem z15{c:Operand}{x y:Code}(hf:Run P f R (.code y::k) s)(hc:s.ev c=some (.d (.lit (.bool false))):=by exact rfl):Run P f R (.code (.cond c x y)::k) s:=zyn hc hf
def Ops(P:Program)(f:FuncId)(R:z4b)(all:Array Oper)(l:List Oper)(k:List Item)(s:St):Prop :=
 ∀is:List Nat,is.map (fun i=>all[i]?)=l.map some→Run P f R (.inRegion all is::k) s
theorem z00{id:Nat}{l:List Oper}(h:Ops P f R l.toArray l k s):Run P f R (.code (.region id l.toArray false)::k) s:=by
 refine Run.same (fun _ _ _ _=>.one stepR_region) (h _ ?_)
 apply List.ext_getElem?
 intro i
 simp only[zAd,List.getElem?_range',List.size_toArray]
 by_cases hi:i<l.length
 ·simp[hi]
 ·simp[hi,zAv (Nat.le_of_not_lt hi)]
theorem z09{all:Array Oper}(h:Run P f R k s):Ops P f R all [] k s:=by
 intro is his
 have:is=[]:=by simpa using his
 subst this
 exact Run.same (fun _ _ _ _=>.one stepR_region_end) h
def Op1(P:Program)(f:FuncId)(R:z4b)(all:Array Oper)(o:Oper)(l:List Oper)(k:List Item)(s:St):Prop :=
 ∀i is,all[i]? =some o→is.map (fun i=>all[i]?)=l.map some→∀β own a w,Rep s β own a w→Region.wanted o (yielded all a.tmps)=true →
  ∀(b:Frame),b.fn=f→b.kind=.normal→zbf R (z71 β) b→∀cs,zqf P f R (z71 β) own w b cs (lone (am b a (.inRegion all (i::is)::k)) cs w)
section
variable{all:Array Oper}{o:Oper}{l:List Oper}
theorem zz1(hg:o.guard=none)(h:Op1 P f R all o l k s):Ops P f R all (o::l) k s:=by
 intro is his
 cases is with
 | nil=>simp at his
 | cons i rest =>
  simp only[List.map_cons,List.cons.injEq]at his
  exact fun β own a w hrep=>h i rest his.1 his.2 β own a w hrep (by simp[Region.wanted,hg])
theorem z9k{s:St}{β:Nm→Value}{own:Nat→Prop}{a:Act}{w:World}(hrep:Rep s β own a w){j d:Nat}{t:Bool}(hj:(all[j]?).bind (·.dst)=some d)
 (hd:look s.tm d=some (.d (.lit (.bool t)))):yielded all a.tmps j=some t:=by
 have h1:=(hrep.tm d _ hd).lit
 have h2:a.tmps[d]? =some (.bool t):=by
  rw[Array.getD_eq_getD_getElem?]at h1
  cases hx:a.tmps[d]? with
  | none=>rw[hx]at h1;simp[undef]at h1
  | some x=>rw[hx]at h1;simpa using h1
 simp[yielded,hj,h2]
theorem PR.undef(β:Nm→Value)(w:World)(own:Nat→Prop):PR β w own (.tup []) Go.undef:=.tup [] [] rfl (by simp)
theorem zb9{s:St}{β:Nm→Value}{own:Nat→Prop}{a:Act}{w:World}(hrep:Rep s β own a w){j d:Nat}(hj:(all[j]?).bind (·.dst)=some d)
 (hd:look s.tm d=some (.tup [])):yielded all a.tmps j=none:=by
 have h1:=hrep.tm d _ hd
 rw[Array.getD_eq_getD_getElem?]at h1
 simp only[yielded,hj,Option.bind_some]
 cases hx:a.tmps[d]? with
 | none=>rfl
 | some x =>
  rw[hx]at h1
  simp only[Option.getD_some]at h1
  generalize x=y at h1
  cases h1 with
  | tup ps vs hl hd=>rfl
def St.put(s:St)(dst:Option Nat)(p:PV):St:=match dst with|some d=>{ s with tm:=(d,p)::s.tm }|none=>s
def St.fits(s:St)(dst:Option Nat):Bool:=match dst with|some d=>decide (d<s.n)|none=>true
theorem Rep.put{s:St}{β:Nm→Value}{own:Nat→Prop}{a:Act}{w:World}(h:Rep s β own a w){dst:Option Nat}{p:PV}{v:Value}(hf:s.fits dst=true)(hp:PR β w own p v) :
 Rep (s.put dst p) β own (a.put dst v) w:=by
 cases dst with
 | none=>exact h
 | some d =>
  have hd:d<s.n:=by simpa[St.fits]using hf
  refine⟨by simpa[Act.put,St.put]using h.size,h.defers,fun t q hq=>?_,h.heap⟩
  simp only[St.put,look]at hq
  split at hq
  ·rename_i he
   subst he
   simp at hq;subst hq
   have:d<a.tmps.size:=by rw[h.size];exact hd
   simp[Act.put,this,hp]
  ·rename_i hne
   have:=h.tm t q hq
   simpa[Act.put,Array.getElem?_setIfInBounds_ne hne]using this
theorem z7j{b:Frame}{a:Act}{cs:List Frame}{w:World}{i:Nat}{rest:List Nat}(ho:all[i]? =some o)(hw:Region.wanted o (yielded all a.tmps)=false) :
 Steps P (lone (am b a (.inRegion all (i::rest)::k)) cs w) (lone (am b (a.put o.dst undef) (.inRegion all rest::k)) cs w):=by
 have:=stepR_op_skip (P:=P) (b:=b) (a:={ a with defers:=b.defers }) (k:=k) (cs:=cs) (w:=w) (ops:=all) (i:=i) (rest:=rest) (by simp[ho,hw])
 refine .one (this.trans ?_)
 rw[ho]
 cases h:o.dst <;> simp[am,Act.put,h]
theorem y3o{j d:Nat}{want t:Bool}(hg:o.guard=some (j,want))(hj:(all[j]?).bind (·.dst)=some d)(hd:look s.tm d=some (.d (.lit (.bool t))))(ht:t=!want)
 (hf:s.fits o.dst=true) (h:Ops P f R all l k (s.put o.dst (.tup []))):Ops P f R all (o::l) k s:=by
 intro is his
 cases is with
 | nil=>simp at his
 | cons i rest =>
  simp only[List.map_cons,List.cons.injEq]at his
  refine Run.step (fun β own a w hrep b cs=>⟨β,own,_,w,hrep.put hf (.undef _ _ _),Ext.refl _ _,rfl,z7j his.1 ?_⟩) (h rest his.2)
  have hy:=z9k hrep hj hd
  subst ht
  simp[Region.wanted,hg,hy]
theorem y1t{j d:Nat}{want t:Bool}(hg:o.guard=some (j,want))(hj:(all[j]?).bind (·.dst)=some d)(hd:look s.tm d=some (.d (.lit (.bool t))))(ht:t=want)
 (h:Op1 P f R all o l k s):Ops P f R all (o::l) k s:=by
 intro is his
 cases is with
 | nil=>simp at his
 | cons i rest =>
  simp only[List.map_cons,List.cons.injEq]at his
  intro β own a w hrep
  refine h i rest his.1 his.2 β own a w hrep ?_
  have hy:=z9k hrep hj hd
  subst ht
  simp[Region.wanted,hg,hy]
def z1z(P:Program)(o:Oper)(s s':St):Prop :=
 ∀β own a w,Rep s β own a w→∃nx v w' β' own',(execOp a.eval o).run P w=.ok nx w'∧(nx=.value v∨(nx=.skip∧v=undef))∧Rep s' β' own' (a.put o.dst v) w'∧Ext w own w' own'∧z71 β'=z71 β
theorem z0b(hd:z1z P o s s')(h:Ops P f R all l k s'):Op1 P f R all o l k s:=by
 intro i rest ho hrest β own a w hrep hw b hb hk hn cs
 obtain⟨nx,v,w',β',own',hrun,hnx,hrep',hext,hout⟩:=hd β own a w hrep
 have hdone:=h rest hrest β' own' _ w' hrep' b hb hk (by rw[hout];exact hn) cs
 rw[hout]at hdone
 refine(hdone.ext hext).of_steps (.one (step_lone_go ?_))
 have hgo:=stepGR_op (P:=P) (b:=b) (a:={ a with defers:=b.defers }) (k:=k) (cs:=cs) (w:=w) (rest:=rest) ho hw
 have hfin:∀v,(am b a (.inRegion all (i::rest)::k)).finish v=am b (a.put o.dst v) (.inRegion all rest::k):=by
  intro v;rw[z90,ho];rfl
 have hsem:=z9a (ro:=b.roundOf) hrun (by rcases hnx with rfl|⟨rfl,_⟩ <;> simp)
 rw[←zb5 b a]at hsem
 rw[show am b a (.inRegion all (i::rest)::k)=b.atR { a with defers:=b.defers } (.inRegion all (i::rest)::k)from rfl]at hfin⊢
 rw[hgo,←hfin]
 rcases hnx with rfl|⟨rfl,rfl⟩ <;> simp[stepG.apply,hsem]
theorem zgg{g:FuncId} (hc:∀β own a w,Rep s β own a w→∃vals w1 own1,(execOp a.eval o).run P w=.ok (.enter g vals) w1∧Ext w own w1 own1 ∧
  Calls P g vals w1 fun e w'=>∃v β' own' s',e=.returned v∧Rep s' β' own' (a.put o.dst v) w'∧Ext w1 own1 w' own'∧z71 β'=z71 β∧Ops P f R all l k s'):Op1 P f R all o l k s:=by
 intro i rest ho hrest β own a w hrep hw b hb hk hn cs
 obtain⟨vals,w1,own1,hrun,hext1,hcall⟩:=hc β own a w hrep
 obtain⟨e,w',fr,⟨v,β',own',s',rfl,hrep',hext,hout,hops⟩,hsteps,_,hleave⟩:=hcall (am b a (.inRegion all (i::rest)::k)::cs)
 have hdone:=hops rest hrest β' own' _ w' hrep' b hb hk (by rw[hout];exact hn) cs
 rw[hout]at hdone
 refine(hdone.ext (hext1.trans hext)).of_steps ?_
 have hgo:=stepGR_op (P:=P) (b:=b) (a:={ a with defers:=b.defers }) (k:=k) (cs:=cs) (w:=w) (rest:=rest) ho hw
 have hfin:∀v,(am b a (.inRegion all (i::rest)::k)).finish v=am b (a.put o.dst v) (.inRegion all rest::k):=by
  intro v;rw[z90,ho];rfl
 have hsem:=z9a (ro:=b.roundOf) hrun (by simp)
 rw[←zb5 b a]at hsem
 have henter:step P (lone (am b a (.inRegion all (i::rest)::k)) cs w)=.next (lone (Frame.enter P g vals .normal) (am b a (.inRegion all (i::rest)::k)::cs) w1) :=
  step_lone_go (by
   rw[show am b a (.inRegion all (i::rest)::k)=b.atR { a with defers:=b.defers } (.inRegion all (i::rest)::k)from rfl]
   rw[hgo];simp[stepG.apply,hsem,Frame.atR])
 exact .head henter (Steps.trans hsteps (.one (by rw[←hfin];exact step_leave_returned hleave)))
end
theorem PV.lift_lift(d:Nat):∀p:PV,(p.lift d).lift 1=p.lift (d+1):=by
 have:∀p:PV,∀d,(p.lift d).lift 1=p.lift (d+1):=by
  intro p
  refine PV.rec (motive_1:=fun p=>∀d,(p.lift d).lift 1=p.lift (d+1)) (motive_2:=fun ps=>∀d,PV.liftL 1 (PV.liftL d ps)=PV.liftL (d+1) ps)
   ?_ ?_ ?_ ?_ ?_ ?_ ?_ ?_ ?_ ?_ ?_ ?_ ?_ ?_ ?_ p <;> intros <;> simp_all [PV.lift,PV.liftL,Nat.add_assoc]
 exact fun p=>this p d
theorem PV.liftL_liftL(d:Nat)(ps:List PV):PV.liftL 1 (PV.liftL d ps)=PV.liftL (d+1) ps:=by
 induction ps with
 | nil=>rfl
 | cons p ps ih=>simp[PV.liftL,ih,PV.lift_lift]
theorem zba(d:Nat):∀st:List (Nat × PV),z3j 1 (z3j d st)=z3j (d+1) st
 | []=>rfl
 | (t,p)::r=>by simp[z3j,zba d r,PV.lift_lift]
theorem Blk.lift_lift(d:Nat)(b:Blk):(b.lift d).lift 1=b.lift (d+1):=by
 cases b <;> simp[Blk.lift,PV.liftL_liftL,zba]
theorem Blk.lift_live(d:Nat)(b:Blk):(b.lift d).live=b.live:=by cases b <;> rfl
theorem zbv(hp:Hp)(H:Hf)(d t:Nat):z19 (push hp H) (d+1,t)=(z19 H (d,t)).map (Blk.lift 1):=by
 cases d with
 | zero=>simp[z19,push]
 | succ d =>
  simp only[z19,push,Option.map_map]
  congr 1
  funext b
  simp[Function.comp,Blk.lift_lift]
theorem HR.inner{H:Hf}{β:Nm→Value}{own:Nat→Prop}{w:World}(h:HR H β own w):HR (push [] H) (inn β) own w:=by
 have key:∀n b,z19 (push [] H) n=some b→∃m c,n=(m.1+1,m.2)∧z19 H m=some c∧b=c.lift 1:=by
  intro n b hn
  obtain⟨d,t⟩:=n
  cases d with
  | zero=>simp[z19,push,look]at hn
  | succ d =>
   rw[zbv]at hn
   cases hc:z19 H (d,t)with
   | none=>rw[hc]at hn;simp at hn
   | some c=>rw[hc]at hn;simp at hn;exact⟨(d,t),c,rfl,hc,hn.symm⟩
 refine⟨fun n b hn=>?_,fun n m bn bm hn hm ln lm hne g hg=>?_,h.lt⟩
 ·obtain⟨m,c,rfl,hc,rfl⟩:=key n b hn
  exact BR.lift (β:=inn β) (by rw[z74];exact h.blk m c hc)
 ·obtain⟨m1,c1,rfl,hc1,rfl⟩:=key n bn hn
  obtain⟨m2,c2,rfl,hc2,rfl⟩:=key m bm hm
  rw[Blk.lift_live]at ln lm
  exact h.inj m1 m2 c1 c2 hc1 hc2 ln lm (fun e=>hne (by rw[e])) g hg
theorem HR.outer{hp:Hp}{H:Hf}{β:Nm→Value}{own:Nat→Prop}{w:World}(h:HR (push hp H) β own w):HR H (z71 β) own w:=by
 have key:∀n b,z19 H n=some b→z19 (push hp H) (n.1+1,n.2)=some (b.lift 1):=by
  rintro⟨d,t⟩ b hn
  rw[zbv,hn];rfl
 refine⟨fun n b hn=>?_,fun n m bn bm hn hm ln lm hne g hg=>?_,h.lt⟩
 ·exact BR.low (h.blk _ _ (key n b hn))
 ·refine h.inj _ _ _ _ (key n bn hn) (key m bm hm) (by rwa [Blk.lift_live]) (by rwa [Blk.lift_live]) (fun e=>hne ?_) g hg
  simp only[Prod.mk.injEq]at e
  exact Prod.ext (by omega) e.2
def zkv:Nat→List PV→List (Nat × PV)
 | _,[]=>[]
 | i,p::ps=>(i,p.lift 1)::zkv (i+1) ps
theorem znv(ps:List PV):∀i t p,look (zkv i ps) t=some p→∃j q,t=i+j∧ps[j]? =some q∧p=q.lift 1:=by
 induction ps with
 | nil=>intro i t p h;simp[zkv,look]at h
 | cons q ps ih =>
  intro i t p h
  simp only[zkv,look]at h
  split at h
  ·rename_i he;subst he;simp at h;exact⟨0,q,rfl,rfl,h.symm⟩
  ·obtain⟨j,r,rfl,hj,hp⟩:=ih _ _ _ h
   exact⟨j+1,r,by omega,by simpa using hj,hp⟩
theorem Dx.cell{Es:List Nat}{w w2:World}(h:Dx Es w w2){g:Nat}{o:Obj}(hg:w.heap[g]? =some o)(hd:∀x,o≠.deferred x):w2.heap[g]? =some o:=by
 rw[h.block g fun hm=>hd _ (by have:=h.here g hm;rw[hg]at this;simpa using this)]
 exact hg
theorem Dx.cell?{Es:List Nat}{w w2:World}(h:Dx Es w w2){a:Addr}{v:Value}(hc:w.cell? a=some v):w2.cell? a=some v:=by
 cases hg:w.heap[a.block]? with
 | none=>simp[World.cell?,hg]at hc
 | some o =>
  have:=h.cell hg fun x hx=>by subst hx;simp[World.cell?,hg]at hc
  simp only[World.cell?,hg]at hc
  simp only[World.cell?,this]
  exact hc
theorem DR.dx{Es:List Nat}{w w2:World}(h:Dx Es w w2){own:Nat→Prop}{x:D}{v:Value}(hx:DR w own x v):DR w2 own x v:=by
 induction hx with
 | lit v h1=>exact .lit v h1
 | nil a cap=>exact .nil a cap
 | slice xs g o cap k c hc hown hlt hk hcell hd ih=>exact .slice xs g o cap k c hc hown (by rw[h.size];exact hlt) hk (fun i hi j hj=>⟨h.cell? (hcell i hi j hj).1,(hcell i hi j hj).2⟩) ih
 | agg cs vs hl h1 hd ih=>exact .agg cs vs hl h1 ih
 | ifc t x v hx ih=>exact .ifc t x v ih
theorem PR.dx{Es:List Nat}{w w2:World}(h:Dx Es w w2){β:Nm→Value}{own:Nat→Prop}{x:PV}{v:Value}(hx:PR β w own x v):PR β w2 own x v:=by
 induction hx with
 | any v=>exact .any v
 | d x v hx=>exact .d x v (hx.dx h)
 | ptr n off g hb=>exact .ptr n off g hb
 | eptr cs g o c hown hlt hcell hd=>exact .eptr cs g o c hown (by rw[h.size];exact hlt) (fun j hj=>⟨h.cell? (hcell j hj).1,(hcell j hj).2⟩) fun j y hy=>(hd j y hy).dx h
 | ref n=>exact .ref n
 | rptr n k i off g len cap hb=>exact .rptr n k i off g len cap hb
 | rsub n k lo len L cap a hb hl hc=>exact .rsub n k lo len L cap a hb hl hc
 | al a b h v=>exact .al a b h v
 | agg cs vs hl h1 hd ih=>exact .agg cs vs hl h1 ih
 | tup ps vs hl hd ih=>exact .tup ps vs hl ih
 | fn f first cap fv cv hl hl' hd hd' ih ih'=>exact .fn f first cap fv cv hl hl' ih ih'
 | yl n L hb=>exact .yl n L hb
 | full xs a hx=>exact .full xs a (hx.dx h)
theorem BR.dx{Es:List Nat}{w w2:World}(h:Dx Es w w2){β:Nm→Value}{own:Nat→Prop}{v:Value}{b:Blk}(hx:BR β w own v b):BR β w2 own v b:=by
 cases hx with
 | box g t cs cur ho hg hl h1 hd=>exact .box g t cs cur ho (h.cell hg (by simp)) hl h1 fun j x v hx hv=>(hd j x v hx hv).dx h
 | row v e k xs vs ho hk hr hd =>
  refine .row v e k xs vs ho hk ?_ ⟨hd.1,hd.2.1,hd.2.2.1,fun i x hi j y hj=>let ⟨v,h1,h2⟩:=hd.2.2.2 i x hi j y hj;⟨v,h1,h2.dx h⟩⟩
  refine⟨hr.1,?_⟩
  exact zD91
 | rowp v e cs vs ho hr h1 hd =>
  refine .rowp v e cs vs ho ⟨hr.1,?_⟩ h1 fun j x u hx hu=>(hd j x u hx hu).dx h
  exact zD91
 | siter g s pos ho hg=>exact .siter g s pos ho (h.cell hg (by simp))
 | gmap g cur clock ho hg=>exact .gmap g cur clock ho (h.cell hg (by simp))
 | mit h' g since seen last ho hg=>exact .mit h' g since seen last ho (h.cell hg (by simp))
 | glob g o ho hg hd=>exact .glob g o ho (h.cell hg hd) hd
 | mp g clock es cur ho hg hl hd hb hc=>exact .mp g clock es cur ho (h.cell hg (by simp)) hl (fun j x m hx hm=>let ⟨a,b,c⟩:=hd j x m hx hm;⟨a,b,c.dx h⟩) hb hc
 | lp g n f ps asg body st state pending tmps df ho hg hl hd=>exact .lp g n f ps asg body st state pending tmps df ho (h.cell hg (by simp)) hl fun t p hp=>(hd t p hp).dx h
 | gone v=>exact .gone v
theorem HR.dx{Es:List Nat}{w w2:World}(h:Dx Es w w2){H:Hf}{β:Nm→Value}{own:Nat→Prop}(hr:HR H β own w):HR H β own w2 :=
 ⟨fun n b hb=>(hr.blk n b hb).dx h,hr.inj,fun g hg=>by rw[h.size];exact hr.lt g hg⟩
theorem Rep.dx{Es:List Nat}{w w2:World}(h:Dx Es w w2){s:St}{β:Nm→Value}{own:Nat→Prop}{a:Act}(hr:Rep s β own a w):Rep s β own a w2 :=
 ⟨hr.size,hr.defers,fun t p hp=>(hr.tm t p hp).dx h,hr.heap.dx h⟩
theorem zcf{P:Program}(cs:List Frame):∀(Ds:List Nat) (fr:Frame) (w:World),fr.mode=.returning→fr.defers=Ds.map mark→Ds.Nodup→(∀D∈Ds,w.heap[D]? =some (.deferred (some []))) →
 ∃w2,Steps P (lone fr cs w) (lone { fr with defers:=[] } cs w2)∧Dx Ds w w2
 | [],fr,w,hm,hd,_,_=>⟨w,by rw[show({ fr with defers:=[] }:Frame)=fr by cases fr;simp at hd;simp[hd]];exact .refl _ _,Dx.nil w⟩
 | D::Ds,fr,w,hm,hd,hnd,hh=>by
  have hD:=hh D (by simp)
  have hDl:D<w.heap.size:=(Array.getElem?_eq_some_iff.1 hD).1
  have h1:=step_collected (P:=P) (fr:=fr) (cs:=cs) (by rw[hm];simp) (by simpa using hd) (show(mark D).target=.collected D from rfl) (run_takeDeferred (P:=P) hD)
  have hnd':=List.nodup_cons.1 hnd
  have hoth:∀k,k≠D→(w.putObj D (.deferred none)).heap[k]? =w.heap[k]?:=fun k hk=>World.putObj_heap_other hk
  obtain⟨w2,e1,e2⟩:=zcf cs Ds { fr with defers:=[]++Ds.map mark } (w.putObj D (.deferred none)) hm (by simp) hnd'.2 fun D' hD'=>by
   rw[hoth D' fun e=>hnd'.1 (e▸hD')];exact hh D' (by simp[hD'])
  refine⟨w2,.head h1 e1,⟨e2.os,e2.tape,e2.output,by rw[e2.size];simp,hh,fun g hg=>?_⟩⟩
  simp only[zAc,not_or]at hg
  rw[e2.block g hg.2,hoth g hg.1]
theorem z4y{P:Program}{f:FuncId}{fn:Func}{c:Code}{args:List PV}{H:Hf}{R:z4b}(hf:P.funcs[f]? =some fn)(hnm:(fn.name == "runtime.NumGoroutine")=false)(hb:fn.body=some c)(hn:args.length≤fn.ntmps)
 (h:Run P f R [.code c] ⟨fn.ntmps,zkv 0 args,[],H⟩) (hr0:R.rnd=none:=by rfl):z9r P f args H R:=by
 refine⟨⟨fn,hf,hnm,by rw[hb];rfl⟩,fun β own w vals hh hargs cs=>?_⟩
 let b:Frame:={ fn:=f,tmps:=#[],todo:=[],defers:=[],mode:=.run,kind:=.normal,roundOf:=none }
 have henter:Frame.enter P f vals.toArray .normal=am b { tmps:=vals.toArray++Array.replicate (fn.ntmps-vals.toArray.size) undef,defers:=[] } [.code c]:=by
  simp[Frame.enter,am,Frame.atR,hf,hb,b]
 have hrep:Rep ⟨fn.ntmps,zkv 0 args,[],H⟩ (inn β) own { tmps:=vals.toArray++Array.replicate (fn.ntmps-vals.toArray.size) undef,defers:=[] } w:=by
  refine⟨by have:=hargs.1;simp;omega,rfl,fun t p hp=>?_,hh.inner⟩
  obtain⟨j,q,rfl,hj,rfl⟩:=znv args 0 t p hp
  have hlt:j<vals.length:=by rw[←hargs.1];exact(zA1.1 hj).1
  have hv:vals[j]? =some vals[j]:=zA0 hlt
  have:=hargs.2 j q _ hj hv
  refine PR.lift (β:=inn β) ?_
  rw[z74]
  simpa[Array.getElem?_append,hlt]using this
 obtain⟨w',fr,r,H',ownm,β',h1,h2,h3,h4,h5,h6,h7⟩:=h (inn β) own _ w hrep b rfl rfl (by rw[zbf,hr0]) cs
 rw[z74]at h6
 rw[hr0]at h7
 obtain⟨a1,⟨Ds,a2,a3,a4⟩,a5⟩:=h7
 obtain⟨w2,e1,e2⟩:=zcf (P:=P) cs Ds fr w' a1 (by simpa[b]using a2) a3 fun D hD=>(a4 D hD).2
 obtain⟨own',v,fn',c1,c2,c3,c4,c5⟩:=a5 Ds w2 e2
 refine⟨.returned v,w2,{ fr with defers:=[] },⟨v,r,H',own',β',rfl,h4,c3,c4,⟨e2.os.trans h5.os,e2.tape.trans h5.tape,e2.output.trans h5.output,by rw[e2.size];exact h5.size,fun g hg ho=>?_,fun g hg ho=>c5 g (zAx hg h5.size) (h5.owns g hg ho)⟩,h6⟩,?_,h2,a1,rfl,h3,fn',c1,c2⟩
 ·rw[e2.block g fun hD=>absurd (a4 g hD).1 (by omega)]
  exact h5.block g hg ho
 ·rw[henter];exact Steps.trans h1 e1
theorem z9r.strong{P:Program}{f:FuncId}{args:List PV}{H:Hf}{R:zc7}(h:z9r P f args H ⟨R,fun _=>False,none⟩):Spec P f args H R :=
 ⟨h.plain,fun β own w vals hh ha=>(h.run β own w vals hh ha).mono fun e w' hf=>hf.strong⟩
theorem z0g{P:Program}{f:FuncId}{fn:Func}{c:Code}{args:List PV}{H:Hf}{R:zc7}(hf:P.funcs[f]? =some fn)(hnm:(fn.name == "runtime.NumGoroutine")=false)(hb:fn.body=some c)(hn:args.length≤fn.ntmps)
 (h:Run P f ⟨R,fun _=>False,none⟩ [.code c] ⟨fn.ntmps,zkv 0 args,[],H⟩):Spec P f args H R:=(z4y hf hnm hb hn h).strong
def Res(P:Program)(fn:Func)(s:St)(r:RV):Prop :=
 ∀β own a w,Rep s β own a w→∃v own',(results fn a.tmps).run P w=.ok v w∧Ext w own w own'∧HR s.up (z71 β) own' w∧RVR s.up (z71 β) w own' r v
theorem zwq{P:Program}{f:FuncId}{fn:Func}{R:z4b}{k:List Item}{s:St}(hst:∀(b:Frame) a w cs,b.roundOf=none→∃todo,Steps P (lone (am b a k) cs w) (lone { am b a todo with mode:=.returning } cs w))
 (hf:P.funcs[f]? =some fn) (r:RV) (hr:Res P fn s r) (hR:R.post r s.up) (hn0:R.rnd=none):Run P f R k s:=by
 intro β own a w hrep b hb hk hn cs
 have hb0:b.roundOf=none:=by rw[zbf,hn0]at hn;exact hn
 obtain⟨todo,hs⟩:=hst b a w cs hb0
 refine⟨w,_,r,s.up,own,z71 β,hs,hb,hk,hR,Ext.refl _ _,fun _ _=>rfl,?_⟩
 rw[hn0]
 refine⟨rfl,⟨[],rfl,List.nodup_nil,by simp⟩,fun Es w2 hx=>?_⟩
 obtain⟨v,own',hrun,hext,hheap,hrv⟩:=hr β own a w2 (hrep.dx hx)
 exact⟨own',v,fn,by rw[←hf];exact congrArg _ hb,hrun,hrv,hheap,fun g hg ho=>hext.owns g (by rw[hx.size];exact hg) ho⟩
theorem z0e{fn:Func}(hf:P.funcs[f]? =some fn)(r:RV)(hr:Res P fn s r)(hR:R.post r s.up)(hn0:R.rnd=none:=by rfl):Run P f R (.code .ret::k) s :=
 zwq (fun _ _ _ _ hb=>⟨_,.one (stepR_ret hb)⟩) hf r hr hR hn0
theorem zcc{fn:Func}(hf:P.funcs[f]? =some fn)(r:RV)(hr:Res P fn s r)(hR:R.post r s.up)(hn0:R.rnd=none:=by rfl):Run P f R [] s :=
 zwq (fun _ _ _ _ hb=>⟨_,.one (stepR_end hb)⟩) hf r hr hR hn0
theorem zg5{m:Nm}(hn0:R.rnd=some m)(hR:R.post (.v (.d (.lit (.bool true)))) s.up):Run P f R [] s:=by
 intro β own a w hrep b hb hk hn cs
 refine⟨w,_,_,s.up,own,z71 β,.refl _ _,hb,hk,hR,Ext.refl _ _,fun _ _=>rfl,?_⟩
 rw[hn0]
 exact⟨rfl,rfl,.bool true,.inl ⟨rfl,rfl⟩,rfl,hrep.heap.outer⟩
theorem zdp{m:Nm}(hn0:R.rnd=some m)(hR:R.post (.v (.d (.lit (.bool false)))) s.up):Run P f R (.code .ret::k) s:=by
 intro β own a w hrep b hb hk hn cs
 refine⟨w,_,_,s.up,own,z71 β,.refl _ _,hb,hk,hR,Ext.refl _ _,fun _ _=>rfl,?_⟩
 rw[hn0]
 exact⟨rfl,rfl,.bool false,.inr (.inl ⟨⟨k,rfl⟩,rfl⟩),rfl,hrep.heap.outer⟩
theorem z4j{fn:Func}(h:fn.results=#[]):Res P fn s (.v (.tup [])):=fun β own a w hrep =>
 ⟨.tuple #[],own,by simp[results,h],Ext.refl _ _,hrep.heap.outer,.v _ _ (.tup [] [] rfl (by simp))⟩
theorem zz3{fn:Func}{t:Nat}{x:D}(h:fn.results=#[.tmp t])(ht:look s.tm t=some (.d x)):Res P fn s (.v (.d x)):=fun β own a w hrep =>
 ⟨a.tmps.getD t undef,own,by simp[results,h],Ext.refl _ _,hrep.heap.outer,.v _ _ ((hrep.tm t _ ht).low (.d x) rfl)⟩
theorem z0p{fn:Func}{t:Nat}{x:D}(h:fn.results=#[.tmp t]:=by exact rfl)(ht:look s.tm t=some (.d x):=by exact rfl):Res P fn s (.v (.d x)):=zz3 h ht
theorem y0a{fn:Func}{t u:Nat}{x y:D}(h:fn.results=#[.tmp t,.tmp u])(ht:look s.tm t=some (.d x))(hu:look s.tm u=some (.d y)):Res P fn s (.v (.tup [.d x,.d y])):=fun β own a w hrep =>
 ⟨.tuple #[a.tmps.getD t undef,a.tmps.getD u undef],own,by simp[results,h],Ext.refl _ _,hrep.heap.outer,
  .v _ _ (.tup [.d x,.d y] [a.tmps.getD t undef,a.tmps.getD u undef] rfl fun j p v hp hv=>by
   match j with
   | 0=>simp only[List.getElem?_cons_zero,zAh]at hp hv;subst hp hv;exact(hrep.tm t _ ht).low (.d x) rfl
   | 1=>simp only[List.getElem?_cons_succ,List.getElem?_cons_zero,zAh]at hp hv;subst hp hv;exact(hrep.tm u _ hu).low (.d y) rfl
   | j+2=>simp at hp)⟩
theorem z2s{fn:Func}{t u:Nat}{x y:D}(h:fn.results=#[.tmp t,.tmp u]:=by exact rfl)(ht:look s.tm t=some (.d x):=by exact rfl)(hu:look s.tm u=some (.d y):=by exact rfl):Res P fn s (.v (.tup [.d x,.d y])):=y0a h ht hu
theorem z4i{fn:Func}{t u q:Nat}{x y z:D}(h:fn.results=#[.tmp t,.tmp u,.tmp q])(ht:look s.tm t=some (.d x))(hu:look s.tm u=some (.d y))(hq:look s.tm q=some (.d z)):Res P fn s (.v (.tup [.d x,.d y,.d z])):=fun β own a w hrep =>
 ⟨.tuple #[a.tmps.getD t undef,a.tmps.getD u undef,a.tmps.getD q undef],own,by simp[results,h],Ext.refl _ _,hrep.heap.outer,
  .v _ _ (.tup [.d x,.d y,.d z] [a.tmps.getD t undef,a.tmps.getD u undef,a.tmps.getD q undef] rfl fun j p v hp hv=>by
   match j with
   | 0=>simp only[List.getElem?_cons_zero,zAh]at hp hv;subst hp hv;exact(hrep.tm t _ ht).low (.d x) rfl
   | 1=>simp only[List.getElem?_cons_succ,List.getElem?_cons_zero,zAh]at hp hv;subst hp hv;exact(hrep.tm u _ hu).low (.d y) rfl
   | 2=>simp only[List.getElem?_cons_succ,List.getElem?_cons_zero,zAh]at hp hv;subst hp hv;exact(hrep.tm q _ hq).low (.d z) rfl
   | j+3=>simp at hp)⟩
theorem zgz{P:Program}{b:Frame}{a:Act}{all:Array Oper}{o:Oper}{i:Nat}{is:List Nat}{k:List Item}{cs:List Frame}{w w1 w':World}{g:FuncId}{vals:Array Value}{fr:Frame}{v:Value}(ho:all[i]? =some o)
 (hw:Region.wanted o (yielded all a.tmps)=true) (hrun:(execOp a.eval o).run P w=.ok (.enter g vals) w1)
 (hsteps:Steps P (lone (Frame.enter P g vals .normal) (am b a (.inRegion all (i::is)::k)::cs) w1) (lone fr (am b a (.inRegion all (i::is)::k)::cs) w')) (hleave:fr.leaving P w' (.returned v)) :
 Steps P (lone (am b a (.inRegion all (i::is)::k)) cs w) (lone (am b (a.put o.dst v) (.inRegion all is::k)) cs w'):=by
 have hgo:=stepGR_op (P:=P) (b:=b) (a:={ a with defers:=b.defers }) (k:=k) (cs:=cs) (w:=w) (rest:=is) ho hw
 have hfin:∀v,(am b a (.inRegion all (i::is)::k)).finish v=am b (a.put o.dst v) (.inRegion all is::k):=by
  intro v;rw[z90,ho];rfl
 have hsem:=z9a (ro:=b.roundOf) hrun (by simp)
 rw[←zb5 b a]at hsem
 have henter:step P (lone (am b a (.inRegion all (i::is)::k)) cs w)=.next (lone (Frame.enter P g vals .normal) (am b a (.inRegion all (i::is)::k)::cs) w1) :=
  step_lone_go (by
   rw[show am b a (.inRegion all (i::is)::k)=b.atR { a with defers:=b.defers } (.inRegion all (i::is)::k)from rfl]
   rw[hgo];simp[stepG.apply,hsem,Frame.atR])
 exact .head henter (Steps.trans hsteps (.one (by rw[←hfin];exact step_leave_returned hleave)))
theorem y2j{P:Program}{b:Frame}{a:Act}{all:Array Oper}{o:Oper}{i:Nat}{is:List Nat}{k:List Item}{cs:List Frame}{w w':World}{nx:Next}{v:Value}(ho:all[i]? =some o)
 (hw:Region.wanted o (yielded all a.tmps)=true) (hrun:(execOp a.eval o).run P w=.ok nx w') (hnx:nx=.value v∨(nx=.skip∧v=undef)) :
 Steps P (lone (am b a (.inRegion all (i::is)::k)) cs w) (lone (am b (a.put o.dst v) (.inRegion all is::k)) cs w'):=by
 refine .one (step_lone_go ?_)
 have hgo:=stepGR_op (P:=P) (b:=b) (a:={ a with defers:=b.defers }) (k:=k) (cs:=cs) (w:=w) (rest:=is) ho hw
 have hfin:∀v,(am b a (.inRegion all (i::is)::k)).finish v=am b (a.put o.dst v) (.inRegion all is::k):=by
  intro v;rw[z90,ho];rfl
 have hsem:=z9a (ro:=b.roundOf) hrun (by rcases hnx with rfl|⟨rfl,_⟩ <;> simp)
 rw[←zb5 b a]at hsem
 rw[show am b a (.inRegion all (i::is)::k)=b.atR { a with defers:=b.defers } (.inRegion all (i::is)::k)from rfl]at hfin⊢
 rw[hgo,←hfin]
 rcases hnx with rfl|⟨rfl,rfl⟩ <;> simp[stepG.apply,hsem]
end Go.Ab
namespace Go.Ab
inductive TK where
 | bool|int (k:IntKind)|str|slice (e:TypeId)|ptr (e:TypeId)|struct|array (n:Nat) (e:TypeId)|map (k e:TypeId)|func|other
structure TI where
 size:Nat
 bytes:Nat
 kind:TK
 fields:List (Nat × Nat)
 zero:List Value
def TK.ofD:TypeDesc→TK
 | .bool=>.bool
 | .int k=>.int k
 | .string=>.str
 | .slice e=>.slice e
 | .pointer e=>.ptr e
 | .struct _=>.struct
 | .array n e=>.array n e
 | .map k e=>.map k e
 | .func ..=>.func
 | _=>.other
def TI.agg(t:TI):Bool:=match t.kind with|.struct=>true|.array _ _=>true|_=>false
def y18(P:Program)(t:TypeId):Option TI :=
 match P.info? t,P.underlying t with
 | some i,some u =>
  match i.zero with
  | some z=>some (TI.mk i.size i.bytes (TK.ofD u) (match u with|.struct fs=>fs.toList.map fun f=>(f.offset,((P.info? f.type).map (·.size)).getD 0)|_=>[]) z.cells.toList)
  | none=>none
 | _,_=>none
class z1d(P:Program)(t:TypeId)(ti:outParam TI):Prop where
 ok:y18 P t=some ti
section
variable{P:Program}{t:TypeId}{ti:TI}
theorem z1d.get(h:z1d P t ti):∃i u z,P.info? t=some i∧P.underlying t=some u∧i.zero=some z∧i.size=ti.size∧i.bytes=ti.bytes∧TK.ofD u=ti.kind∧z.cells.toList=ti.zero ∧
 (∀fs,u=.struct fs→ti.fields=fs.toList.map fun f=>(f.offset,((P.info? f.type).map (·.size)).getD 0)):=by
 have:=h.ok
 unfold y18 at this
 split at this
 ·rename_i i u hi hu
  split at this
  ·rename_i z hz
   simp at this
   subst this
   exact⟨i,u,z,hi,hu,hz,rfl,rfl,rfl,rfl,fun fs hfs=>by subst hfs;rfl⟩
  ·cases this
 ·cases this
theorem z1d.sizeOf(h:z1d P t ti)(w:World):(sizeOf t).run P w=.ok ti.size w:=by
 obtain⟨i,u,z,hi,hu,hz,hs,_⟩:=h.get
 simp[Go.sizeOf,typeInfo,hi,hs]
theorem z1d.isAgg(h:z1d P t ti)(w:World):(isAgg t).run P w=.ok ti.agg w:=by
 obtain⟨i,u,z,hi,hu,hz,hs,hb,hk,_⟩:=h.get
 unfold Go.isAgg
 rw[Sem.run_bind,run_underlying hu]
 cases u <;> simp[TI.agg,←hk,TK.ofD]
theorem z1d.zeroValue(h:z1d P t ti):∃z:Value,z.cells.toList=ti.zero∧∀w,(zeroValue t).run P w=.ok z w:=by
 obtain⟨i,u,z,hi,hu,hz,hs,hb,hk,hzz,_⟩:=h.get
 exact⟨z,hzz,fun w=>by simp[Go.zeroValue,typeInfo,hi,hz]⟩
theorem z1d.slice(h:z1d P t ti){e:TypeId}(hk:ti.kind=.slice e):P.underlying t=some (.slice e):=by
 exact zD41
theorem z1d.str(h:z1d P t ti)(hk:ti.kind=.str):P.underlying t=some .string:=by
 exact zD41
theorem z1d.bool(h:z1d P t ti)(hk:ti.kind=.bool):P.underlying t=some .bool:=by
 exact zD41
theorem z1d.int(h:z1d P t ti){k:IntKind}(hk:ti.kind=.int k):P.underlying t=some (.int k):=by
 exact zD41
theorem z1d.struct(h:z1d P t ti)(hk:ti.kind=.struct):∃fs,P.underlying t=some (.struct fs)∧ti.fields=fs.toList.map fun f=>(f.offset,((P.info? f.type).map (·.size)).getD 0):=by
 obtain⟨i,u,z,hi,hu,hz,hs,hb,hk',_,hf⟩:=h.get
 rw[hk]at hk'
 cases u <;> simp[TK.ofD]at hk'
 exact⟨_,hu,hf _ rfl⟩
end
theorem Below.ext{w w':World}(h:RowKit.Below w.heap.size w w')(own:Nat→Prop):Ext w own w' own :=
 ⟨h.os,h.tape,h.output,h.size,fun b hb _=>h.block b hb,fun _ _ h=>h⟩
theorem HR.below{H:Hf}{β:Nm→Value}{own:Nat→Prop}{w w':World}(hr:HR H β own w)(h:RowKit.Below w.heap.size w w'):HR H β own w':=by
 refine⟨fun n b hn=>(hr.blk n b hn).kept (Below.ext h own) fun hl g hg=>?_,hr.inj,fun g hg=>zAx (hr.lt g hg) h.size⟩
 have ho:=(hr.blk n b hn).block_lt hl hg
 exact⟨h.block g (hr.lt g ho),ho⟩
theorem Rep.below{s:St}{β:Nm→Value}{own:Nat→Prop}{a:Act}{w w':World}(hr:Rep s β own a w)(h:RowKit.Below w.heap.size w w'):Rep s β own a w' :=
 ⟨hr.size,hr.defers,fun t p hp=>(hr.tm t p hp).mono (Below.ext h own),hr.heap.below h⟩
variable{P:Program}{n:Nat}{tm:List (Nat × PV)}{hp:Hp}{up:Hf}{d:Nat}{ty:TypeId}{pos:String}{aft:Array Edge}{gd:Option (Nat × Bool)}
theorem zb7{o:Oper}{p:PV}(ho:o.dst=some d)(hd:d<n)
 (h:∀β own a w,Rep ⟨n,tm,hp,up⟩ β own a w→∃v w',(execOp a.eval o).run P w=.ok (.value v) w'∧RowKit.Below w.heap.size w w'∧PR β w' own p v) :
 z1z P o ⟨n,tm,hp,up⟩ ⟨n,(d,p)::tm,hp,up⟩:=by
 intro β own a w hrep
 obtain⟨v,w',hrun,hb,hp⟩:=h β own a w hrep
 refine⟨_,v,w',β,own,hrun,.inl rfl,?_,Below.ext hb own,rfl⟩
 have:=(hrep.below hb).put (dst:=o.dst) (p:=p) (v:=v) (by simp[St.fits,ho,hd]) hp
 simpa[St.put,ho]using this
theorem z1c{o:Oper}{p:PV}(ho:o.dst=some d)(hd:d<n)
 (h:∀β own a w,Rep ⟨n,tm,hp,up⟩ β own a w→∃v,(execOp a.eval o).run P w=.ok (.value v) w∧PR β w own p v) :
 z1z P o ⟨n,tm,hp,up⟩ ⟨n,(d,p)::tm,hp,up⟩ :=
 zb7 ho hd fun β own a w hr=>let ⟨v,h1,h2⟩:=h β own a w hr;⟨v,w,h1,RowKit.Below.refl _ _,h2⟩
abbrev I(k:IntKind)(x:Int):PV:=.d (.lit (.int k x))
abbrev B(b:Bool):PV:=.d (.lit (.bool b))
abbrev S(s:ByteArray):PV:=.d (.lit (.string s))
abbrev z1t:Value:=.slice none 0 0
theorem PR.I{β:Nm→Value}{w:World}{own:Nat→Prop}(k:IntKind)(x:Int):PR β w own (I k x) (.int k x):=.d _ _ (.lit _ rfl)
theorem PR.B{β:Nm→Value}{w:World}{own:Nat→Prop}(b:Bool):PR β w own (B b) (.bool b):=.d _ _ (.lit _ rfl)
theorem PR.S{β:Nm→Value}{w:World}{own:Nat→Prop}(s:ByteArray):PR β w own (S s) (.string s):=.d _ _ (.lit _ rfl)
theorem y2u{x:Operand}{p:PV}(hx:St.ev ⟨n,tm,hp,up⟩ x=some p)(hd:d<n):z1z P ⟨some d,.move x,ty,pos,aft,gd⟩ ⟨n,tm,hp,up⟩ ⟨n,(d,p)::tm,hp,up⟩ :=
 z1c rfl hd fun β own a w hr=>⟨_,by simp[execOp],hr.ev hx⟩
theorem zuc{x:Operand}{p:PV}(hx:St.ev ⟨n,tm,hp,up⟩ x=some p)(hd:d<n):z1z P ⟨some d,.assign x,ty,pos,aft,gd⟩ ⟨n,tm,hp,up⟩ ⟨n,(d,p)::tm,hp,up⟩ :=
 z1c rfl hd fun β own a w hr=>⟨_,by simp[execOp],hr.ev hx⟩
theorem znl{x:Operand}(hd:d<n):z1z P ⟨some d,.move x,ty,pos,aft,gd⟩ ⟨n,tm,hp,up⟩ ⟨n,(d,.any)::tm,hp,up⟩ :=
 z1c rfl hd fun β own a w hr=>⟨a.eval x,by simp[execOp],.any _⟩
theorem zst{c x y:Operand}{p:PV}(hc:St.ev ⟨n,tm,hp,up⟩ c=some (B true))(hx:St.ev ⟨n,tm,hp,up⟩ x=some p)(hd:d<n) :
 z1z P ⟨some d,.pick c x y,ty,pos,aft,gd⟩ ⟨n,tm,hp,up⟩ ⟨n,(d,p)::tm,hp,up⟩ :=
 z1c rfl hd fun β own a w hr=>⟨_,by simp[execOp,(hr.ev hc).lit,asBool],hr.ev hx⟩
theorem zun{c x y:Operand}{p:PV}(hc:St.ev ⟨n,tm,hp,up⟩ c=some (B false))(hx:St.ev ⟨n,tm,hp,up⟩ y=some p)(hd:d<n) :
 z1z P ⟨some d,.pick c x y,ty,pos,aft,gd⟩ ⟨n,tm,hp,up⟩ ⟨n,(d,p)::tm,hp,up⟩ :=
 z1c rfl hd fun β own a w hr=>⟨_,by simp[execOp,(hr.ev hc).lit,asBool],hr.ev hx⟩
section binops
variable{x y:Operand}{tx ty':TypeId}{k:IntKind}{a b:Int}
theorem z6w{op:BinOp}{u v r:Value}(hx:St.ev ⟨n,tm,hp,up⟩ x=some (.d (.lit u)))(hy:St.ev ⟨n,tm,hp,up⟩ y=some (.d (.lit v)))(hd:d<n)(h1:r.oneCell'=true)
 (hr:∀w,(do eqGuard op tx x y u v;binOp op tx u v:Sem Value).run P w=.ok r w) :
 z1z P ⟨some d,.binOp op tx x y ty',ty,pos,aft,gd⟩ ⟨n,tm,hp,up⟩ ⟨n,(d,.d (.lit r))::tm,hp,up⟩ :=
 z1c rfl hd fun β own ac w hrp=>⟨r,by
  have:=hr w
  simp only[execOp,(hrp.ev hx).lit,(hrp.ev hy).lit]
  rw[Sem.run_bind,this];rfl,.d _ _ (.lit _ h1)⟩
variable(hx:St.ev ⟨n,tm,hp,up⟩ x=some (I k a))(hy:St.ev ⟨n,tm,hp,up⟩ y=some (I k b))(hd:d<n)
include hx hy hd
theorem y64:z1z P ⟨some d,.binOp .lss tx x y ty',ty,pos,aft,gd⟩ ⟨n,tm,hp,up⟩ ⟨n,(d,B (decide (a<b)))::tm,hp,up⟩ :=
 z6w hx hy hd rfl fun w=>by simp[eqGuard,binOp,Op.intCmp]
theorem y4n:z1z P ⟨some d,.binOp .leq tx x y ty',ty,pos,aft,gd⟩ ⟨n,tm,hp,up⟩ ⟨n,(d,B (decide (a≤b)))::tm,hp,up⟩ :=
 z6w hx hy hd rfl fun w=>by simp[eqGuard,binOp,Op.intCmp]
theorem y4s:z1z P ⟨some d,.binOp .gtr tx x y ty',ty,pos,aft,gd⟩ ⟨n,tm,hp,up⟩ ⟨n,(d,B (decide (b<a)))::tm,hp,up⟩ :=
 z6w hx hy hd rfl fun w=>by simp[eqGuard,binOp,Op.intCmp]
theorem y4x:z1z P ⟨some d,.binOp .geq tx x y ty',ty,pos,aft,gd⟩ ⟨n,tm,hp,up⟩ ⟨n,(d,B (decide (b≤a)))::tm,hp,up⟩ :=
 z6w hx hy hd rfl fun w=>by simp[eqGuard,binOp,Op.intCmp]
theorem y5c:z1z P ⟨some d,.binOp .eql tx x y ty',ty,pos,aft,gd⟩ ⟨n,tm,hp,up⟩ ⟨n,(d,B (decide (a=b)))::tm,hp,up⟩ :=
 z6w hx hy hd rfl fun w=>by simp[eqGuard,binOp,Op.intCmp];rfl
theorem y4z:z1z P ⟨some d,.binOp .neq tx x y ty',ty,pos,aft,gd⟩ ⟨n,tm,hp,up⟩ ⟨n,(d,B (!decide (a=b)))::tm,hp,up⟩ :=
 z6w hx hy hd rfl fun w=>by simp[eqGuard,binOp,Op.intCmp];rfl
theorem y4v(hr:k.wrap (a+b)=a+b):z1z P ⟨some d,.binOp .add tx x y ty',ty,pos,aft,gd⟩ ⟨n,tm,hp,up⟩ ⟨n,(d,I k (a+b))::tm,hp,up⟩ :=
 z6w hx hy hd rfl fun w=>by simp[eqGuard,binOp,Op.intArith,hr]
theorem y6a(hr:k.wrap (a-b)=a-b):z1z P ⟨some d,.binOp .sub tx x y ty',ty,pos,aft,gd⟩ ⟨n,tm,hp,up⟩ ⟨n,(d,I k (a-b))::tm,hp,up⟩ :=
 z6w hx hy hd rfl fun w=>by simp[eqGuard,binOp,Op.intArith,hr]
theorem y57(hr:k.wrap (a*b)=a*b):z1z P ⟨some d,.binOp .mul tx x y ty',ty,pos,aft,gd⟩ ⟨n,tm,hp,up⟩ ⟨n,(d,I k (a*b))::tm,hp,up⟩ :=
 z6w hx hy hd rfl fun w=>by simp[eqGuard,binOp,Op.intArith,hr]
theorem y5p(ha:0≤a)(hb:0<b)(hr:k.wrap (a / b)=a / b):z1z P ⟨some d,.binOp .quo tx x y ty',ty,pos,aft,gd⟩ ⟨n,tm,hp,up⟩ ⟨n,(d,I k (a / b))::tm,hp,up⟩ :=
 z6w hx hy hd rfl fun w=>by
  have h1:a.tdiv b=a / b:=Int.tdiv_eq_ediv_of_nonneg ha
  have h2:b≠0:=by omega
  simp[eqGuard,binOp,Op.intDiv,h1,h2,hr]
theorem y4l(ha:0≤a)(hb:0<b):z1z P ⟨some d,.binOp .rem tx x y ty',ty,pos,aft,gd⟩ ⟨n,tm,hp,up⟩ ⟨n,(d,I k (a % b))::tm,hp,up⟩ :=
 z6w hx hy hd rfl fun w=>by
  have h1:a.tmod b=a % b:=Int.tmod_eq_emod_of_nonneg ha
  have h2:b≠0:=by omega
  simp[eqGuard,binOp,Op.intDiv,h1,h2]
theorem y47(hb:b≠0):z1z P ⟨some d,.binOp .rem tx x y ty',ty,pos,aft,gd⟩ ⟨n,tm,hp,up⟩ ⟨n,(d,I k (a.tmod b))::tm,hp,up⟩ :=
 z6w hx hy hd rfl fun w=>by simp[eqGuard,binOp,Op.intDiv,hb]
end binops
section strs
variable{x y:Operand}{tx ty':TypeId}{a b:ByteArray}
theorem toList_eq(a b:ByteArray):(a.toList == b.toList)=decide (a=b):=by
 by_cases h:a=b
 ·subst h;simp
 ·have:a.toList≠b.toList:=fun e=>h (by
   have h2:a.data.toList=b.data.toList:=by rw[←ByteArray.toList_eq,←ByteArray.toList_eq,e]
   cases a;cases b;simp_all [Array.toList_inj])
  simp[this,h]
variable(hx:St.ev ⟨n,tm,hp,up⟩ x=some (S a))(hy:St.ev ⟨n,tm,hp,up⟩ y=some (S b))(hd:d<n)
include hx hy hd
theorem y3r:z1z P ⟨some d,.binOp .eql tx x y ty',ty,pos,aft,gd⟩ ⟨n,tm,hp,up⟩ ⟨n,(d,B (decide (a=b)))::tm,hp,up⟩ :=
 z6w hx hy hd rfl fun w=>by rw[←toList_eq];simp[eqGuard,binOp,Op.stringOp]
theorem y43:z1z P ⟨some d,.binOp .neq tx x y ty',ty,pos,aft,gd⟩ ⟨n,tm,hp,up⟩ ⟨n,(d,B (!decide (a=b)))::tm,hp,up⟩ :=
 z6w hx hy hd rfl fun w=>by rw[←toList_eq];simp[eqGuard,binOp,Op.stringOp]
theorem y3k:z1z P ⟨some d,.binOp .lss tx x y ty',ty,pos,aft,gd⟩ ⟨n,tm,hp,up⟩ ⟨n,(d,B (Op.bytesLess a.toList b.toList))::tm,hp,up⟩ :=
 z6w hx hy hd rfl fun w=>by simp[eqGuard,binOp,Op.stringOp]
theorem y3h:z1z P ⟨some d,.binOp .gtr tx x y ty',ty,pos,aft,gd⟩ ⟨n,tm,hp,up⟩ ⟨n,(d,B (!(Op.bytesLess a.toList b.toList||decide (a=b))))::tm,hp,up⟩ :=
 z6w hx hy hd rfl fun w=>by rw[←toList_eq];simp[eqGuard,binOp,Op.stringOp]
end strs
theorem y62{x:Operand}{tx:TypeId}{b:Bool}(hx:St.ev ⟨n,tm,hp,up⟩ x=some (B b))(hd:d<n) :
 z1z P ⟨some d,.unOp .not tx x,ty,pos,aft,gd⟩ ⟨n,tm,hp,up⟩ ⟨n,(d,B (!b))::tm,hp,up⟩ :=
 z1c rfl hd fun β own a w hr=>⟨_,by simp[execOp,(hr.ev hx).lit,Op.unary],.B _⟩
theorem y3v{x:Operand}{src dst:TypeId}{k k':IntKind}{b:Int}{t1 t2:TI}[h1:z1d P src t1][h2:z1d P dst t2](hk:t2.kind=.int k')(hk1:t1.kind=.int k)(hx:St.ev ⟨n,tm,hp,up⟩ x=some (I k b))(hd:d<n)(hr:k'.wrap b=b) :
 z1z P ⟨some d,.convert src dst x,ty,pos,aft,gd⟩ ⟨n,tm,hp,up⟩ ⟨n,(d,I k' b)::tm,hp,up⟩ :=
 z1c rfl hd fun β own a w hrp=>⟨.int k' b,by
  simp only[execOp,(hrp.ev hx).lit]
  simp[convert,run_underlying (h1.int hk1),run_underlying (h2.int hk),Conv.intToInt,hr],.I _ _⟩
theorem zet{x:Operand}{m:Nm}{off:Nat}(hx:St.ev ⟨n,tm,hp,up⟩ x=some (.ptr m off))(hd:d<n) :
 z1z P ⟨some d,.nilCheck x,ty,pos,aft,gd⟩ ⟨n,tm,hp,up⟩ ⟨n,(d,.ptr m off)::tm,hp,up⟩ :=
 z1c rfl hd fun β own a w hr=>by
  have h:=hr.ev hx
  refine⟨_,?_,h⟩
  generalize hv:a.eval x=v at h
  cases h with|ptr _ _ g hb=>simp[execOp,hv]
theorem zdm{x:Operand}{cs:List D}(hx:St.ev ⟨n,tm,hp,up⟩ x=some (.eptr cs))(hd:d<n) :
 z1z P ⟨some d,.nilCheck x,ty,pos,aft,gd⟩ ⟨n,tm,hp,up⟩ ⟨n,(d,.eptr cs)::tm,hp,up⟩ :=
 z1c rfl hd fun β own a w hr=>by
  have h:=hr.ev hx
  refine⟨_,?_,h⟩
  generalize hv:a.eval x=v at h
  cases h with|eptr _ g o c h1 h2 h3 h4=>simp[execOp,hv]
theorem z4t(g o j:Nat):(⟨g,o,none⟩:Addr).add j=⟨g,o+j,none⟩:=by unfold Addr.add;split <;> simp_all
theorem za7{st:TypeId}{ti:TI}(h:z1d P st ti)(hk:ti.kind=.struct){f off sz:Nat}(hf:ti.fields[f]? =some (off,sz))(hsz:sz≠0)(g o:Nat)(w:World) :
 (Instr.fieldAt st (.pointer (some ⟨g,o,none⟩)) f).run P w=.ok (.pointer (some ⟨g,o+off,none⟩)) w:=by
 obtain⟨fs,hu,hfs⟩:=h.struct hk
 rw[hfs]at hf
 simp only[zAd,Array.getElem?_toList]at hf
 cases hx:fs[f]? with
 | none=>rw[hx]at hf;simp at hf
 | some fd =>
  rw[hx]at hf
  simp only[Option.map_some,zAh,Prod.mk.injEq]at hf
  obtain⟨rfl,h2⟩:=hf
  cases hi:P.info? fd.type with
  | none=>rw[hi]at h2;simp at h2;exact absurd h2.symm hsz
  | some i =>
   rw[hi]at h2
   simp at h2
   simp[Instr.fieldAt,run_underlying hu,hx,Instr.sureAddr,fieldPlace,Go.sizeOf,typeInfo,hi,h2,hsz,z4t]
theorem zem{x:Operand}{st:TypeId}{ti:TI}[ht:z1d P st ti]{f:Nat}{m:Nm}{o off sz:Nat}(hx:St.ev ⟨n,tm,hp,up⟩ x=some (.ptr m o))(hf:ti.fields[f]? =some (off,sz+1))(hk:ti.kind=.struct)(hd:d<n) :
 z1z P ⟨some d,.fieldAddr st x f,ty,pos,aft,gd⟩ ⟨n,tm,hp,up⟩ ⟨n,(d,.ptr m (o+off))::tm,hp,up⟩ :=
 z1c rfl hd fun β own a w hr=>by
  have h:=hr.ev hx
  generalize hv:a.eval x=v at h
  cases h with
  | ptr _ _ g hb=>exact⟨_,by simp only[execOp,hv];simp[za7 ht hk hf (by omega)],.ptr _ _ g hb⟩
theorem zcw{x:Operand}{st:TypeId}{ti:TI}[ht:z1d P st ti]{f:Nat}{cs:List D}{off sz:Nat}(hx:St.ev ⟨n,tm,hp,up⟩ x=some (.eptr cs))(hf:ti.fields[f]? =some (off,sz+1))(hk:ti.kind=.struct)(hd:d<n) :
 z1z P ⟨some d,.fieldAddr st x f,ty,pos,aft,gd⟩ ⟨n,tm,hp,up⟩ ⟨n,(d,.eptr (cs.drop off))::tm,hp,up⟩ :=
 z1c rfl hd fun β own a w hr=>by
  have h:=hr.ev hx
  generalize hv:a.eval x=v at h
  cases h with
  | eptr _ g o c h1 h2 h3 h4 =>
   refine⟨_,by simp only[execOp,hv];simp[za7 ht hk hf (by omega)],.eptr _ g (o+off) (fun j=>c (off+j)) h1 h2 (fun j hj=>?_) fun j y hy=>?_⟩
   ·have:=h3 (off+j) (by simp at hj;omega)
    rwa [←Nat.add_assoc]at this
   ·exact h4 (off+j) y (by simpa using hy)
theorem zcs{x:Operand}{st:TypeId}{ti:TI}[ht:z1d P st ti]{f:Nat}{m:Nm}{kk i o off sz:Nat}(hx:St.ev ⟨n,tm,hp,up⟩ x=some (.rptr m kk i o))(hf:ti.fields[f]? =some (off,sz+1))(hk:ti.kind=.struct)(hd:d<n) :
 z1z P ⟨some d,.fieldAddr st x f,ty,pos,aft,gd⟩ ⟨n,tm,hp,up⟩ ⟨n,(d,.rptr m kk i (o+off))::tm,hp,up⟩ :=
 z1c rfl hd fun β own a w hr=>by
  have h:=hr.ev hx
  generalize hv:a.eval x=v at h
  cases h with
  | rptr _ _ _ _ g len cap hb=>exact⟨_,by simp only[execOp,hv];simp[za7 ht hk hf (by omega),Nat.add_assoc],.rptr _ _ _ _ g len cap hb⟩
theorem z27{t:TypeId}{ti:TI}(ht:z1d P t ti)(g o:Nat)(vs:List Value)(w:World)(hl:vs.length=ti.size)(h:∀j v,vs[j]? =some v→w.cell? ⟨g,o+j,none⟩=some v) :
 (loadVar t ⟨g,o,none⟩).run P w=.ok (if ti.agg then .agg vs.toArray else vs.headD undef) w∨(ti.agg=false∧ti.size≠1):=by
 by_cases ha:ti.agg=true
 ·left
  have hls:=run_loadCells_list (P:=P) w ⟨g,o,none⟩ vs fun j v hv=>by rw[z4t];exact h j v hv
  simp[loadVar,ht.isAgg,ha,ht.sizeOf,←hl,hls]
 ·by_cases h1:ti.size=1
  ·left
   rw[h1]at hl
   match vs,hl with
   | [v],_ =>
    have:=h 0 v rfl
    simp at this
    simp[loadVar,ht.isAgg,ha,this]
  ·right;exact⟨by simpa using ha,h1⟩
theorem zig{x:Operand}{t:TypeId}{ti:TI}[ht:z1d P t ti]{cs:List D}{y:D}(hx:St.ev ⟨n,tm,hp,up⟩ x=some (.eptr cs))(hy:cs[0]? =some y)(hs:ti.size=1)(ha:ti.agg=false)(hd:d<n) :
 z1z P ⟨some d,.load t x,ty,pos,aft,gd⟩ ⟨n,tm,hp,up⟩ ⟨n,(d,.d y)::tm,hp,up⟩ :=
 z1c rfl hd fun β own a w hr=>by
  have h:=hr.ev hx
  generalize hv:a.eval x=v at h
  cases h with
  | eptr _ g o c h1 h2 h3 h4 =>
   have hlt:0<cs.length:=(zA1.1 hy).1
   have hc:=(h3 0 hlt).1
   refine⟨c 0,?_,.d _ _ (h4 0 y hy)⟩
   have:=z27 (P:=P) ht g o [c 0] w (by simp[hs]) (fun j v hj=>by
    match j with
    | 0=>simp at hj;subst hj;exact hc
    | j+1=>simp at hj)
   exact zD100
theorem zl1{x:Operand}{t:TypeId}{ti:TI}[ht:z1d P t ti]{cs:List D}(hx:St.ev ⟨n,tm,hp,up⟩ x=some (.eptr cs))(hs:cs.length=ti.size)(ha:ti.agg=true)(hd:d<n) :
 z1z P ⟨some d,.load t x,ty,pos,aft,gd⟩ ⟨n,tm,hp,up⟩ ⟨n,(d,.d (.agg cs))::tm,hp,up⟩ :=
 z1c rfl hd fun β own a w hr=>by
  have h:=hr.ev hx
  generalize hv:a.eval x=v at h
  cases h with
  | eptr _ g o c h1 h2 h3 h4 =>
   refine⟨.agg ((List.range cs.length).map c).toArray,?_,.d _ _ (.agg _ _ (by simp) (fun v hv=>?_) fun j x v hx hv=>?_)⟩
   ·have:=z27 (P:=P) ht g o ((List.range cs.length).map c) w (by simp[hs]) (fun j v hj=>by
     rw[zAd]at hj
     by_cases hlt:j<cs.length
     ·rw[List.getElem?_range hlt]at hj
      simp at hj;subst hj;exact(h3 j hlt).1
     ·simp[zAv (l:=List.range cs.length) (by simpa using hlt)]at hj)
    rcases this with h|h
    ·simp only[execOp,hv,Instr.loadAt,Instr.sureAddr];simp[h,ha]
    ·rw[ha]at h;exact absurd h.1 (by simp)
   ·simp at hv
    obtain⟨j,hj,rfl⟩:=hv
    exact(h3 j hj).2
   ·have hlt:j<cs.length:=(zA1.1 hx).1
    rw[zAd,List.getElem?_range hlt]at hv
    simp at hv;subst hv
    exact h4 j x hx
theorem Rep.box{β:Nm→Value}{own:Nat→Prop}{a:Act}{w:World}{s:St}(h:Rep s β own a w){m:Nm}{cs:List PV}(hb:z19 (push s.hp s.up) m=some (.box cs)) :
 ∃(g t:Nat) (cur:List Value),β m=.pointer (some ⟨g,0,none⟩)∧own g∧w.heap[g]? =some (.cells cur.toArray t (0,0))∧cs.length=cur.length∧(∀v∈cur,v.oneCell'=true) ∧
  ∀(j:Nat) (x:PV) (v:Value),cs[j]? =some x→cur[j]? =some v→PR β w own x v:=by
 have:=h.heap.blk m _ hb
 generalize hv:β m=v at this
 cases this with
 | box g t cs cur ho hg hl h1 hd=>exact⟨g,t,cur,rfl,ho,hg,hl,h1,hd⟩
theorem zkq{x:Operand}{t:TypeId}{ti:TI}[ht:z1d P t ti]{m:Nm}{off:Nat}{cs:List PV}{p:PV}(hx:St.ev ⟨n,tm,hp,up⟩ x=some (.ptr m off))(hb:z19 (push hp up) m=some (.box cs))(hy:cs[off]? =some p)
 (hs:ti.size=1) (ha:ti.agg=false) (hd:d<n):z1z P ⟨some d,.load t x,ty,pos,aft,gd⟩ ⟨n,tm,hp,up⟩ ⟨n,(d,p)::tm,hp,up⟩ :=
 z1c rfl hd fun β own a w hr=>by
  have h:=hr.ev hx
  obtain⟨g,tt,cur,hβ,ho,hg,hl,h1,hd'⟩:=hr.box hb
  generalize hv:a.eval x=v at h
  cases h with
  | ptr _ _ g' hb' =>
   rw[hβ]at hb'
   simp at hb';subst hb'
   have hlt:off<cur.length:=by rw[←hl];exact(zA1.1 hy).1
   have hcur:cur[off]? =some cur[off]:=zA0 hlt
   refine⟨cur[off],?_,hd' off p _ hy hcur⟩
   have:=z27 (P:=P) ht g off [cur[off]] w (by simp[hs]) (fun j v hj=>by
    match j with
    | 0=>simp at hj;subst hj;rw[Nat.add_zero,cell_of_row w g off _ tt (0,0) hg];simpa using hcur
    | j+1=>simp at hj)
   exact zD100
theorem zls{t:TypeId}{ti:TI}(ht:z1d P t ti){s:St}{β:Nm→Value}{own:Nat→Prop}{a:Act}{w:World}(hr:Rep s β own a w){m:Nm}{off:Nat}{cs qs:List PV}(hb:z19 (push s.hp s.up) m=some (.box cs))
 (hq:(cs.drop off).take ti.size=qs) (hs:qs.length=ti.size) (ha:ti.agg=true) :
 ∃(g:Nat) (vs:List Value),β m=.pointer (some ⟨g,0,none⟩)∧(loadVar t ⟨g,off,none⟩).run P w=.ok (.agg vs.toArray) w∧qs.length=vs.length∧(∀v∈vs,v.oneCell'=true) ∧
  ∀(j:Nat) (x:PV) (v:Value),qs[j]? =some x→vs[j]? =some v→PR β w own x v:=by
 obtain⟨g,tt,cur,hβ,ho,hg,hl,h1,hd'⟩:=hr.box hb
 subst hq
 refine⟨g,(cur.drop off).take ti.size,hβ,?_,by simp[hl],fun v hv=>h1 v (List.mem_of_mem_drop (List.mem_of_mem_take hv)),fun j x v hx hv=>?_⟩
 ·have:=z27 (P:=P) ht g off ((cur.drop off).take ti.size) w (by simp at hs⊢;omega) (fun j v hj=>by
   rw[cell_of_row w g _ _ tt (0,0) hg]
   rw[List.getElem?_take]at hj
   split at hj
   ·simpa using hj
   ·cases hj)
  rcases this with h|h
  ·rw[h,ha];rfl
  ·rw[ha]at h;exact absurd h.1 (by simp)
 ·rw[List.getElem?_take]at hx hv
  split at hx
  ·rename_i hlt
   rw[zAz hlt]at hv
   rw[List.getElem?_drop]at hx hv
   exact hd' _ x v hx hv
  ·cases hx
theorem zo0{x:Operand}{t:TypeId}{ti:TI}[ht:z1d P t ti]{m:Nm}{off:Nat}{cs:List PV}{ds:List D}(hx:St.ev ⟨n,tm,hp,up⟩ x=some (.ptr m off))(hb:z19 (push hp up) m=some (.box cs))
 (hq:(cs.drop off).take ti.size=ds.map .d) (hs:ds.length=ti.size) (ha:ti.agg=true) (hd:d<n):z1z P ⟨some d,.load t x,ty,pos,aft,gd⟩ ⟨n,tm,hp,up⟩ ⟨n,(d,.d (.agg ds))::tm,hp,up⟩ :=
 z1c rfl hd fun β own a w hr=>by
  have h:=hr.ev hx
  obtain⟨g,vs,hβ,hrun,hl,h1,hd'⟩:=zls ht hr hb hq (by simpa using hs) ha
  generalize hv:a.eval x=v at h
  cases h with
  | ptr _ _ g' hb' =>
   rw[hβ]at hb'
   simp at hb';subst hb'
   refine⟨_,by simp only[execOp,hv,Instr.loadAt,Instr.sureAddr];simp[hrun],.d _ _ (.agg _ _ (by simpa using hl) h1 fun j x v hx hv=>?_)⟩
   have:=hd' j (.d x) v (by simp[hx]) hv
   cases this with|d _ _ h=>exact h
theorem zkj{x:Operand}{t:TypeId}{ti:TI}[ht:z1d P t ti]{m:Nm}{off:Nat}{cs qs:List PV}(hx:St.ev ⟨n,tm,hp,up⟩ x=some (.ptr m off))(hb:z19 (push hp up) m=some (.box cs))
 (hq:(cs.drop off).take ti.size=qs) (hs:qs.length=ti.size) (ha:ti.agg=true) (hd:d<n):z1z P ⟨some d,.load t x,ty,pos,aft,gd⟩ ⟨n,tm,hp,up⟩ ⟨n,(d,.agg qs)::tm,hp,up⟩ :=
 z1c rfl hd fun β own a w hr=>by
  have h:=hr.ev hx
  obtain⟨g,vs,hβ,hrun,hl,h1,hd'⟩:=zls ht hr hb hq hs ha
  generalize hv:a.eval x=v at h
  cases h with
  | ptr _ _ g' hb' =>
   rw[hβ]at hb'
   simp at hb';subst hb'
   exact⟨_,by simp only[execOp,hv,Instr.loadAt,Instr.sureAddr];simp[hrun],.agg _ _ hl h1 hd'⟩
end Go.Ab
namespace Go.Ab
variable{P:Program}{n:Nat}{tm:List (Nat × PV)}{hp:Hp}{up:Hf}{d:Nat}{ty:TypeId}{pos:String}{aft:Array Edge}{gd:Option (Nat × Bool)}
def cellsOf:PV→Option (List PV)
 | .d (.agg cs)=>some (cs.map .d)
 | .d x=>some [.d x]
 | .agg cs=>some cs
 | .any=>none
 | .tup _=>none
 | .al _ _=>none
 | p=>some [p]
theorem z8p{β:Nm→Value}{w:World}{own:Nat→Prop}{p:PV}{v:Value}{cs:List PV}(h:PR β w own p v)(hone:∀m:Nm,p=.ref m→(β m).oneCell'=true)(hc:cellsOf p=some cs) :
 cs.length=v.cells.size∧(∀u∈v.cells.toList,u.oneCell'=true)∧∀(j:Nat) (x:PV) (u:Value),cs[j]? =some x→v.cells[j]? =some u→PR β w own x u:=by
 have one:∀(p:PV) (v:Value),PR β w own p v→v.oneCell'=true→cs=[p] →
  cs.length=v.cells.size∧(∀u∈v.cells.toList,u.oneCell'=true)∧∀(j:Nat) (x:PV) (u:Value),cs[j]? =some x→v.cells[j]? =some u→PR β w own x u:=by
  rintro p v hp hv rfl
  have hc:v.cells=#[v]:=by cases v <;> first|rfl|cases hv
  rw[hc]
  refine⟨rfl,by simp[hv],fun j x u hx hu=>?_⟩
  match j with
  | 0=>simp at hx hu;subst hx hu;exact hp
  | j+1=>simp at hx
 cases h with
 | any v=>simp[cellsOf]at hc
 | tup=>simp[cellsOf]at hc
 | d x v h =>
  cases h with
  | lit v h=>simp[cellsOf]at hc;exact one _ _ (.d _ _ (.lit v h)) h hc.symm
  | nil a cap=>simp[cellsOf]at hc;exact one _ _ (.d _ _ (.nil a cap)) rfl hc.symm
  | slice xs g o cap k c h1 h2 h3 h4 h5 h6=>simp[cellsOf]at hc;exact one _ _ (.d _ _ (.slice xs g o cap k c h1 h2 h3 h4 h5 h6)) rfl hc.symm
  | ifc t x v h=>simp[cellsOf]at hc;exact one _ _ (.d _ _ (.ifc t x v h)) rfl hc.symm
  | agg cs' vs hl h1 hd =>
   simp[cellsOf]at hc;subst hc
   refine⟨by simp[Value.cells,hl],by simpa[Value.cells]using h1,fun j x u hx hu=>?_⟩
   rw[zAd]at hx
   cases hy:cs'[j]? with
   | none=>rw[hy]at hx;simp at hx
   | some y=>rw[hy]at hx;simp at hx;subst hx;exact .d _ _ (hd j y u hy (by simpa[Value.cells]using hu))
 | ptr m off g h=>simp[cellsOf]at hc;exact one _ _ (.ptr m off g h) rfl hc.symm
 | eptr cs' g o c h1 h2 h3 h4=>simp[cellsOf]at hc;exact one _ _ (.eptr cs' g o c h1 h2 h3 h4) rfl hc.symm
 | ref m=>simp[cellsOf]at hc;exact one _ _ (.ref m) (hone m rfl) hc.symm
 | rptr m k i off g len cap h=>simp[cellsOf]at hc;exact one _ _ (.rptr m k i off g len cap h) rfl hc.symm
 | rsub m k lo len L cap a h hl hc'=>simp[cellsOf]at hc;exact one _ _ (.rsub m k lo len L cap a h hl hc') rfl hc.symm
 | al a b h v=>simp[cellsOf]at hc
 | agg cs' vs hl h1 hd =>
  simp[cellsOf]at hc;subst hc
  exact⟨by simp[Value.cells,hl],by simpa[Value.cells]using h1,fun j x u hx hu=>hd j x u hx (by simpa[Value.cells]using hu)⟩
 | fn f a b fv cv hl hl' hd hd'=>simp[cellsOf]at hc;exact one _ _ (.fn f a b fv cv hl hl' hd hd') rfl hc.symm
 | yl m L h=>simp[cellsOf]at hc;exact one _ _ (.yl m L h) rfl hc.symm
 | full xs a h=>simp[cellsOf]at hc;exact one _ _ (.full xs a h) rfl hc.symm
theorem BR.one{β:Nm→Value}{w:World}{own:Nat→Prop}{v:Value}{b:Blk}(h:BR β w own v b)(hl:b.live=true):v.oneCell'=true:=by
 cases h with
 | gone=>cases hl
 | box=>rfl
 | lp=>rfl
 | row v e k xs vs ho hk hr hd=>rcases hr.2 with h|⟨g,cap,cur,hv,_⟩ <;> simp_all [Value.oneCell']
 | rowp v e cs vs ho hr h1 hd=>rcases hr.2 with h|⟨g,cap,cur,hv,_⟩ <;> simp_all [Value.oneCell']
 | siter=>rfl
 | gmap=>rfl
 | mit=>rfl
 | glob=>rfl
 | mp=>rfl
def z1b{α:Type}:List α→Nat→List α→List α
 | cs,_,[]=>cs
 | [],_,_=>[]
 | _::cs,0,p::ps=>p::z1b cs 0 ps
 | c::cs,n+1,ps=>c::z1b cs n ps
theorem z1l{α:Type}(cs:List α)(n:Nat)(ps:List α):(z1b cs n ps).length=cs.length:=by
 induction cs generalizing n ps with
 | nil=>cases ps <;> simp[z1b]
 | cons c cs ih =>
  cases ps with
  | nil=>cases n <;> simp[z1b]
  | cons p ps=>cases n <;> simp[z1b,ih]
theorem z34{α:Type}(cs:List α)(n:Nat)(ps:List α)(h:n+ps.length≤cs.length)(j:Nat) :
 (z1b cs n ps)[j]? =if n≤j∧j<n+ps.length then ps[j-n]? else cs[j]?:=by
 induction cs generalizing n ps j with
 | nil=>cases ps <;> simp_all [z1b]
 | cons c cs ih =>
  cases ps with
  | nil=>cases n <;> simp[z1b] <;> omega
  | cons p ps =>
   cases n with
   | zero =>
    cases j with
    | zero=>simp[z1b]
    | succ j =>
     simp only[z1b,List.getElem?_cons_succ]
     rw[ih 0 ps (by simp at h⊢;omega) j]
     simp
   | succ n =>
    cases j with
    | zero=>simp[z1b]
    | succ j =>
     simp only[z1b,List.getElem?_cons_succ]
     rw[ih n (p::ps) (by simp at h⊢;omega) j]
     have e1:(n≤j∧j<n+(p::ps).length)=(n+1≤j+1∧j+1<n+1+(p::ps).length):=by simp;omega
     have e2:j+1-(n+1)=j-n:=by omega
     simp only[e1,e2]
theorem zim(xs:List (Value × Nat))(off:Nat)(cs:Array Value):(xs.foldl (fun cs (x:Value × Nat)=>cs.setIfInBounds (off+x.2) x.1) cs).size=cs.size:=by
 induction xs generalizing cs with
 | nil=>rfl
 | cons x xs ih=>simp[ih]
theorem zki(vs:List Value)(off i:Nat)(cs:Array Value)(h:off+i+vs.length≤cs.size)(j:Nat) :
 ((vs.zipIdx i).foldl (fun cs (x:Value × Nat)=>cs.setIfInBounds (off+x.2) x.1) cs)[j]? =if off+i≤j∧j<off+i+vs.length then vs[j-(off+i)]? else cs[j]?:=by
 induction vs generalizing i cs with
 | nil=>simp;omega
 | cons v vs ih =>
  simp only[List.zipIdx_cons,List.foldl_cons]
  rw[ih (i+1) _ (by simp at h⊢;omega)]
  simp only[zAk]at h⊢
  by_cases h1:j=off+i
  ·subst h1
   simp[show ¬(off+(i+1)≤off+i) by omega]
   rw[Array.getElem?_setIfInBounds];simp;omega
  ·by_cases h2:off+(i+1)≤j∧j<off+(i+1)+vs.length
   ·rw[zAz h2,zAz (by omega),show j-(off+i)=(j-(off+(i+1)))+1 by omega]
    simp
   ·rw[zAy h2,zAy (by omega),Array.getElem?_setIfInBounds_ne (by omega)]
def CR(β:Nm→Value)(w:World)(own:Nat→Prop)(cs:List PV)(vs:List Value):Prop :=
 cs.length=vs.length∧(∀v∈vs,v.oneCell'=true)∧∀(j:Nat) (x:PV) (v:Value),cs[j]? =some x→vs[j]? =some v→PR β w own x v
def z61(place:Nat→Option (Nat × Nat)):List PV→List (Nat × List PV)→Option (List PV)
 | cs,[]=>some cs
 | cs,(i,ps)::r=>match place i with
  | none=>none
  | some (off,sz)=>if ps.length≠sz||off+ps.length>cs.length then none else z61 place (z1b cs off ps) r
theorem CR.z1b{β:Nm→Value}{w:World}{own:Nat→Prop}{cs ps:List PV}{vs us us':List Value}(h:CR β w own cs vs)(h':CR β w own ps us){off:Nat}(hf:off+ps.length≤cs.length)
 (he:us'.length=vs.length) (hu:∀j,us'[j]? =if off≤j∧j<off+us.length then us[j-off]? else vs[j]?):CR β w own (z1b cs off ps) us':=by
 refine⟨by rw[z1l,he];exact h.1,fun v hv=>?_,fun j x v hx hv=>?_⟩
 ·obtain⟨j,hj⟩:=zAw hv
  rw[hu]at hj
  split at hj
  ·exact h'.2.1 v (zA2 hj)
  ·exact h.2.1 v (zA2 hj)
 ·rw[z34 _ _ _ hf]at hx
  rw[hu,←h'.1]at hv
  split at hx
  ·rename_i hc;rw[zAz hc]at hv;exact h'.2.2 _ x v hx hv
  ·rename_i hc;rw[zAy hc]at hv;exact h.2.2 _ x v hx hv
theorem zh7{β:Nm→Value}{w:World}{own:Nat→Prop}{place:Nat→Option (Nat × Nat)}:∀(parts:List (Nat × List PV)) (vparts:List (Nat × Value)) (cs cs':List PV) (vs:List Value),
 parts.length=vparts.length→(∀(j:Nat) (q:Nat × List PV) (u:Nat × Value),parts[j]? =some q→vparts[j]? =some u→q.1=u.1∧CR β w own q.2 u.2.cells.toList) →
 CR β w own cs vs→z61 place cs parts=some cs'→∃vs':List Value,Instr.fill place vs.toArray vparts=some vs'.toArray∧CR β w own cs' vs'
 | [],[],cs,cs',vs,_,_,hcr,hf=>by
  simp[z61]at hf;subst hf
  exact⟨vs,rfl,hcr⟩
 | (i,ps)::r,(i',v)::r',cs,cs',vs,hl,hp,hcr,hf=>by
  obtain⟨hi,hcr'⟩:=hp 0 (i,ps) (i',v) rfl rfl
  simp only at hi hcr'
  subst hi
  simp only[z61]at hf
  cases hpl:place i with
  | none=>simp[hpl]at hf
  | some q =>
   obtain⟨off,sz⟩:=q
   simp only[hpl]at hf
   split at hf
   ·cases hf
   ·rename_i hne
    simp only[zAu,zA3,not_or,Decidable.not_not,gt_iff_lt,Nat.not_lt]at hne
    have hsz:v.cells.size=ps.length:=by have:=hcr'.1;simp at this;exact this.symm
    have hcl:cs.length=vs.length:=hcr.1
    have hg:=zki v.cells.toList off 0 vs.toArray (by simp;omega)
    have hs:=zim (v.cells.toList.zipIdx 0) off vs.toArray
    have hfold:Array.foldl (fun(cs:Array Value) (x:Value × Nat)=>cs.setIfInBounds (off+x.2) x.1) vs.toArray v.cells.zipIdx=(v.cells.toList.zipIdx 0).foldl (fun(cs:Array Value) (x:Value × Nat)=>cs.setIfInBounds (off+x.2) x.1) vs.toArray:=by
     rw[←Array.foldl_toList];simp
    generalize hfv:(v.cells.toList.zipIdx 0).foldl (fun(cs:Array Value) (x:Value × Nat)=>cs.setIfInBounds (off+x.2) x.1) vs.toArray=us at hg hs hfold
    have hcr2:=hcr.z1b hcr' (us':=us.toList) (off:=off) hne.2 (by simpa using hs) fun j=>by simpa using hg j
    obtain⟨vs',h1,h2⟩:=zh7 r r' _ cs' us.toList (by simpa using hl) (fun j q u hq hu=>hp (j+1) q u (by simpa using hq) (by simpa using hu)) hcr2 hf
    refine⟨vs',?_,h2⟩
    simp only[Instr.fill,hpl]
    have c1:(decide (v.cells.size≠sz)||decide (off+v.cells.size>vs.toArray.size))=false:=by
     simp;omega
    simp only[Array.toArray_toList]at h1
    rw[zAy (by simp;omega)]
    rw[←h1]
    congr 1
def St.parts(s:St):List (Nat × Operand)→Option (List (Nat × List PV))
 | []=>some []
 | (i,x)::r=>match s.ev x with
  | some p=>match cellsOf p with
   | some cs=>match s.parts r with
    | some q=>some ((i,cs)::q)
    | none=>none
   | none=>none
  | none=>none
def PV.refs:PV→Option Nm
 | .ref m=>some m
 | _=>none
def z8i(s:St)(p:PV):Bool:=match p with|.ref m=>(match z19 (push s.hp s.up) m with|some b=>b.live|none=>false)|_=>true
def St.okParts(s:St):List (Nat × Operand)→Bool
 | []=>true
 | (_,x)::r=>(match s.ev x with|some p=>z8i s p|none=>false)&&s.okParts r
theorem Rep.oneRef{s:St}{β:Nm→Value}{own:Nat→Prop}{a:Act}{w:World}(hr:Rep s β own a w){p:PV}(h:z8i s p=true):∀m:Nm,p=.ref m→(β m).oneCell'=true:=by
 rintro m rfl
 simp only[z8i]at h
 cases hb:z19 (push s.hp s.up) m with
 | none=>rw[hb]at h;cases h
 | some b=>rw[hb]at h;exact(hr.heap.blk m b hb).one h
theorem Rep.parts{s:St}{β:Nm→Value}{own:Nat→Prop}{a:Act}{w:World}(hr:Rep s β own a w):∀(l:List (Nat × Operand)) (qs:List (Nat × List PV)),s.parts l=some qs→s.okParts l=true →
 qs.length=(l.map fun x=>(x.1,a.eval x.2)).length∧∀(j:Nat) (q:Nat × List PV) (u:Nat × Value),qs[j]? =some q→(l.map fun x=>(x.1,a.eval x.2))[j]? =some u→q.1=u.1∧CR β w own q.2 u.2.cells.toList
 | [],qs,h,_=>by simp[St.parts]at h;subst h;simp
 | (i,x)::r,qs,h,hok=>by
  simp only[St.parts]at h
  simp only[St.okParts,zA7]at hok
  cases hx:s.ev x with
  | none=>rw[hx]at h;cases h
  | some p =>
   rw[hx]at h hok
   cases hc:cellsOf p with
   | none=>simp[hc]at h
   | some cs =>
    simp only[hc]at h
    cases hq:s.parts r with
    | none=>rw[hq]at h;cases h
    | some q =>
     rw[hq]at h
     simp at h;subst h
     obtain⟨h1,h2⟩:=hr.parts r q hq hok.2
     refine⟨by simpa using h1,fun j y u hy hu=>?_⟩
     cases j with
     | zero =>
      simp at hy hu;subst hy hu
      have:=z8p (hr.ev hx) (hr.oneRef hok.1) hc
      exact⟨rfl,by simpa using this.1,this.2.1,fun j x u hx hu=>this.2.2 j x u hx (by simpa using hu)⟩
     | succ j=>exact h2 j y u (by simpa using hy) (by simpa using hu)
def nrm:D→D
 | .lit v=>zey v
 | x=>x
theorem DR.nrm{w:World}{own:Nat→Prop}{x:D}{v:Value}(h:DR w own x v):DR w own (nrm x) v:=by
 cases h with
 | lit v h=>exact .zey h
 | nil a cap=>exact .nil a cap
 | slice xs g o cap k c hc hown hlt hk hcell hd=>exact .slice xs g o cap k c hc hown hlt hk hcell hd
 | agg cs vs hl h1 hd=>exact .agg cs vs hl h1 hd
 | ifc t x v h=>exact .ifc t x v h
def z8d:List PV→Option (List D)
 | []=>some []
 | .d x::r=>match z8d r with
  | some q=>some (nrm x::q)
  | none=>none
 | _=>none
theorem zqv{p:PV}{r:List PV}{ds:List D}(h:z8d (p::r)=some ds):∃x q,p=.d x∧z8d r=some q∧ds=nrm x::q:=by
 cases p with
 | d x =>
  simp only[z8d]at h
  cases hq:z8d r with
  | none=>rw[hq]at h;cases h
  | some q=>rw[hq]at h;simp at h;exact⟨x,q,rfl,rfl,h.symm⟩
 | _=>simp[z8d]at h
theorem zh1:∀ {ps:List PV} {ds:List D},z8d ps=some ds→ds.length=ps.length∧∀(j:Nat) (y:D),ds[j]? =some y→∃x,ps[j]? =some (.d x)∧y=nrm x
 | [],ds,h=>by simp[z8d]at h;subst h;simp
 | p::r,ds,h=>by
  obtain⟨x,q,rfl,hq,rfl⟩:=zqv h
  obtain⟨h1,h2⟩:=zh1 hq
  refine⟨by simp[h1],fun j y hy=>?_⟩
  cases j with
  | zero=>simp at hy;exact⟨x,rfl,hy.symm⟩
  | succ j=>exact h2 j y (by simpa using hy)
theorem z5x{β:Nm→Value}{w:World}{own:Nat→Prop}{ps:List PV}{ds:List D}{vs:List Value}(hc:CR β w own ps vs)(h:z8d ps=some ds):CR β w own (ds.map .d) vs:=by
 obtain⟨h1,h2⟩:=zh1 h
 refine⟨by rw[zA4,h1];exact hc.1,hc.2.1,fun j p v hp hv=>?_⟩
 rw[zAd]at hp
 cases hy:ds[j]? with
 | none=>rw[hy]at hp;cases hp
 | some y =>
  rw[hy]at hp;simp at hp;subst hp
  obtain⟨x,hx,rfl⟩:=h2 j y hy
  have:=hc.2.2 j (.d x) v hx hv
  cases this with|d _ _ h=>exact .d _ _ h.nrm
theorem CR.data{β:Nm→Value}{w:World}{own:Nat→Prop}{ds:List D}{vs:List Value}(h:CR β w own (ds.map .d) vs) :
 ds.length=vs.length∧∀(j:Nat) (x:D) (v:Value),ds[j]? =some x→vs[j]? =some v→DR w own x v :=
 ⟨by simpa using h.1,fun j x v hx hv=>by
   have:=h.2.2 j (.d x) v (by simp[hx]) hv
   cases this with|d _ _ h=>exact h⟩
def z5q(vs:List Value):List PV:=vs.map fun v=>.d (.lit v)
theorem zio{β:Nm→Value}{w:World}{own:Nat→Prop}(vs:List Value)(h:vs.all (·.oneCell')=true):CR β w own (z5q vs) vs :=
 ⟨by simp[z5q],fun v hv=>List.all_eq_true.1 h v hv,fun j x v hx hv=>by
   simp only[z5q,zAd,hv,Option.map_some,zAh]at hx
   subst hx
   exact .d _ _ (.lit _ (List.all_eq_true.1 h v (zA2 hv)))⟩
def y1e:List PV→Bool
 | []=>false
 | .d (.lit (.slice none 0 0))::_=>true
 | _::r=>y1e r
def mk(cs:List PV):PV:=if y1e cs then .agg cs else match z8d cs with|some ds=>.d (.agg ds)|none=>.agg cs
theorem y2h{β:Nm→Value}{w:World}{own:Nat→Prop}{cs:List PV}{vs:List Value}(h:CR β w own cs vs):PR β w own (mk cs) (.agg vs.toArray):=by
 unfold mk
 split
 ·exact .agg _ _ h.1 h.2.1 h.2.2
 cases hd:z8d cs with
 | none=>exact .agg _ _ h.1 h.2.1 h.2.2
 | some ds =>
  have h':=z5x h hd
  exact .d _ _ (.agg _ _ h'.data.1 h'.2.1 h'.data.2)
theorem ze6{P:Program}(w:World):∀(fs:List Field) (pl:List (Nat × Nat)),pl=fs.map (fun f=>(f.offset,((P.info? f.type).map (·.size)).getD 0))→(∀q∈pl,q.2≠0) →
 (fs.mapM fun f=>(do pure (f.offset,←sizeOf f.type):Sem (Nat × Nat))).run P w=.ok pl w
 | [],pl,h,_=>by subst h;rfl
 | f::fs,pl,h,h0=>by
  subst h
  have h1:=h0 (f.offset,((P.info? f.type).map (·.size)).getD 0) (by simp)
  have ih:=ze6 w fs _ rfl fun q hq=>h0 q (by simp only[List.map_cons,zAc];exact .inr hq)
  rw[List.mapM_cons]
  cases hi:P.info? f.type with
  | none=>simp[hi]at h1
  | some i =>
   simp only[Sem.run_bind,Go.sizeOf,typeInfo,run_program,Result.andThen_ok,hi,Sem.run_pure]at ih⊢
   rw[ih]
   simp[hi]
theorem zod{t:TypeId}{ti:TI}(ht:z1d P t ti)(hk:ti.kind=.struct)(hz:ti.zero.all (·.oneCell')=true)(h0:ti.fields.all (fun q=>q.2 != 0)=true){β:Nm→Value}{w:World}{own:Nat→Prop}(parts:Array (Nat × Value))(qs:List (Nat × List PV)){cs:List PV}
 (hl:qs.length=parts.toList.length) (hp:∀(j:Nat) (q:Nat × List PV) (u:Nat × Value),qs[j]? =some q→parts.toList[j]? =some u→q.1=u.1∧CR β w own q.2 u.2.cells.toList)
 (hf:z61 (fun i=>ti.fields[i]?) (z5q ti.zero) qs=some cs):∃vs:List Value,(Instr.build t parts).run P w=.ok (.agg vs.toArray) w∧CR β w own cs vs:=by
 obtain⟨vs,h1,h2⟩:=zh7 qs parts.toList _ cs ti.zero hl hp (zio ti.zero hz) hf
 obtain⟨fs,hu,hfs⟩:=ht.struct hk
 obtain⟨z,hzz,hzr⟩:=ht.zeroValue
 refine⟨vs,?_,h2⟩
 have hm:=ze6 (P:=P) w fs.toList ti.fields hfs fun q hq=>by simpa using List.all_eq_true.1 h0 q hq
 have hma:(fs.mapM fun f=>(do pure (f.offset,←Go.sizeOf f.type):Sem (Nat × Nat))).run P w=.ok ti.fields.toArray w:=by
  rw[Array.mapM_eq_mapM_toList,Sem.run_map,hm]
  rfl
 have hfill:Instr.fill (fun i:Nat=>ti.fields.toArray[i]?) z.cells parts.toList=some vs.toArray:=by
  have e:(fun i:Nat=>ti.fields.toArray[i]?)=fun i:Nat=>ti.fields[i]?:=by funext i;simp
  rw[e,←h1,←hzz]
 simp only[Instr.build,Sem.run_bind,hzr,Result.andThen_ok,run_underlying hu,hma,hfill]
 simp
theorem zqg{t:TypeId}{ti:TI}[ht:z1d P t ti]{l:List (Nat × Operand)}{qs:List (Nat × List PV)}{cs:List PV}{p:PV}(hq:St.parts ⟨n,tm,hp,up⟩ l=some qs)(hok:St.okParts ⟨n,tm,hp,up⟩ l=true)
 (hf:z61 (fun i=>ti.fields[i]?) (z5q ti.zero) qs=some cs) (hm:mk cs=p) (hk:ti.kind=.struct) (hz:(ti.zero.all (·.oneCell')&&ti.fields.all fun q=>q.2 != 0)=true) (hd:d<n) :
 z1z P ⟨some d,.build t l.toArray,ty,pos,aft,gd⟩ ⟨n,tm,hp,up⟩ ⟨n,(d,p)::tm,hp,up⟩ :=
 z1c rfl hd fun β own a w hr=>by
  simp only[zA7]at hz
  obtain⟨h1,h2⟩:=hr.parts l qs hq hok
  have hl:(l.toArray.map fun x=>(x.1,a.eval x.2)).toList=l.map fun x=>(x.1,a.eval x.2):=by simp
  obtain⟨vs,hrun,hcr⟩:=zod (P:=P) ht hk hz.1 hz.2 (β:=β) (w:=w) (own:=own) (l.toArray.map fun x=>(x.1,a.eval x.2)) qs (by rw[hl];exact h1) (by rw[hl];exact h2) hf
  refine⟨_,?_,hm▸y2h hcr⟩
  exact zD26
def z1k(d:Nat):Hp→Bool
 | []=>true
 | (_,b)::r=>!b.says (0,d)&&z1k d r
def z1q(d:Nat):List (Nat × PV)→Bool
 | []=>true
 | (_,p)::r=>!p.says (0,d)&&z1q d r
theorem zfy{d:Nat}:∀ {hp:Hp} {s:Nat} {b:Blk},z1k d hp=true→look hp s=some b→b.says (0,d)=false
 | [],s,b,_,h=>by simp[look]at h
 | (k,c)::r,s,b,hf,h=>by
  simp only[z1k,zA7,zA6]at hf
  simp only[look]at h
  split at h
  ·simp at h;subst h;exact hf.1
  ·exact zfy hf.2 h
theorem z7z{d:Nat}:∀ {tm:List (Nat × PV)} {s:Nat} {b:PV},z1q d tm=true→look tm s=some b→b.says (0,d)=false
 | [],s,b,_,h=>by simp[look]at h
 | (k,c)::r,s,b,hf,h=>by
  simp only[z1q,zA7,zA6]at hf
  simp only[look]at h
  split at h
  ·simp at h;subst h;exact hf.1
  ·exact z7z hf.2 h
theorem PV.lift_says(d k:Nat):∀p:PV,(p.lift (k+1)).says (0,d)=false:=by
 have hne:∀(m:Nm),((m.1+(k+1),m.2) == ((0,d):Nm))=false:=fun m=>by
  rw[beq_eq_false_iff_ne]
  intro e
  have:=congrArg Prod.fst e
  simp at this
 intro p
 refine PV.rec (motive_1:=fun p=>(p.lift (k+1)).says (0,d)=false) (motive_2:=fun ps=>PV.saysL (0,d) (PV.liftL (k+1) ps)=false) ?_ ?_ ?_ ?_ ?_ ?_ ?_ ?_ ?_ ?_ ?_ ?_ ?_ ?_ ?_ p
 ·rfl
 ·intro x;rfl
 ·intro m off;simp[PV.lift,PV.says,hne]
 ·intro cs;rfl
 ·intro m;simp[PV.lift,PV.says,hne]
 ·intro m k i off;simp[PV.lift,PV.says,hne]
 ·intro m k i off;simp[PV.lift,PV.says,hne]
 ·intro a b;simp[PV.lift,PV.says,hne]
 ·intro cs h;simpa[PV.lift,PV.says]using h
 ·intro cs h;simpa[PV.lift,PV.says]using h
 ·intro f a b h1 h2;simp[PV.lift,PV.says,h1,h2]
 ·intro m;simp[PV.lift,PV.says,hne]
 ·intro xs;rfl
 ·rfl
 ·intro p ps h1 h2;simp[PV.liftL,PV.saysL,h1,h2]
theorem PV.liftL_says(d k:Nat)(ps:List PV):PV.saysL (0,d) (PV.liftL (k+1) ps)=false:=by
 induction ps with
 | nil=>rfl
 | cons p ps ih=>simp[PV.liftL,PV.saysL,ih,PV.lift_says]
theorem ze0(d k:Nat):∀st:List (Nat × PV),z42 (0,d) (z3j (k+1) st)=false
 | []=>rfl
 | (t,p)::r=>by simp[z3j,z42,ze0 d k r,PV.lift_says]
theorem Blk.lift_says(d k:Nat)(b:Blk):(b.lift (k+1)).says (0,d)=false:=by
 cases b <;> simp[Blk.lift,Blk.says,PV.liftL_says,ze0]
theorem zrk{hp:Hp}{up:Hf}{d:Nat}(hf:z1k d hp=true){m:Nm}{b:Blk}(h:z19 (push hp up) m=some b):b.says (0,d)=false:=by
 obtain⟨k,s⟩:=m
 cases k with
 | zero=>exact zfy hf h
 | succ k =>
  simp only[z19,push]at h
  cases hc:up k s with
  | none=>rw[hc]at h;simp at h
  | some c=>rw[hc]at h;simp at h;subst h;exact Blk.lift_says d k c
def z69(β:Nm→Value)(d:Nat)(v:Value):Nm→Value:=fun m=>if m=(0,d)then v else β m
theorem z2d(β:Nm→Value)(d:Nat)(v:Value):z69 β d v (0,d)=v:=by simp[z69]
theorem z3h(β:Nm→Value)(d:Nat)(v:Value)(m:Nm)(h:m≠(0,d)):z69 β d v m=β m:=by simp[z69,h]
theorem z3a(β:Nm→Value)(d:Nat)(v:Value):z71 (z69 β d v)=z71 β:=by
 funext m
 simp[z71,z69]
theorem z2t{hp:Hp}{up:Hf}{d:Nat}{b:Blk}{m:Nm}:z19 (push ((d,b)::hp) up) m=if m=(0,d)then some b else z19 (push hp up) m:=by
 obtain⟨k,s⟩:=m
 cases k with
 | zero =>
  simp only[z19,push,look]
  by_cases h:d=s
  ·subst h;simp
  ·rw[zAy h,zAy (by simp[Ne.symm h])]
 | succ k=>simp[z19,push]
theorem HR.install{β:Nm→Value}{own own':Nat→Prop}{w w':World}(h:HR (push hp up) β own w)(hf:z1k d hp=true)(he:Ext w own w' own')(hlt:∀g,own' g→g<w'.heap.size){v:Value}{b:Blk}
 (hk:∀m c,z19 (push hp up) m=some c→c.live=true→m≠(0,d)→∀g,z2h (β m)=some g→w'.heap[g]? =w.heap[g]?∧own' g∧(b.live=true→z2h v≠some g))
 (hb:BR (z69 β d v) w' own' v b):HR (push ((d,b)::hp) up) (z69 β d v) own' w':=by
 refine⟨fun m c hm=>?_,fun m1 m2 c1 c2 hm1 hm2 l1 l2 hne g hg=>?_,hlt⟩
 ·rw[z2t]at hm
  by_cases hmd:m=(0,d)
  ·rw[zAz hmd]at hm
   simp at hm;subst hm;subst hmd
   rw[z2d];exact hb
  ·rw[zAy hmd]at hm
   rw[z3h _ _ _ _ hmd]
   exact((h.blk m c hm).kept he fun hl g hg=>let ⟨a,b,_⟩:=hk m c hm hl hmd g hg;⟨a,b⟩).reβ (0,d) (z3h β d v) (zrk hf hm)
 ·rw[z2t]at hm1 hm2
  by_cases h1:m1=(0,d)
  ·have h2:m2≠(0,d):=fun e=>hne (h1.trans e.symm)
   rw[zAy h2]at hm2
   rw[zAz h1]at hm1
   simp at hm1;subst hm1
   rw[h1,z2d]at hg
   rw[z3h _ _ _ _ h2]
   intro hg2
   exact(hk m2 c2 hm2 l2 h2 g hg2).2.2 l1 hg
  ·rw[zAy h1]at hm1
   rw[z3h _ _ _ _ h1]at hg
   by_cases h2:m2=(0,d)
   ·rw[zAz h2]at hm2
    simp at hm2;subst hm2
    rw[h2,z2d]
    exact(hk m1 c1 hm1 l1 h1 g hg).2.2 l2
   ·rw[zAy h2]at hm2
    rw[z3h _ _ _ _ h2]
    exact h.inj m1 m2 c1 c2 hm1 hm2 l1 l2 hne g hg
theorem Rep.install{β:Nm→Value}{own own':Nat→Prop}{a:Act}{w w':World}(hr:Rep ⟨n,tm,hp,up⟩ β own a w)(hf:(z1k d hp&&z1q d tm)=true)(he:Ext w own w' own')(hlt:∀g,own' g→g<w'.heap.size){v:Value}{b:Blk}
 (hk:∀m c,z19 (push hp up) m=some c→c.live=true→m≠(0,d)→∀g,z2h (β m)=some g→w'.heap[g]? =w.heap[g]?∧own' g∧(b.live=true→z2h v≠some g))
 (hb:BR (z69 β d v) w' own' v b):Rep ⟨n,tm,(d,b)::hp,up⟩ (z69 β d v) own' a w':=by
 simp only[zA7]at hf
 exact⟨hr.size,hr.defers,fun t p hp=>((hr.tm t p hp).mono he).reβ (0,d) (z3h β d v) (z7z hf.2 hp),hr.heap.install hf.1 he hlt hk hb⟩
theorem z8r(w:World)(o:Obj)(i:Nat)(h:i<w.heap.size):(w.alloc o).heap[i]? =w.heap[i]?:=by
 show(w.heap.push o)[i]? =w.heap[i]?
 rw[Array.getElem?_push,zAy (Nat.ne_of_lt h)]
theorem z5l(w:World)(o:Obj):(w.alloc o).heap[w.heap.size]? =some o:=by
 show(w.heap.push o)[w.heap.size]? =some o
 simp
theorem Ext.alloc(w:World)(own:Nat→Prop)(o:Obj):Ext w own (w.alloc o) (fun g=>own g∨g=w.heap.size) :=
 ⟨rfl,rfl,rfl,by simp,fun b hb _=>z8r w o b hb,fun b hb h=>by simp[h];omega⟩
theorem z6m{β:Nm→Value}{own:Nat→Prop}{w:World}(h:HR (push hp up) β own w)(o:Obj)(v:Value)(b:Blk)(hv:z2h v=some w.heap.size) :
 ∀m c,z19 (push hp up) m=some c→c.live=true→m≠(0,d)→∀g,z2h (β m)=some g→(w.alloc o).heap[g]? =w.heap[g]?∧(own g∨g=w.heap.size)∧(b.live=true→z2h v≠some g):=by
 intro m c hm hl _ g hg
 have ho:=(h.blk m c hm).block_lt hl hg
 have:=h.lt g ho
 refine⟨z8r w o g this,.inl ho,fun _=>?_⟩
 rw[hv];simp;omega
theorem zl8{o:Oper}{cs:List PV}(ho:o.dst=some d)(hd:d<n)(hf:(z1k d hp&&z1q d tm)=true)(hcs:PV.saysL (0,d) cs=false)
 (h:∀β own a w,Rep ⟨n,tm,hp,up⟩ β own a w→∃(vs:List Value) (t:TypeId),(execOp a.eval o).run P w=.ok (.value (.pointer (some ⟨w.heap.size,0,none⟩))) (w.alloc (.cells vs.toArray t))∧CR β w own cs vs) :
 z1z P o ⟨n,tm,hp,up⟩ ⟨n,(d,.ptr (0,d) 0)::tm,(d,.box cs)::hp,up⟩:=by
 intro β own a w hrep
 obtain⟨vs,t,hrun,hcr⟩:=h β own a w hrep
 have he:=Ext.alloc w own (.cells vs.toArray t)
 have hv:z2h (.pointer (some ⟨w.heap.size,0,none⟩))=some w.heap.size:=rfl
 have hin:=hrep.install (d:=d) hf he (fun g hg=>by rcases hg with hg|rfl;exact zAx (hrep.heap.lt g hg) (by simp);simp) (v:=.pointer (some ⟨w.heap.size,0,none⟩)) (b:=.box cs)
  (z6m hrep.heap _ _ _ hv)
  (.box w.heap.size t cs vs (.inr rfl) (z5l w _) hcr.1 hcr.2.1 fun j x v hx hv=>((hcr.2.2 j x v hx hv).mono he).reβ (0,d) (z3h β d _) (PV.saysL_mem hcs hx))
 refine⟨_,_,_,z69 β d (.pointer (some ⟨w.heap.size,0,none⟩)),_,hrun,.inl rfl,?_,he,z3a _ _ _⟩
 have:=hin.put (dst:=o.dst) (p:=.ptr (0,d) 0) (v:=.pointer (some ⟨w.heap.size,0,none⟩)) (by simp[St.fits,ho,hd]) (.ptr _ 0 w.heap.size (z2d _ _ _))
 simpa[St.put,ho]using this
theorem zof(m:Nm)(vs:List Value):PV.saysL m (z5q vs)=false:=by
 induction vs with
 | nil=>rfl
 | cons v vs ih=>simp only[z5q,List.map_cons,PV.saysL,PV.says]at ih⊢;simpa using ih
theorem zjy{t:TypeId}{ti:TI}[ht:z1d P t ti](hz:ti.zero.all (·.oneCell')=true)(hf:(z1k d hp&&z1q d tm)=true)(hd:d<n) :
 z1z P ⟨some d,.alloc t,ty,pos,aft,gd⟩ ⟨n,tm,hp,up⟩ ⟨n,(d,.ptr (0,d) 0)::tm,(d,.box (z5q ti.zero))::hp,up⟩ :=
 zl8 rfl hd hf (zof _ _) fun β own a w hr=>by
  obtain⟨z,hzz,hzr⟩:=ht.zeroValue
  refine⟨ti.zero,t,?_,zio _ hz⟩
  simp[execOp,Instr.alloc,hzr,newVar,newRow,←hzz]
theorem z2e{t:TypeId}{ti:TI}[ht:z1d P t ti](hz:ti.zero.all (·.oneCell')=true:=by exact rfl)(hf:(z1k d hp&&z1q d tm)=true:=by exact rfl)(hd:d<n:=by decide):z1z P ⟨some d,.alloc t,ty,pos,aft,gd⟩ ⟨n,tm,hp,up⟩ ⟨n,(d,.ptr (0,d) 0)::tm,(d,.box (z5q ti.zero))::hp,up⟩:=zjy hz hf hd
theorem y19{x:Operand}{t:TypeId}{p:PV}{cs:List PV}(hx:St.ev ⟨n,tm,hp,up⟩ x=some p)(hc:cellsOf p=some cs)(hok:z8i ⟨n,tm,hp,up⟩ p=true)(hf:(z1k d hp&&z1q d tm)=true)(hcs:PV.saysL (0,d) cs=false)(hd:d<n) :
 z1z P ⟨some d,.box t x,ty,pos,aft,gd⟩ ⟨n,tm,hp,up⟩ ⟨n,(d,.ptr (0,d) 0)::tm,(d,.box cs)::hp,up⟩ :=
 zl8 rfl hd hf hcs fun β own a w hr=>by
  have:=z8p (hr.ev hx) (hr.oneRef hok) hc
  refine⟨(a.eval x).cells.toList,t,?_,by simpa using this.1,this.2.1,fun j x u hx hu=>this.2.2 j x u hx (by simpa using hu)⟩
  simp[execOp,Instr.box,newVar,newRow]
theorem z43{x:Operand}{t:TypeId}{p:PV}{cs:List PV}(hx:St.ev ⟨n,tm,hp,up⟩ x=some p:=by exact rfl)(hc:cellsOf p=some cs:=by exact rfl)(hok:z8i ⟨n,tm,hp,up⟩ p=true:=by exact rfl)(hf:(z1k d hp&&z1q d tm)=true:=by exact rfl)(hcs:PV.saysL (0,d) cs=false:=by exact rfl)(hd:d<n:=by decide):z1z P ⟨some d,.box t x,ty,pos,aft,gd⟩ ⟨n,tm,hp,up⟩ ⟨n,(d,.ptr (0,d) 0)::tm,(d,.box cs)::hp,up⟩:=y19 hx hc hok hf hcs hd
theorem zob(m:Nm)(ds:List D):PV.saysL m (ds.map .d)=false:=by
 induction ds with
 | nil=>rfl
 | cons x ds ih=>simp only[List.map_cons,PV.saysL,PV.says,Bool.false_or];exact ih
theorem zxb{x:Operand}{t:TypeId}{cs:List D}(hx:St.ev ⟨n,tm,hp,up⟩ x=some (.d (.agg cs)))(hf:(z1k d hp&&z1q d tm)=true)(hd:d<n) :
 z1z P ⟨some d,.box t x,ty,pos,aft,gd⟩ ⟨n,tm,hp,up⟩ ⟨n,(d,.ptr (0,d) 0)::tm,(d,.box (cs.map .d))::hp,up⟩ :=
 y19 hx rfl rfl hf (zob _ _) hd
theorem z1m{x:Operand}{t:TypeId}{cs:List D}(hx:St.ev ⟨n,tm,hp,up⟩ x=some (.d (.agg cs)):=by exact rfl)(hf:(z1k d hp&&z1q d tm)=true:=by exact rfl)(hd:d<n:=by decide):z1z P ⟨some d,.box t x,ty,pos,aft,gd⟩ ⟨n,tm,hp,up⟩ ⟨n,(d,.ptr (0,d) 0)::tm,(d,.box (cs.map .d))::hp,up⟩:=zxb hx hf hd
end Go.Ab
namespace Go.Ab
variable{P:Program}{n:Nat}{tm:List (Nat × PV)}{hp:Hp}{up:Hf}{d:Nat}{ty:TypeId}{pos:String}{aft:Array Edge}{gd:Option (Nat × Bool)}
theorem zpx{x:Operand}{t:TypeId}{ti:TI}[ht:z1d P t ti]{s:ByteArray}(hx:St.ev ⟨n,tm,hp,up⟩ x=some (S s))(hk:ti.kind=.str)(hd:d<n) :
 z1z P ⟨some d,.call ⟨.builtin .len,#[x],#[t]⟩,ty,pos,aft,gd⟩ ⟨n,tm,hp,up⟩ ⟨n,(d,I .i64 s.size)::tm,hp,up⟩ :=
 z1c rfl hd fun β own a w hr=>⟨.int .i64 s.size,by
  simp[execOp,resolve,invoke,builtin,Builtin.len_,run_underlying (ht.str hk),(hr.ev hx).lit,goInt],.I _ _⟩
theorem zrf{x:Operand}{t e:TypeId}{ti:TI}[ht:z1d P t ti](hx:St.ev ⟨n,tm,hp,up⟩ x=some (.d (.lit z1t)))(hk:ti.kind=.slice e)(hd:d<n) :
 z1z P ⟨some d,.call ⟨.builtin .len,#[x],#[t]⟩,ty,pos,aft,gd⟩ ⟨n,tm,hp,up⟩ ⟨n,(d,I .i64 0)::tm,hp,up⟩ :=
 z1c rfl hd fun β own a w hr=>⟨.int .i64 0,by
  simp[execOp,resolve,invoke,builtin,Builtin.len_,run_underlying (ht.slice hk),(hr.ev hx).lit,goInt],.I _ _⟩
theorem DR.slice_len{w:World}{own:Nat→Prop}{xs:List (List D)}{v:Value}(h:DR w own (.slice xs) v):∃a cap,v=.slice a xs.length cap:=by
 cases h with
 | nil a cap=>exact⟨a,cap,rfl⟩
 | slice _ g o cap k c=>exact⟨_,cap,rfl⟩
theorem y1r{x:Operand}{t e:TypeId}{ti:TI}[ht:z1d P t ti]{xs:List (List D)}(hx:St.ev ⟨n,tm,hp,up⟩ x=some (.d (.slice xs)))(hk:ti.kind=.slice e)(hd:d<n) :
 z1z P ⟨some d,.call ⟨.builtin .len,#[x],#[t]⟩,ty,pos,aft,gd⟩ ⟨n,tm,hp,up⟩ ⟨n,(d,I .i64 xs.length)::tm,hp,up⟩ :=
 z1c rfl hd fun β own a w hr=>⟨.int .i64 xs.length,by
  have h:=hr.ev hx
  generalize hv:a.eval x=v at h
  cases h with
  | d _ _ h =>
   obtain⟨aa,cap,rfl⟩:=h.slice_len
   simp[execOp,resolve,invoke,builtin,Builtin.len_,run_underlying (ht.slice hk),hv,goInt],.I _ _⟩
theorem Rep.row{s:St}{β:Nm→Value}{own:Nat→Prop}{a:Act}{w:World}(h:Rep s β own a w){m:Nm}{e:TypeId}{k:Nat}{xs:List (List D)}(hb:z19 (push s.hp s.up) m=some (.row e k xs)) :
 ∃vs,(∀g,(β m).ownBlock=some g→own g)∧0<k∧w.ownsRow 0 e k (β m) xs.length vs∧z9n w own k xs vs:=by
 have:=h.heap.blk m _ hb
 generalize hv:β m=v at this
 cases this with
 | row v e k xs vs ho hk hr hd=>exact⟨vs,ho,hk,hr,hd⟩
theorem zih{x:Operand}{t e e':TypeId}{ti:TI}[ht:z1d P t ti]{m:Nm}{k:Nat}{xs:List (List D)}(hx:St.ev ⟨n,tm,hp,up⟩ x=some (.ref m))(hb:z19 (push hp up) m=some (.row e' k xs))(hk:ti.kind=.slice e)(hd:d<n) :
 z1z P ⟨some d,.call ⟨.builtin .len,#[x],#[t]⟩,ty,pos,aft,gd⟩ ⟨n,tm,hp,up⟩ ⟨n,(d,I .i64 xs.length)::tm,hp,up⟩ :=
 z1c rfl hd fun β own a w hr=>⟨.int .i64 xs.length,by
  have h:=hr.ev hx
  obtain⟨vs,ho,hkk,hown,hrr⟩:=hr.row hb
  have hlen:∃aa cap,β m=.slice aa xs.length cap:=by
   exact zD107
  obtain⟨aa,cap,hlen⟩:=hlen
  generalize hv:a.eval x=v at h
  cases h with
  | ref _=>simp[execOp,resolve,invoke,builtin,Builtin.len_,run_underlying (ht.slice hk),hv,hlen,goInt],.I _ _⟩
theorem zzn{x ix:Operand}{t e:TypeId}{ti te:TI}[ht:z1d P t ti][he:z1d P e te]{xs:List (List D)}{y:List D}{k:IntKind}{i:Int}(hx:St.ev ⟨n,tm,hp,up⟩ x=some (.d (.slice xs)))
 (hi:St.ev ⟨n,tm,hp,up⟩ ix=some (I k i)) (hk:ti.kind=.slice e) (h0:0≤i) (hy:xs[i.toNat]? =some y) (hs:y.length=te.size) (hd:d<n) :
 z1z P ⟨some d,.indexAddr t x ix,ty,pos,aft,gd⟩ ⟨n,tm,hp,up⟩ ⟨n,(d,.eptr y)::tm,hp,up⟩ :=
 z1c rfl hd fun β own a w hr=>by
  have h:=hr.ev hx
  have hlt:=(zA1.1 hy).1
  generalize hv:a.eval x=v at h
  cases h with
  | d _ _ h =>
   cases h with
   | nil a cap=>simp at hy
   | slice _ g o cap kk c hc hown hl hkk hcell hdd =>
    have hyk:y.length=kk:=hkk y (zA2 hy)
    refine⟨.pointer (some ⟨g,o+i.toNat*te.size,none⟩),?_,.eptr y g _ (fun j=>c i.toNat j) hown hl (fun j hj=>?_) fun j z hz=>hdd _ y hy j z hz⟩
    ·have h1:i<(xs.length:Int):=by omega
     simp only[execOp,hv,(hr.ev hi).lit]
     simp[Instr.indexAt,asIntOf,run_underlying (ht.slice hk),h0,h1,he.sizeOf,z4t]
    ·have:=hcell i.toNat hlt j (by omega)
     rw[←hyk,hs,←Nat.add_assoc]at this
     exact this
theorem eval_const(a:Act)(v:Value):a.eval (.const v)=v:=rfl
theorem zr7{x lo hi:Operand}{t e:TypeId}{ti te:TI}[ht:z1d P t ti][he:z1d P e te]{xs:List (List D)}{k k':IntKind}{l h:Int}(hx:St.ev ⟨n,tm,hp,up⟩ x=some (.d (.slice xs)))
 (hlo:St.ev ⟨n,tm,hp,up⟩ lo=some (I k l)) (hhi:St.ev ⟨n,tm,hp,up⟩ hi=some (I k' h)) (hk:ti.kind=.slice e) (h0:0≤l) (h1:l≤h) (h2:h≤xs.length) (hs:∀y∈xs,y.length=te.size) (hd:d<n) :
 z1z P ⟨some d,.slice t x (some lo) (some hi) none,ty,pos,aft,gd⟩ ⟨n,tm,hp,up⟩ ⟨n,(d,.d (.slice ((xs.take h.toNat).drop l.toNat)))::tm,hp,up⟩ :=
 z1c rfl hd fun β own a w hr=>by
  have hh:=hr.ev hx
  generalize hv:a.eval x=v at hh
  cases hh with
  | d _ _ hh =>
   cases hh with
   | nil aa cap =>
    simp at h2
    have e1:h=0:=by omega
    have e2:l=0:=by omega
    subst e1 e2
    refine⟨.slice (if cap=0 then aa else aa.map (·.add 0)) 0 cap,?_,.d _ _ ?_⟩
    ·simp only[execOp,hv,(hr.ev hlo).lit,(hr.ev hhi).lit,Option.map_some,Option.map_none]
     have:(0:Int)≤(cap:Int):=by omega
     simp[Instr.sliceAt,Instr.slice,Instr.sliceBounds,Instr.sliceBound,asIntOf,run_underlying (ht.slice hk),this,he.sizeOf]
    ·simp;exact .nil _ _
   | slice _ g o cap kk c hc hown hl hkk hcell hdd =>
    have hcap:h≤(cap:Int):=by omega
    have hlen:((xs.take h.toNat).drop l.toNat).length=(h-l).toNat:=by simp;omega
    have hrun:(execOp a.eval ⟨some d,.slice t x (some lo) (some hi) none,ty,pos,aft,gd⟩).run P w =
     .ok (.value (.slice (if cap=l.toNat then some ⟨g,o,none⟩else some ⟨g,o+l.toNat*te.size,none⟩) (h.toNat-l.toNat) (cap-l.toNat))) w:=by
     simp only[execOp,hv,(hr.ev hlo).lit,(hr.ev hhi).lit,Option.map_some,Option.map_none]
     have h3:l.toNat≤h.toNat:=by omega
     have h4:(0:Int)≤h:=by omega
     have h5:¬(max h 0<l):=by omega
     simp[Instr.sliceAt,Instr.slice,Instr.sliceBounds,Instr.sliceBound,asIntOf,run_underlying (ht.slice hk),h0,h4,hcap,h5,he.sizeOf,z4t]
    have hn:h.toNat-l.toNat=((xs.take h.toNat).drop l.toNat).length:=by rw[hlen];omega
    by_cases hz:h=l
    ·refine⟨_,hrun,.d _ _ ?_⟩
     have e1:(xs.take h.toNat).drop l.toNat=[]:=List.eq_nil_of_length_eq_zero (by rw[hlen];omega)
     rw[e1]
     have:h.toNat-l.toNat=0:=by omega
     rw[this];exact .nil _ _
    ·rw[zAy (by omega)]at hrun
     refine⟨_,hrun,.d _ _ ?_⟩
     rw[hn]
     have get:∀(i:Nat) (y:List D),((xs.take h.toNat).drop l.toNat)[i]? =some y→xs[l.toNat+i]? =some y:=by
      intro i y hy
      rw[List.getElem?_drop,List.getElem?_take]at hy
      split at hy
      ·exact hy
      ·cases hy
     have hte:te.size=kk:=by
      have hm:xs[0]'(by omega)∈xs:=List.getElem_mem _
      rw[←hs _ hm,hkk _ hm]
     refine .slice _ g _ _ kk (fun i j=>c (l.toNat+i) j) (by rw[hlen];omega) hown hl (fun y hy=>hkk y (List.mem_of_mem_take (List.mem_of_mem_drop hy))) (fun i hi j hj=>?_) fun i y hy j z hz=>hdd _ y (get i y hy) j z hz
     have:=hcell (l.toNat+i) (by rw[hlen]at hi;omega) j hj
     have e:o+l.toNat*te.size+(i*kk+j)=o+((l.toNat+i)*kk+j):=by rw[hte,Nat.add_mul];omega
     rw[e];exact this
theorem zib{x lo:Operand}{t e:TypeId}{ti te:TI}[ht:z1d P t ti][he:z1d P e te]{xs:List (List D)}{k:IntKind}{l:Int}(hx:St.ev ⟨n,tm,hp,up⟩ x=some (.d (.slice xs)))
 (hlo:St.ev ⟨n,tm,hp,up⟩ lo=some (I k l)) (hk:ti.kind=.slice e) (h0:0≤l) (h1:l≤xs.length) (hs:∀y∈xs,y.length=te.size) (hd:d<n) :
 z1z P ⟨some d,.slice t x (some lo) none none,ty,pos,aft,gd⟩ ⟨n,tm,hp,up⟩ ⟨n,(d,.d (.slice (xs.drop l.toNat)))::tm,hp,up⟩:=by
 have:=zr7 (P:=P) (n:=n) (tm:=tm) (hp:=hp) (up:=up) (d:=d) (ty:=ty) (pos:=pos) (aft:=aft) (gd:=gd) (x:=x) (lo:=lo) (hi:=.const (.int .i64 xs.length)) (t:=t) hx hlo (k':=.i64) (h:=xs.length) rfl hk h0 h1 (Int.le_refl _) hs hd
 intro β own a w hr
 obtain⟨nx,v,w',β',own',hrun,rest⟩:=this β own a w hr
 refine⟨nx,v,w',β',own',?_,by simpa using rest⟩
 rw[←hrun]
 have hh:=hr.ev hx
 generalize hv:a.eval x=v at hh
 cases hh with
 | d _ _ hh =>
  obtain⟨aa,cap,rfl⟩:=hh.slice_len
  have hcap:xs.length≤cap∨xs=[]:=by cases hh with|nil=>exact .inr rfl|slice=>exact .inl (by assumption)
  simp only[execOp,hv,(hr.ev hlo).lit,Option.map_some,Option.map_none,eval_const]
  have h2:xs.length≤cap:=by
   rcases hcap with h|h
   ·exact h
   ·subst h;simp
  simp[Instr.sliceAt,Instr.slice,Instr.sliceBounds,Instr.sliceBound,asIntOf,run_underlying (ht.slice hk),h0,h1,h2]
theorem zoh{x hi:Operand}{t e:TypeId}{ti te:TI}[ht:z1d P t ti][he:z1d P e te]{xs:List (List D)}{k:IntKind}{h:Int}(hx:St.ev ⟨n,tm,hp,up⟩ x=some (.d (.slice xs)))
 (hhi:St.ev ⟨n,tm,hp,up⟩ hi=some (I k h)) (hk:ti.kind=.slice e) (h0:0≤h) (h1:h≤xs.length) (hs:∀y∈xs,y.length=te.size) (hd:d<n) :
 z1z P ⟨some d,.slice t x none (some hi) none,ty,pos,aft,gd⟩ ⟨n,tm,hp,up⟩ ⟨n,(d,.d (.slice (xs.take h.toNat)))::tm,hp,up⟩:=by
 have:=zr7 (P:=P) (n:=n) (tm:=tm) (hp:=hp) (up:=up) (d:=d) (ty:=ty) (pos:=pos) (aft:=aft) (gd:=gd) (x:=x) (lo:=.const (.int .i64 0)) (hi:=hi) (t:=t) hx (k:=.i64) (l:=0) rfl hhi hk (Int.le_refl _) h0 h1 hs hd
 intro β own a w hr
 obtain⟨nx,v,w',β',own',hrun,rest⟩:=this β own a w hr
 refine⟨nx,v,w',β',own',?_,by simpa using rest⟩
 rw[←hrun]
 have hh:=hr.ev hx
 generalize hv:a.eval x=v at hh
 cases hh with
 | d _ _ hh =>
  obtain⟨aa,cap,rfl⟩:=hh.slice_len
  have hcap:xs.length≤cap∨xs=[]:=by cases hh with|nil=>exact .inr rfl|slice=>exact .inl (by assumption)
  have h2:h≤(cap:Int):=by
   rcases hcap with h|h
   ·omega
   ·subst h;simp at h1;omega
  simp only[execOp,hv,(hr.ev hhi).lit,Option.map_some,Option.map_none,eval_const]
  simp[Instr.sliceAt,Instr.slice,Instr.sliceBounds,Instr.sliceBound,asIntOf,run_underlying (ht.slice hk),h0,h2]
theorem zs3{x:Operand}{i:Nat}{ps:List PV}{p:PV}(hx:St.ev ⟨n,tm,hp,up⟩ x=some (.tup ps))(hi:ps[i]? =some p)(hd:d<n) :
 z1z P ⟨some d,.extract x i,ty,pos,aft,gd⟩ ⟨n,tm,hp,up⟩ ⟨n,(d,p)::tm,hp,up⟩ :=
 z1c rfl hd fun β own a w hr=>by
  have h:=hr.ev hx
  generalize hv:a.eval x=v at h
  cases h with
  | tup _ vs hl hd' =>
   have hlt:i<vs.length:=by rw[←hl];exact(zA1.1 hi).1
   have hvi:vs[i]? =some vs[i]:=zA0 hlt
   exact⟨vs[i],by simp[execOp,hv,Instr.extract,hlt],hd' i p _ hi hvi⟩
def chunk{α:Type}(k:Nat):Nat→List α→List (List α)
 | 0,_=>[]
 | m+1,l=>l.take k::chunk k m (l.drop k)
theorem z2z{α:Type}(k m:Nat)(l:List α):(chunk k m l).length=m:=by
 induction m generalizing l with
 | zero=>rfl
 | succ m ih=>simp[chunk,ih]
theorem z95{α:Type}(k:Nat):∀(m:Nat) (l:List α) (i:Nat),i<m→(chunk k m l)[i]? =some ((l.drop (i*k)).take k)
 | 0,l,i,h=>by omega
 | m+1,l,0,h=>by simp[chunk]
 | m+1,l,i+1,h=>by
  simp only[chunk,List.getElem?_cons_succ]
  rw[z95 k m _ i (by omega),List.drop_drop,Nat.add_mul,Nat.one_mul,Nat.add_comm k]
def z6c(zs:List Value)(m:Nat):List PV:=(List.range m).map fun k=>.d (.lit (zs.getD (k % zs.length) undef))
theorem zri{β:Nm→Value}{w:World}{own:Nat→Prop}(zs:List Value)(m:Nat)(h:zs.all (·.oneCell')=true)(h0:0<zs.length∨m=0) :
 CR β w own (z6c zs m) ((List.range m).map fun k=>zs.getD (k % zs.length) undef):=by
 have hone:∀k,0<zs.length→(zs.getD (k % zs.length) undef).oneCell'=true:=by
  intro k hz
  have hlt:=Nat.mod_lt k hz
  have:zs.getD (k % zs.length) undef=zs[k % zs.length]:=by simp[List.getD,zA0 hlt]
  rw[this]
  exact List.all_eq_true.1 h _ (List.getElem_mem _)
 refine⟨by simp[z6c],fun v hv=>?_,fun j x v hx hv=>?_⟩
 ·simp at hv
  obtain⟨k,hk,rfl⟩:=hv
  rcases h0 with h0|h0
  ·exact hone k h0
  ·omega
 ·simp only[z6c,zAd]at hx hv
  by_cases hj:j<m
  ·rw[List.getElem?_range hj]at hx hv
   simp at hx hv
   subst hx hv
   refine .d _ _ (.lit _ ?_)
   rcases h0 with h0|h0
   ·exact hone j h0
   ·omega
  ·rw[zAv (by simpa using hj)]at hx
   simp at hx
theorem z6u{t e:TypeId}{ti te:TI}(ht:z1d P t ti)(he:z1d P e te)(hk:ti.kind=.slice e)(hz:te.zero.all (·.oneCell')=true)(h0:te.zero.length=te.size)(h1:te.size≠0){len:Nat}(hsm:len*te.size≤16777216)
 {β:Nm→Value} {w:World} {own:Nat→Prop} (parts:Array (Nat × Value)) (qs:List (Nat × List PV)) {cs:List PV}
 (hl:qs.length=parts.toList.length) (hp:∀(j:Nat) (q:Nat × List PV) (u:Nat × Value),qs[j]? =some q→parts.toList[j]? =some u→q.1=u.1∧CR β w own q.2 u.2.cells.toList)
 (hf:z61 (fun i=>some (i*te.size,te.size)) (z6c te.zero (len*te.size)) qs=some cs) :
 ∃vs:List Value,(Instr.buildSlice t len parts).run P w=.ok (.slice (some ⟨w.heap.size,0,none⟩) len len) (w.alloc (.cells vs.toArray e))∧CR β w own cs vs∧vs.length=len*te.size:=by
 have hcr:=zri (β:=β) (w:=w) (own:=own) te.zero (len*te.size) hz (by omega)
 obtain⟨vs,hfill,hcr2⟩:=zh7 qs parts.toList _ cs _ hl hp hcr hf
 have hlen:vs.length=len*te.size:=by
  have:∀(qs:List (Nat × List PV)) (cs cs':List PV),z61 (fun i=>some (i*te.size,te.size)) cs qs=some cs'→cs'.length=cs.length:=by
   intro qs
   induction qs with
   | nil=>intro cs cs' h;simp[z61]at h;subst h;rfl
   | cons q qs ih =>
    intro cs cs' h
    obtain⟨i,ps⟩:=q
    simp only[z61]at h
    split at h
    ·cases h
    ·rw[ih _ _ h,z1l]
  rw[←hcr2.1,this qs _ _ hf]
  simp[z6c]
 refine⟨vs,?_,hcr2,hlen⟩
 obtain⟨i,u,z,hi,hu,hzi,hs,hb,hkk,hzz,_⟩:=he.get
 have hsmall:¬16777216<len*i.size:=by rw[hs];omega
 by_cases hm:len*i.size=0
 ·have hf0:Instr.fill (fun j=>some (j*i.size,i.size)) #[] parts.toList=some vs.toArray:=by
   rw[hs]at hm⊢
   rw[hm]at hfill
   exact hfill
  simp[Instr.buildSlice,run_underlying (ht.slice hk),Go.sizeOf,typeInfo,Go.zeroValue,hi,hzi,hsmall,hm,show Array.range 0=#[]from rfl,hf0,newRow]
 ·have hc:(Array.range (len*i.size)).map (z.cells[· % z.cells.size]!)=((List.range (len*te.size)).map fun k=>te.zero.getD (k % te.zero.length) undef).toArray:=by
   rw[hs]
   apply Array.ext'
   simp only[Array.toList_map,Array.toList_range]
   apply List.map_congr_left
   intro k _
   have hsz:z.cells.size=te.zero.length:=by rw[←hzz];simp
   have hlt:k % te.zero.length<te.zero.length:=Nat.mod_lt _ (by omega)
   rw[hsz,getElem!_pos z.cells _ (by omega)]
   simp only[List.getD,←hzz]
   have:k % z.cells.toList.length<z.cells.size:=by rw[←hzz]at hlt;simpa using hlt
   simp at this
   simp[this]
  have hf0:Instr.fill (fun j=>some (j*i.size,i.size)) ((Array.range (len*i.size)).map (z.cells[· % z.cells.size]!)) parts.toList=some vs.toArray:=by
   rw[hc,hs];exact hfill
  exact run_buildSlice w t e len parts vs.toArray i z (ht.slice hk) hi hzi (by omega) hm hf0
theorem zgl{β:Nm→Value}{own:Nat→Prop}{w:World}(hlt:∀g,own g→g<w.heap.size){len k:Nat}{ds:List D}{vs:List Value}(hcr:CR β w own (ds.map .d) vs)(hl:vs.length=len*k)(e:TypeId) :
 DR (w.alloc (.cells vs.toArray e)) own (.slice (chunk k len ds)) (.slice (some ⟨w.heap.size,0,none⟩) len len):=by
 have hb:RowKit.Below w.heap.size w (w.alloc (.cells vs.toArray e)):=(RowKit.Below.refl _ _).alloc (zAj _) _
 have:=DR.slice (w:=w.alloc (.cells vs.toArray e)) (own:=own) (chunk k len ds) w.heap.size 0 len k (fun i j=>vs.getD (i*k+j) undef) (by rw[z2z];exact zAj _)
  (fun h=>by have:=hlt _ h;omega) (by simp)
  (fun x hx=>by
    obtain⟨i,hi⟩:=zAw hx
    have hil:i<len:=by have:=(zA1.1 hi).1;rwa [z2z]at this
    rw[z95 k len ds i hil]at hi
    simp at hi;subst hi
    have hdl:=hcr.data.1
    simp only[zAm,List.length_drop,hdl,hl]
    have:(i+1)*k≤len*k:=Nat.mul_le_mul_right k hil
    rw[Nat.add_mul]at this
    omega)
  (fun i hi j hj=>by
    rw[z2z]at hi
    have hlt:i*k+j<vs.length:=by
     have:(i+1)*k≤len*k:=Nat.mul_le_mul_right k hi
     rw[Nat.add_mul]at this
     omega
    have hg:vs.getD (i*k+j) undef=vs[i*k+j]:=by simp[List.getD,zA0 hlt]
    rw[cell_of_row _ w.heap.size _ vs.toArray e (0,0) (z5l w _),hg]
    exact⟨by simp[hlt],hcr.2.1 _ (List.getElem_mem _)⟩)
  (fun i x hx j y hy=>by
    have hil:i<len:=by have:=(zA1.1 hx).1;rwa [z2z]at this
    rw[z95 k len ds i hil]at hx
    simp at hx;subst hx
    rw[List.getElem?_take]at hy
    split at hy
    ·rw[List.getElem?_drop]at hy
     have hlt:i*k+j<vs.length:=by rw[←hcr.data.1];exact(zA1.1 hy).1
     have hg:vs.getD (i*k+j) undef=vs[i*k+j]:=by simp[List.getD,zA0 hlt]
     rw[hg]
     exact(hcr.data.2 _ y _ hy (zA0 hlt)).mono (Below.ext hb own)
    ·cases hy)
 rw[z2z]at this
 exact this
theorem y5r{t e:TypeId}{ti te:TI}[ht:z1d P t ti][he:z1d P e te]{len:Nat}{l:List (Nat × Operand)}{qs:List (Nat × List PV)}{cs:List PV}{ds:List D}{xs:List (List D)}(hq:St.parts ⟨n,tm,hp,up⟩ l=some qs)(hok:St.okParts ⟨n,tm,hp,up⟩ l=true)
 (hf:z61 (fun i=>some (i*te.size,te.size)) (z6c te.zero (len*te.size)) qs=some cs) (hm:z8d cs=some ds) (hxs:chunk te.size len ds=xs) (hk:ti.kind=.slice e)
 (hz:(te.zero.all (·.oneCell')&&te.zero.length == te.size&&te.size != 0&&decide (len*te.size≤16777216))=true) (hd:d<n) :
 z1z P ⟨some d,.buildSlice t len l.toArray,ty,pos,aft,gd⟩ ⟨n,tm,hp,up⟩ ⟨n,(d,.d (.slice xs))::tm,hp,up⟩ :=
 zb7 rfl hd fun β own a w hr=>by
  simp only[zA7,beq_iff_eq,bne_iff_ne,zA3]at hz
  obtain⟨⟨⟨z1,z2⟩,z3⟩,z4⟩:=hz
  obtain⟨h1,h2⟩:=hr.parts l qs hq hok
  have hl:(l.toArray.map fun x=>(x.1,a.eval x.2)).toList=l.map fun x=>(x.1,a.eval x.2):=by simp
  obtain⟨vs,hrun,hcr,hvl⟩:=z6u (P:=P) ht he hk z1 z2 z3 z4 (β:=β) (w:=w) (own:=own) (l.toArray.map fun x=>(x.1,a.eval x.2)) qs (by rw[hl];exact h1) (by rw[hl];exact h2) hf
  replace hcr:=z5x hcr hm
  exact zD104
theorem zja{t e:TypeId}{ti te:TI}[ht:z1d P t ti][he:z1d P e te]{len:Nat}{l:List (Nat × Operand)}{qs:List (Nat × List PV)}{cs:List PV}{ds:List D}{xs:List (List D)}(hq:St.parts ⟨n,tm,hp,up⟩ l=some qs)(hok:St.okParts ⟨n,tm,hp,up⟩ l=true)
 (hf:z61 (fun i=>some (i*te.size,te.size)) (z6c te.zero (len*te.size)) qs=some cs) (hm:z8d cs=some ds) (hxs:chunk te.size len ds=xs) (hk:ti.kind=.slice e)
 (hz:(te.zero.all (·.oneCell')&&te.zero.length == te.size&&te.size != 0&&decide (len*te.size≤16777216))=true) (hfr:(z1k d hp&&z1q d tm)=true) (hd:d<n) :
 z1z P ⟨some d,.buildSlice t len l.toArray,ty,pos,aft,gd⟩ ⟨n,tm,hp,up⟩ ⟨n,(d,.ref (0,d))::tm,(d,.row e te.size xs)::hp,up⟩:=by
 intro β own a w hr
 simp only[zA7,beq_iff_eq,bne_iff_ne,zA3]at hz
 obtain⟨⟨⟨z1,z2⟩,z3⟩,z4⟩:=hz
 obtain⟨h1,h2⟩:=hr.parts l qs hq hok
 have hl:(l.toArray.map fun x=>(x.1,a.eval x.2)).toList=l.map fun x=>(x.1,a.eval x.2):=by simp
 obtain⟨vs,hrun,hcr,hvl⟩:=z6u (P:=P) ht he hk z1 z2 z3 z4 (β:=β) (w:=w) (own:=own) (l.toArray.map fun x=>(x.1,a.eval x.2)) qs (by rw[hl];exact h1) (by rw[hl];exact h2) hf
 replace hcr:=z5x hcr hm
 subst hxs
 have hE:=Ext.alloc w own (.cells vs.toArray e)
 have hrow:z9n (w.alloc (.cells vs.toArray e)) (fun g=>own g∨g=w.heap.size) te.size (chunk te.size len ds) vs:=by
  have hDR:=(zgl hr.heap.lt hcr hvl e)
  refine⟨fun x hx=>?_,by rw[z2z];exact hvl,hcr.2.1,fun i x hx j y hy=>?_⟩
  ·obtain⟨i,hi⟩:=zAw hx
   have hil:i<len:=by have:=(zA1.1 hi).1;rwa [z2z]at this
   rw[z95 _ len ds i hil]at hi
   simp at hi;subst hi
   have hdl:=hcr.data.1
   simp only[zAm,List.length_drop,hdl,hvl]
   have:(i+1)*te.size≤len*te.size:=Nat.mul_le_mul_right _ hil
   rw[Nat.add_mul]at this
   omega
  ·have hil:i<len:=by have:=(zA1.1 hx).1;rwa [z2z]at this
   rw[z95 _ len ds i hil]at hx
   simp at hx;subst hx
   rw[List.getElem?_take]at hy
   split at hy
   ·rw[List.getElem?_drop]at hy
    have hlt:i*te.size+j<vs.length:=by rw[←hcr.data.1];exact(zA1.1 hy).1
    exact⟨_,zA0 hlt,(hcr.data.2 _ y _ hy (zA0 hlt)).mono hE⟩
   ·cases hy
 have hin:=hr.install (d:=d) hfr hE (fun g hg=>by rcases hg with hg|rfl;exact zAx (hr.heap.lt g hg) (by simp);simp) (v:=.slice (some ⟨w.heap.size,0,none⟩) len len) (b:=.row e te.size (chunk te.size len ds))
  (z6m hr.heap _ _ _ rfl)
  (.row _ e te.size _ vs (fun g hg=>by simp[Value.ownBlock]at hg;exact .inr hg.symm) (by omega)
    ⟨by rw[z2z];exact hvl,.inr ⟨w.heap.size,len,vs.toArray,by rw[z2z],zAf _,z5l w _,by rw[z2z];exact zAj _,by unfold maxLen;have:len≤len*te.size:=Nat.le_mul_of_pos_right _ (by omega);omega,by simpa using hvl,by rw[z2z];simp[←hvl]⟩⟩ hrow)
 refine⟨_,.slice (some ⟨w.heap.size,0,none⟩) len len,w.alloc (.cells vs.toArray e),z69 β d (.slice (some ⟨w.heap.size,0,none⟩) len len),_,?_,.inl rfl,?_,hE,z3a _ _ _⟩
 ·exact zD26
 ·have hp:=PR.ref (β:=z69 β d (.slice (some ⟨w.heap.size,0,none⟩) len len)) (w:=w.alloc (.cells vs.toArray e)) (own:=fun g=>own g∨g=w.heap.size) (0,d)
  rw[z2d]at hp
  exact hin.put (dst:=some d) (p:=.ref (0,d)) (by simp[St.fits,hd]) hp
end Go.Ab
namespace Go.Ab
variable{P:Program}{n:Nat}{tm:List (Nat × PV)}{hp:Hp}{up:Hf}{d:Nat}{ty:TypeId}{pos:String}{aft:Array Edge}{gd:Option (Nat × Bool)}
variable{f:FuncId}{R:z4b}{k:List Item}{all:Array Oper}{o:Oper}{l:List Oper}
def St.evs(s:St):List Operand→Option (List PV)
 | []=>some []
 | x::r=>match s.ev x with
  | some p=>match s.evs r with
   | some q=>some (p::q)
   | none=>none
  | none=>none
theorem Rep.evs{s:St}{β:Nm→Value}{own:Nat→Prop}{a:Act}{w:World}(hr:Rep s β own a w):∀ {l:List Operand} {ps:List PV},s.evs l=some ps→z8g β w own ps (l.map a.eval)
 | [],ps,h=>by simp[St.evs]at h;subst h;exact⟨rfl,by simp⟩
 | x::r,ps,h=>by
  simp only[St.evs]at h
  cases hx:s.ev x with
  | none=>rw[hx]at h;cases h
  | some p =>
   rw[hx]at h
   cases hq:s.evs r with
   | none=>simp[hq]at h
   | some q =>
    simp[hq]at h;subst h
    obtain⟨h1,h2⟩:=hr.evs hq
    refine⟨by simpa using h1,fun j y v hy hv=>?_⟩
    cases j with
    | zero=>simp at hy hv;subst hy hv;exact hr.ev hx
    | succ j=>exact h2 j y v (by simpa using hy) (by simpa using hv)
theorem z8g.app{β:Nm→Value}{w:World}{own:Nat→Prop}{ps qs:List PV}{vs us:List Value}(h:z8g β w own ps vs)(h':z8g β w own qs us):z8g β w own (ps++qs) (vs++us):=by
 refine⟨by simp[h.1,h'.1],fun j p v hp hv=>?_⟩
 by_cases hj:j<ps.length
 ·rw[zAb hj]at hp
  rw[zAb (by rw[←h.1];exact hj)]at hv
  exact h.2 j p v hp hv
 ·rw[zAg (by omega)]at hp
  rw[zAg (by rw[←h.1];omega),←h.1]at hv
  exact h'.2 _ p v hp hv
theorem z7g{s:St}{β:Nm→Value}{own:Nat→Prop}{a:Act}{w:World}(hr:Rep s β own a w){g:FuncId}{fo:Operand}{args:List Operand}{first cap ps:List PV}{ats:Array TypeId}(hfo:s.ev fo=some (.fn (.func g) first cap))(hev:s.evs args=some ps)(hp:Plain P g)
 {dst:Option Tmp}:∃vals:List Value,(execOp a.eval ⟨dst,.call ⟨.value fo,args.toArray,ats⟩,ty,pos,aft,gd⟩).run P w=.ok (.enter g vals.toArray) w∧z8g β w own (first++ps++cap) vals:=by
 obtain⟨fn,hfn,hname,hbody⟩:=hp
 have h:=hr.ev hfo
 generalize hv:a.eval fo=v at h
 cases h with
 | fn _ _ _ fv cv hl hl' hd hd' =>
  refine⟨fv++args.map a.eval++cv,?_,(z8g.app ⟨hl,hd⟩ (hr.evs hev)).app ⟨hl',hd'⟩⟩
  exact zD56
theorem zdh{g:FuncId}{fo:Operand}{args:List Operand}{first cap ps:List PV}{ats:Array TypeId}{R':zc7}(hfo:St.ev ⟨n,tm,hp,up⟩ fo=some (.fn (.func g) first cap))(hev:St.evs ⟨n,tm,hp,up⟩ args=some ps)
 (hsp:Spec P g (first++ps++cap) (push hp up) R') (hd:d<n)
 (hk:∀r H,R' r H→∃p hp' up',r=.v p∧H=push hp' up'∧Ops P f R all l k ⟨n,(d,p)::tm,hp',up'⟩) :
 Op1 P f R all ⟨some d,.call ⟨.value fo,args.toArray,ats⟩,ty,pos,aft,gd⟩ l k ⟨n,tm,hp,up⟩:=by
 refine zgg (g:=g) fun β own a w hr=>?_
 obtain⟨vals,hrun,hargs⟩:=z7g hr hfo hev hsp.plain (dst:=some d) (ats:=ats) (ty:=ty) (pos:=pos) (aft:=aft) (gd:=gd)
 refine⟨vals.toArray,w,own,hrun,Ext.refl _ _,(hsp.run β own w vals hr.heap hargs).mono fun e w' hfin=>?_⟩
 obtain⟨v,r,H,own',he,hR,hrv,hheap,hext⟩:=hfin
 obtain⟨p,hp',up',rfl,rfl,hops⟩:=hk r H hR
 cases hrv with
 | v _ _ hpv =>
  refine⟨v,β,own',_,he,?_,hext,rfl,hops⟩
  have hr':Rep ⟨n,tm,hp',up'⟩ β own' a w':=⟨hr.size,hr.defers,fun t q hq=>(hr.tm t q hq).mono hext,hheap⟩
  exact hr'.put (dst:=some d) (by simp[St.fits,hd]) hpv
def z0q(P:Program)(g:FuncId)(ps:List PV)(p:PV):Prop:=∀H,Spec P g ps H (fun r H'=>r=.v p∧H'=H)
theorem zs4{g:FuncId}{fo:Operand}{args:List Operand}{first cap ps:List PV}{ats:Array TypeId}{p:PV}(hsp:z0q P g (first++ps++cap) p)(hfo:St.ev ⟨n,tm,hp,up⟩ fo=some (.fn (.func g) first cap))(hev:St.evs ⟨n,tm,hp,up⟩ args=some ps)
 (hd:d<n) (hk:Ops P f R all l k ⟨n,(d,p)::tm,hp,up⟩) :
 Op1 P f R all ⟨some d,.call ⟨.value fo,args.toArray,ats⟩,ty,pos,aft,gd⟩ l k ⟨n,tm,hp,up⟩ :=
 zdh hfo hev (hsp _) hd fun r H ⟨h1,h2⟩=>⟨p,hp,up,h1,h2,hk⟩
theorem y69{g:FuncId}{args:List Operand}{ps:List PV}{ats:Array TypeId}{p:PV}(hsp:z0q P g ps p)(hev:St.evs ⟨n,tm,hp,up⟩ args=some ps)
 (hd:d<n) (hk:Ops P f R all l k ⟨n,(d,p)::tm,hp,up⟩) :
 Op1 P f R all ⟨some d,.call ⟨.value (.func g),args.toArray,ats⟩,ty,pos,aft,gd⟩ l k ⟨n,tm,hp,up⟩ :=
 zs4 (first:=[]) (cap:=[]) (by simpa using hsp) rfl hev hd hk
def Sub:List (Nat × PV)→List (Nat × PV)→Prop
 | [],_=>True
 | (t,p)::r,tm=>look tm t=some p∧Sub r tm
def zxp:Hp→Hp→Prop
 | [],_=>True
 | (t,p)::r,hp=>look hp t=some p∧zxp r hp
theorem Sub.get:∀ {tm' tm:List (Nat × PV)} {t:Nat} {p:PV},Sub tm' tm→look tm' t=some p→look tm t=some p
 | [],tm,t,p,_,h=>by simp[look]at h
 | (k,q)::r,tm,t,p,hs,h=>by
  simp only[look]at h
  split at h
  ·rename_i he;subst he;simp at h;subst h;exact hs.1
  ·exact Sub.get hs.2 h
theorem zxp.get:∀ {tm' tm:Hp} {t:Nat} {p:Blk},zxp tm' tm→look tm' t=some p→look tm t=some p
 | [],tm,t,p,_,h=>by simp[look]at h
 | (k,q)::r,tm,t,p,hs,h=>by
  simp only[look]at h
  split at h
  ·rename_i he;subst he;simp at h;subst h;exact hs.1
  ·exact zxp.get hs.2 h
theorem Le.of_sub{tm':List (Nat × PV)}{hp':Hp}(h:Sub tm' tm)(h':zxp hp' hp):Le ⟨n,tm,hp,up⟩ ⟨n,tm',hp',up⟩:=by
 intro β own a w hr
 refine⟨β,rfl,hr.size,hr.defers,fun t p hp=>hr.tm t p (h.get hp),?_⟩
 have key:∀m b,z19 (push hp' up) m=some b→z19 (push hp up) m=some b:=by
  rintro⟨k,s⟩ b hb
  cases k with
  | zero=>exact h'.get hb
  | succ k=>exact hb
 exact zD61
theorem y5w{tm':List (Nat × PV)}{hp':Hp}(hr:Run P f R k ⟨n,tm',hp',up⟩)(h:Sub tm' tm)(h':zxp hp' hp):Run P f R k ⟨n,tm,hp,up⟩ :=
 Run.le (Le.of_sub h h') hr
end Go.Ab
namespace Go.Ab
structure Eff where
 ins:List (Nat × PV):=[]
 pre:List (Nm × Blk):=[]
 free:List Nat:=[]
 put:List (Nat × PV):=[]
 hs:List (Nm × Blk):=[]
def St.setB(s:St)(m:Nm)(b:Blk):St:=match m.1 with
 | 0=>{ s with hp:=(m.2,b)::s.hp }
 | d+1=>{ s with up:=upd s.up (d,m.2) b }
def St.setBs(s:St):List (Nm × Blk)→St
 | []=>s
 | (m,b)::r=>(s.setB m b).setBs r
def St.puts(s:St):List (Nat × PV)→St
 | []=>s
 | (t,p)::r=>St.puts { s with tm:=(t,p)::s.tm } r
def St.app(s:St)(e:Eff):St:=(s.setBs e.hs).puts e.put
def z5e(s:St)(m:Nm):Option Blk:=push s.hp s.up m.1 m.2
structure zay(s:St)(e:Eff):Prop where
 ins:∀q∈e.ins,look s.tm q.1=some q.2
 pre:∀q∈e.pre,z5e s q.1=some q.2
 free:∀d∈e.free,(z1k d s.hp&&z1q d s.tm)=true
def zpo(P:Program)(f:FuncId)(R:z4b)(all:Array Oper)(k:List Item)(i:Nat)(s s':St):Prop :=
 ∀is,Run P f R (.inRegion all is::k) s'→Run P f R (.inRegion all (i::is)::k) s
def Loc(P:Program)(f:FuncId)(R:z4b)(all:Array Oper)(k:List Item)(m:Nat)(i:Nat)(e:Eff):Prop :=
 ∀s,s.n=m→zay s e→zpo P f R all k i s (s.app e)
theorem zm0{α:Type}{p:List α→Prop}(h0:p [])(hs:∀L x,p L→p (L++[x])):∀L,p L:=by
 have key:∀L:List α,p L.reverse:=by
  intro L
  induction L with
  | nil=>exact h0
  | cons x L ih=>rw[List.reverse_cons];exact hs _ _ ih
 intro L
 have:=key L.reverse
 rwa [List.reverse_reverse]at this
theorem zic{α:Type}(L:List α):L=[]∨∃A x,L=A++[x]:=by
 refine zm0 (p:=fun L=>L=[]∨∃A x,L=A++[x]) (.inl rfl) (fun L x _=>.inr ⟨L,x,rfl⟩) L
def mask(acc:List Nat)(o:Oper):Nat:=o.after.toList.foldl (fun s e=>if Region.binds .any e then s ||| 2 ^ e.on ||| acc.getD e.on 0 else s) 0
def zev(acc:List Nat):List Oper→List Nat
 | []=>acc
 | o::r=>zev (acc++[mask acc o]) r
inductive Lin(ops:List Oper):List Nat→Prop where
 | nil:Lin ops []
 | snoc (L:List Nat) (i:Nat) (o:Oper) (h:Lin ops L) (hn:i∉L) (ho:ops[i]? =some o) (hr:∀e∈o.after.toList,Region.binds .any e=true→e.on∈L):Lin ops (L++[i])
theorem Lin.pre{ops:List Oper}{L:List Nat}(h:Lin ops L):∀A B,L=A++B→Lin ops A:=by
 induction h with
 | nil=>intro A B e;simp at e;rw[e.1];exact .nil
 | snoc L i o h hn ho hr ih =>
  intro A B e
  rcases zic B with rfl|⟨B,b,rfl⟩
  ·simp at e;rw[←e];exact .snoc L i o h hn ho hr
  ·rw[←zAl]at e
   have:=List.append_inj' e rfl
   exact ih A B this.1
theorem Lin.at{ops:List Oper}{A:List Nat}{i:Nat}(h:Lin ops (A++[i])):i∉A∧∃o,ops[i]? =some o∧∀e∈o.after.toList,Region.binds .any e=true→e.on∈A:=by
 generalize hL:A++[i]=L at h
 cases h with
 | nil=>simp at hL
 | snoc L j o h hn ho hr =>
  have:=List.append_inj' hL rfl
  obtain⟨rfl,h2⟩:=this
  simp at h2;subst h2
  exact⟨hn,o,ho,hr⟩
theorem zcl(acc:List Nat)(j:Nat):∀(es:List Edge) (s:Nat),(es.foldl (fun s e=>if Region.binds .any e then s ||| 2 ^ e.on ||| acc.getD e.on 0 else s) s).testBit j=true →
 s.testBit j=true∨∃e∈es,Region.binds .any e=true∧(e.on=j∨(acc.getD e.on 0).testBit j=true)
 | [],s,h=>.inl h
 | e::es,s,h=>by
  rw[List.foldl_cons]at h
  rcases zcl acc j es _ h with h|⟨x,hx,hb,hxj⟩
  ·by_cases hb:Region.binds .any e=true
   ·rw[zAz hb]at h
    simp only[Nat.testBit_or,zAu,Nat.testBit_two_pow]at h
    rcases h with(h|h)|h
    ·exact .inl h
    ·exact .inr ⟨e,by simp,hb,.inl (by simpa using h)⟩
    ·exact .inr ⟨e,by simp,hb,.inr h⟩
   ·rw[zAy hb]at h;exact .inl h
  ·exact .inr ⟨x,List.mem_cons_of_mem _ hx,hb,hxj⟩
theorem z83(ops:List Oper):∀(r done:List Oper) (acc:List Nat),ops=done++r→acc.length=done.length →
 (∀i j,(acc.getD i 0).testBit j=true→∀A,Lin ops (A++[i])→j∈A) →
 ∀i j,((zev acc r).getD i 0).testBit j=true→∀A,Lin ops (A++[i])→j∈A
 | [],done,acc,he,hl,h=>h
 | o::r,done,acc,he,hl,h=>by
  refine z83 ops r (done++[o]) (acc++[mask acc o]) (by simp[he]) (by simp[hl]) fun i j hb A hA=>?_
  by_cases hi:i<acc.length
  ·refine h i j ?_ A hA
   simpa[List.getD,zAb hi]using hb
  ·by_cases hi2:i=acc.length
   ·subst hi2
    simp only[List.getD,zAg (zAj _),Nat.sub_self,List.getElem?_cons_zero,Option.getD_some]at hb
    rcases zcl acc j _ _ hb with h0|⟨e,he',hbd,hj⟩
    ·simp at h0
    ·obtain⟨hn,o',ho,hr⟩:=Lin.at hA
     have:o'=o:=by
      rw[he,hl]at ho
      simp at ho;exact ho.symm
     subst this
     have hin:=hr e he' hbd
     rcases hj with rfl|hj
     ·exact hin
     ·obtain⟨A1,A2,rfl⟩:=List.append_of_mem hin
      have hp:Lin ops (A1++[e.on]):=hA.pre (A1++[e.on]) (A2++[acc.length]) (by simp)
      have:=h e.on j hj A1 hp
      simp[this]
   ·have:(acc++[mask acc o]).getD i 0=0:=by
     simp[List.getD,zAv (l:=acc++[mask acc o]) (i:=i) (by simp;omega)]
    rw[this]at hb
    simp at hb
def Eff.tw(e:Eff):List Nat:=e.put.map (·.1)
def Eff.tr(e:Eff):List Nat:=e.ins.map (·.1)
def Eff.bw(e:Eff):List Nm:=e.hs.map (·.1)
def Eff.br(e:Eff):List Nm:=e.pre.map (·.1)
def Eff.speaks(e:Eff)(d:Nat):Bool:=(e.put.any fun q=>q.2.says (0,d))||(e.hs.any fun q=>q.1.1 == 0&&q.2.says (0,d))
def meets{α:Type}[BEq α](a b:List α):Bool:=a.any fun x=>b.contains x
def z6t(a b:Eff):Bool :=
 meets a.tw b.tr||meets a.tw b.tw||meets a.tr b.tw||meets a.bw b.br||meets a.bw b.bw||meets a.br b.bw||(a.free.any fun d=>b.speaks d)||(b.free.any fun d=>a.speaks d)
def zbc(ms:List Nat)(e:Eff)(j:Nat):List Eff→Nat→Bool
 | [],_=>true
 | a::r,i=>(!z6t a e||(ms.getD j 0).testBit i)&&zbc ms e j r (i+1)
def zgo(ms:List Nat)(done:List Eff):List Eff→Bool
 | []=>true
 | e::r=>zbc ms e done.length done 0&&zgo ms (done++[e]) r
def zcd:List Oper→Nat→Bool
 | [],_=>true
 | o::r,i=>o.after.toList.all (fun e=>!Region.binds .any e||decide (e.on<i))&&zcd r (i+1)
def zmc(s:St):List Eff→Bool
 | []=>true
 | e::r=>e.free.all (fun d=>z1k d s.hp&&z1q d s.tm)&&zmc s r
def z6b(ops:List Oper)(s:St)(es:List Eff):Bool :=
 ops.length == es.length&&zgo (zev [] ops) [] es&&zcd ops 0&&zmc s es
theorem z9x(ms:List Nat)(e:Eff)(j:Nat):∀(l:List Eff) (i:Nat),zbc ms e j l i=true→∀m a,l[m]? =some a→z6t a e=true→(ms.getD j 0).testBit (i+m)=true
 | [],i,h,m,a,hm,hc=>by simp at hm
 | b::r,i,h,m,a,hm,hc=>by
  simp only[zbc,zA7,zAu,zA6]at h
  cases m with
  | zero=>simp at hm;subst hm;rcases h.1 with h1|h1;rw[hc]at h1;cases h1;exact h1
  | succ m =>
   have:=z9x ms e j r (i+1) h.2 m a (by simpa using hm) hc
   rwa [show i+1+m=i+(m+1) by omega]at this
theorem z8u(ms:List Nat):∀(r done:List Eff),zgo ms done r=true→(∀i j a b,i<j→done[i]? =some a→done[j]? =some b→z6t a b=true→(ms.getD j 0).testBit i=true) →
 ∀i j a b,i<j→(done++r)[i]? =some a→(done++r)[j]? =some b→z6t a b=true→(ms.getD j 0).testBit i=true
 | [],done,h,hd=>by simpa using hd
 | e::r,done,h,hd=>by
  simp only[zgo,zA7]at h
  have:=z8u ms r (done++[e]) h.2 (fun i j a b hij hi hj hc=>by
   by_cases hjl:j<done.length
   ·rw[zAb hjl]at hj
    rw[zAb (by omega)]at hi
    exact hd i j a b hij hi hj hc
   ·have hj2:j=done.length:=by
     have:=(zA1.1 hj).1
     simp at this;omega
    subst hj2
    simp at hj;subst hj
    rw[zAb (by omega)]at hi
    have:=z9x ms e done.length done 0 h.1 i a hi hc
    simpa using this)
  simpa using this
theorem ze5:∀(l:List Oper) (i:Nat),zcd l i=true→∀m o,l[m]? =some o→∀e∈o.after.toList,Region.binds .any e=true→e.on<i+m
 | [],i,h,m,o,hm=>by simp at hm
 | x::r,i,h,m,o,hm=>by
  simp only[zcd,zA7,List.all_eq_true,zAu,zA6,zA3]at h
  cases m with
  | zero =>
   simp at hm;subst hm
   intro e he hb
   rcases h.1 e he with h1|h1
   ·rw[hb]at h1;cases h1
   ·simpa using h1
  | succ m =>
   have:=ze5 r (i+1) h.2 m o (by simpa using hm)
   rwa [show i+1+m=i+(m+1) by omega]at this
theorem zeq(s:St):∀(l:List Eff),zmc s l=true→∀(i:Nat) (e:Eff),l[i]? =some e→∀d∈e.free,(z1k d s.hp&&z1q d s.tm)=true
 | [],h,i,e,hi=>by simp at hi
 | x::r,h,i,e,hi=>by
  simp only[zmc,zA7,List.all_eq_true]at h
  cases i with
  | zero=>simp at hi;subst hi;intro d hd;simpa using h.1 d hd
  | succ i=>exact zeq s r h.2 i e (by simpa using hi)
def after(es:List Eff)(s:St)(L:List Nat):St:=L.foldl (fun s i=>s.app (es.getD i {})) s
theorem zc2(s:St)(l:List (Nat × PV)):(s.puts l).hp=s.hp∧(s.puts l).up=s.up∧(s.puts l).n=s.n∧(s.puts l).tm=l.reverse++s.tm:=by
 induction l generalizing s with
 | nil=>simp[St.puts]
 | cons q l ih =>
  obtain⟨t,p⟩:=q
  obtain⟨h1,h2,h3,h4⟩:=ih { s with tm:=(t,p)::s.tm }
  simp[St.puts,h1,h2,h3,h4]
theorem z8b(s:St)(m:Nm)(b:Blk):(s.setB m b).tm=s.tm∧(s.setB m b).n=s.n∧∀x,z5e (s.setB m b) x=if x=m then some b else z5e s x:=by
 obtain⟨d,t⟩:=m
 cases d with
 | zero =>
  refine⟨rfl,rfl,fun x=>?_⟩
  obtain⟨d',t'⟩:=x
  cases d' with
  | zero =>
   simp only[z5e,St.setB,push,look]
   by_cases h:t=t'
   ·subst h;simp
   ·rw[zAy h,zAy (by simp;exact fun e=>h e.symm)]
  | succ d'=>simp[z5e,St.setB,push]
 | succ d =>
  refine⟨rfl,rfl,fun x=>?_⟩
  obtain⟨d',t'⟩:=x
  cases d' with
  | zero=>simp[z5e,St.setB,push]
  | succ d' =>
   simp only[z5e,St.setB,push,upd]
   by_cases h:d'=d∧t'=t
   ·obtain⟨rfl,rfl⟩:=h;simp
   ·rw[zAy h,zAy (by simpa using h)]
theorem z3t(l:List (Nm × Blk)):∀(s:St),(s.setBs l).tm=s.tm∧(s.setBs l).n=s.n∧∀x,(x∉l.map (·.1)→z5e (s.setBs l) x=z5e s x)∧(x∈l.map (·.1)→∀s':St,z5e (s.setBs l) x=z5e (s'.setBs l) x):=by
 induction l with
 | nil=>intro s;exact⟨rfl,rfl,fun x=>⟨fun _=>rfl,fun h=>by simp at h⟩⟩
 | cons q l ih =>
  intro s
  obtain⟨m,b⟩:=q
  obtain⟨h1,h2,h3⟩:=ih (s.setB m b)
  obtain⟨g1,g2,g3⟩:=z8b s m b
  refine⟨by simp[St.setBs,h1,g1],by simp[St.setBs,h2,g2],fun x=>⟨fun hx=>?_,fun hx s'=>?_⟩⟩
  ·simp only[List.map_cons,zAc,not_or]at hx
   simp only[St.setBs]
   rw[(h3 x).1 hx.2,g3,zAy hx.1]
  ·simp only[St.setBs]
   by_cases hxl:x∈l.map (·.1)
   ·rw[(h3 x).2 hxl (s'.setB m b)]
   ·simp only[List.map_cons,zAc,hxl,or_false]at hx
    rw[(h3 x).1 hxl,((ih (s'.setB m b)).2.2 x).1 hxl,g3,(z8b s' m b).2.2,zAz hx,zAz hx]
theorem zkm{α:Type}(a b:List (Nat × α))(t:Nat):look (a++b) t=if t∈a.map (·.1)then look a t else look b t:=by
 induction a with
 | nil=>simp
 | cons q a ih =>
  obtain⟨k,v⟩:=q
  simp only[List.cons_append,look]
  by_cases h:k=t
  ·simp[h]
  ·rw[zAy h,ih]
   have:(t∈List.map (fun x=>x.1) ((k,v)::a))↔t∈List.map (fun x=>x.1) a:=by simp[Ne.symm h]
   simp only[this,zAy h]
theorem zlu(s:St)(e:Eff)(t:Nat):look (s.app e).tm t=if t∈e.tw then look e.put.reverse t else look s.tm t:=by
 obtain⟨_,_,_,h⟩:=zc2 (s.setBs e.hs) e.put
 unfold St.app
 rw[h,(z3t e.hs s).1,zkm]
 have:t∈List.map (fun x=>x.1) e.put.reverse↔t∈e.tw:=by simp only[Eff.tw,List.map_reverse,List.mem_reverse]
 simp only[this]
theorem zru(s:St)(e:Eff)(m:Nm):(m∉e.bw→z5e (s.app e) m=z5e s m)∧(m∈e.bw→∀s':St,z5e (s.app e) m=z5e (s'.app e) m):=by
 have h0:∀s:St,z5e (s.app e) m=z5e (s.setBs e.hs) m:=by
  intro s
  obtain⟨h1,h2,_,_⟩:=zc2 (s.setBs e.hs) e.put
  simp[z5e,St.app,h1,h2]
 rw[h0]
 refine⟨fun h=>((z3t e.hs s).2.2 m).1 h,fun h s'=>?_⟩
 rw[h0 s']
 exact((z3t e.hs s).2.2 m).2 h s'
theorem y2q(s:St)(e:Eff):(s.app e).n=s.n:=by
 obtain⟨_,_,h,_⟩:=zc2 (s.setBs e.hs) e.put
 unfold St.app
 rw[h,(z3t e.hs s).2.1]
theorem zbs(es:List Eff)(L:List Nat)(s:St):(after es s L).n=s.n:=by
 induction L generalizing s with
 | nil=>rfl
 | cons i L ih =>
  unfold after at ih⊢
  rw[List.foldl_cons,ih,y2q]
theorem z4e(es:List Eff)(L:List Nat)(i:Nat)(s:St):after es s (L++[i])=(after es s L).app (es.getD i {}):=by simp[after]
theorem zfl(es:List Eff)(t:Nat)(s:St):∀L L':List Nat,L.filter (fun i=>(es.getD i {}).tw.contains t)=L'.filter (fun i=>(es.getD i {}).tw.contains t)→look (after es s L).tm t=look (after es s L').tm t:=by
 have key:∀L:List Nat,look (after es s L).tm t=look (after es s (L.filter fun i=>(es.getD i {}).tw.contains t)).tm t:=by
  intro L
  refine zm0 (p:=fun L=>look (after es s L).tm t=look (after es s (L.filter fun i=>(es.getD i {}).tw.contains t)).tm t) rfl (fun L i ih=>?_) L
  ·rw[z4e,zlu,List.filter_append]
   by_cases h:t∈(es.getD i {}).tw
   ·rw[zAz h]
    have:[i].filter (fun i=>(es.getD i {}).tw.contains t)=[i]:=by simpa using h
    rw[this,z4e,zlu,zAz h]
   ·rw[zAy h,ih]
    have:[i].filter (fun i=>(es.getD i {}).tw.contains t)=[]:=by simpa using h
    rw[this,List.append_nil]
 intro L L' h
 rw[key L,key L',h]
theorem zhv(es:List Eff)(m:Nm)(s:St):∀L L':List Nat,L.filter (fun i=>(es.getD i {}).bw.contains m)=L'.filter (fun i=>(es.getD i {}).bw.contains m)→z5e (after es s L) m=z5e (after es s L') m:=by
 have key:∀L:List Nat,z5e (after es s L) m=z5e (after es s (L.filter fun i=>(es.getD i {}).bw.contains m)) m:=by
  intro L
  refine zm0 (p:=fun L=>z5e (after es s L) m=z5e (after es s (L.filter fun i=>(es.getD i {}).bw.contains m)) m) rfl (fun L i ih=>?_) L
  ·rw[z4e,List.filter_append]
   by_cases h:m∈(es.getD i {}).bw
   ·have:[i].filter (fun i=>(es.getD i {}).bw.contains m)=[i]:=by simpa using h
    rw[this,z4e]
    exact(zru _ _ _).2 h _
   ·rw[(zru _ _ _).1 h,ih]
    have:[i].filter (fun i=>(es.getD i {}).bw.contains m)=[]:=by simpa using h
    rw[this,List.append_nil]
 intro L L' h
 rw[key L,key L',h]
theorem zc4:∀ {A B:List Nat},A.Pairwise (· <·)→B.Pairwise (· <·)→(∀x,x∈A↔x∈B)→A=B
 | [],[],_,_,_=>rfl
 | [],b::B,_,_,h=>by have:=(h b).2 (by simp);simp at this
 | a::A,[],_,_,h=>by have:=(h a).1 (by simp);simp at this
 | a::A,b::B,ha,hb,h=>by
  rw[List.pairwise_cons]at ha hb
  have e:a=b:=by
   have h1:=(h a).1 (by simp)
   have h2:=(h b).2 (by simp)
   simp only[zAc]at h1 h2
   rcases h1 with h1|h1
   ·exact h1
   ·rcases h2 with h2|h2
    ·exact h2.symm
    ·have:=hb.1 a h1;have:=ha.1 b h2;omega
  subst e
  congr 1
  refine zc4 ha.2 hb.2 fun x=>⟨fun hx=>?_,fun hx=>?_⟩
  ·have:=(h x).1 (by simp[hx])
   simp only[zAc]at this
   rcases this with rfl|this
   ·have:=ha.1 x hx;omega
   ·exact this
  ·have:=(h x).2 (by simp[hx])
   simp only[zAc]at this
   rcases this with rfl|this
   ·have:=hb.1 x hx;omega
   ·exact this
section
variable{ops:List Oper}{es:List Eff}{s:St}
theorem zfh{L:List Nat}(h:Lin ops L):∀i∈L,i<ops.length:=by
 induction h with
 | nil=>simp
 | snoc L i o h hn ho hr ih =>
  intro j hj
  simp at hj
  rcases hj with hj|rfl
  ·exact ih j hj
  ·exact(zA1.1 ho).1
theorem zn2(hm:∀i j,((zev [] ops).getD i 0).testBit j=true→∀A,Lin ops (A++[i])→j∈A)
 (hc:∀i j a b,i<j→es[i]? =some a→es[j]? =some b→z6t a b=true→((zev [] ops).getD j 0).testBit i=true) (hl:ops.length=es.length)
 {p:Nat→Bool} (hp:∀i j,i<es.length→j<es.length→p i=true→p j=true→i≠j→z6t (es.getD i {}) (es.getD j {})=true) {L:List Nat} (h:Lin ops L):(L.filter p).Pairwise (· <·):=by
 induction h with
 | nil=>simp
 | snoc L i o h hn ho hr ih =>
  rw[List.filter_append,List.pairwise_append]
  refine⟨ih,by by_cases hpi:p i <;> simp[hpi],fun a ha b hb=>?_⟩
  simp only[List.mem_filter]at ha hb
  simp at hb
  obtain⟨rfl,hpb⟩:=hb
  have hla:=zfh h a ha.1
  have hlb:=(zA1.1 ho).1
  have hne:a≠b:=fun e=>hn (e▸ha.1)
  rcases Nat.lt_or_ge a b with hab|hab
  ·exact hab
  ·exfalso
   have hba:b<a:=by omega
   have hcl:=hp b a (by omega) (by omega) hpb ha.2 (Ne.symm hne)
   have e1:es[b]? =some (es.getD b {}):=by simp[List.getD,zA0 (show b<es.length by omega)]
   have e2:es[a]? =some (es.getD a {}):=by simp[List.getD,zA0 (show a<es.length by omega)]
   have hbit:=hc b a _ _ hba e1 e2 hcl
   obtain⟨A1,A2,rfl⟩:=List.append_of_mem ha.1
   have:=hm a b hbit A1 (h.pre (A1++[a]) A2 (by simp))
   exact hn (by simp[this])
theorem zfs(p:Nat→Bool)(n:Nat):((List.range n).filter p).Pairwise (· <·):=(List.pairwise_lt_range (n:=n)).sublist (List.filter_sublist)
theorem z88{α:Type}[BEq α][LawfulBEq α]{a b:List α}{x:α}(ha:x∈a)(hb:x∈b):meets a b=true:=by
 simp only[meets,List.any_eq_true]
 exact⟨x,ha,by simpa using hb⟩
theorem znw(a b:Eff):z6t a b=z6t b a:=by
 have hm:∀ {α:Type} [BEq α] [LawfulBEq α] (x y:List α),meets x y=meets y x:=by
  intro α _ _ x y
  rw[Bool.eq_iff_iff]
  constructor <;> intro h <;> simp only[meets,List.any_eq_true]at h <;> obtain⟨z,h1,h2⟩:=h <;> exact z88 (x:=z) (by simpa using h2) h1
 unfold z6t
 rw[hm a.tw b.tr,hm a.tw b.tw,hm a.tr b.tw,hm a.bw b.br,hm a.bw b.bw,hm a.br b.bw]
 generalize meets b.tr a.tw=q1
 generalize meets b.tw a.tw=q2
 generalize meets b.tw a.tr=q3
 generalize meets b.br a.bw=q4
 generalize meets b.bw a.bw=q5
 generalize meets b.bw a.br=q6
 generalize (a.free.any fun d=>b.speaks d)=q7
 generalize (b.free.any fun d=>a.speaks d)=q8
 cases q1 <;> cases q2 <;> cases q3 <;> cases q4 <;> cases q5 <;> cases q6 <;> cases q7 <;> cases q8 <;> rfl
theorem getD_eq{es:List Eff}{i:Nat}(h:i<es.length):es[i]? =some (es.getD i {}):=by simp[List.getD,zA0 h]
theorem zr8{e:Eff}{d:Nat}(h:e.speaks d=false)(s:St)(hf:(z1k d s.hp&&z1q d s.tm)=true):(z1k d (s.app e).hp&&z1q d (s.app e).tm)=true:=by
 simp only[Eff.speaks,Bool.or_eq_false_iff,List.any_eq_false]at h
 simp only[zA7]at hf⊢
 obtain⟨h1,h2⟩:=h
 have hB:∀(l:List (Nm × Blk)) (s:St),(∀q∈l,¬(q.1.1 == 0&&q.2.says (0,d))=true)→z1k d s.hp=true→z1k d (s.setBs l).hp=true:=by
  intro l
  induction l with
  | nil=>intro s _ h;exact h
  | cons q l ih =>
   intro s hq hf
   obtain⟨⟨k,m⟩,b⟩:=q
   simp only[St.setBs]
   refine ih _ (fun q hq'=>hq q (List.mem_cons_of_mem _ hq')) ?_
   cases k with
   | zero =>
    have:=hq ((0,m),b) (by simp)
    simp only[St.setB,z1k,hf,Bool.and_true,zA6]
    simpa using this
   | succ k=>simpa[St.setB]using hf
 have hT:∀(l tm:List (Nat × PV)),(∀q∈l,¬q.2.says (0,d)=true)→z1q d tm=true→z1q d (l++tm)=true:=by
  intro l tm hq hf
  induction l with
  | nil=>exact hf
  | cons q l ih =>
   obtain⟨k,p⟩:=q
   have:=hq (k,p) (by simp)
   simp only[List.cons_append,z1q,ih fun q hq'=>hq q (List.mem_cons_of_mem _ hq'),Bool.and_true,zA6]
   simpa using this
 obtain⟨g1,g2,g3,g4⟩:=zc2 (s.setBs e.hs) e.put
 refine⟨?_,?_⟩
 ·unfold St.app;rw[g1];exact hB _ _ h2 hf.1
 ·unfold St.app;rw[g4,(z3t e.hs s).1]
  exact hT _ _ (fun q hq=>h1 q (by simpa using hq)) hf.2
theorem zro{e:Eff}{d:Nat}(s:St)(hf:(z1k d (s.app e).hp&&z1q d (s.app e).tm)=true):e.speaks d=false∧(z1k d s.hp&&z1q d s.tm)=true:=by
 simp only[zA7]at hf⊢
 obtain⟨g1,g2,g3,g4⟩:=zc2 (s.setBs e.hs) e.put
 unfold St.app at hf
 rw[g1,g4,(z3t e.hs s).1]at hf
 have hB:∀(l:List (Nm × Blk)) (s:St),z1k d (s.setBs l).hp=true→(l.any fun q=>q.1.1 == 0&&q.2.says (0,d))=false∧z1k d s.hp=true:=by
  intro l
  induction l with
  | nil=>intro s h;exact⟨rfl,h⟩
  | cons q l ih =>
   intro s h
   obtain⟨⟨k,m⟩,b⟩:=q
   obtain⟨h1,h2⟩:=ih _ h
   cases k with
   | zero =>
    simp only[St.setB,z1k,zA7,zA6]at h2
    exact⟨by simp[h1,h2.1],h2.2⟩
   | succ k=>exact⟨by simp[h1],h2⟩
 have hT:∀(l tm:List (Nat × PV)),z1q d (l++tm)=true→(l.any fun q=>q.2.says (0,d))=false∧z1q d tm=true:=by
  intro l tm h
  induction l with
  | nil=>exact⟨rfl,h⟩
  | cons q l ih =>
   obtain⟨k,p⟩:=q
   simp only[List.cons_append,z1q,zA7,zA6]at h
   obtain⟨h1,h2⟩:=ih h.2
   exact⟨by simp[h1,h.1],h2⟩
 obtain⟨b1,b2⟩:=hB _ _ hf.1
 obtain⟨t1,t2⟩:=hT _ _ hf.2
 rw[List.any_reverse]at t1
 exact⟨by simp[Eff.speaks,b1,t1],b2,t2⟩
inductive Text(s:St):List Eff→St→Prop where
 | nil:Text s [] s
 | snoc (es:List Eff) (e:Eff) (t:St) (h:Text s es t) (ha:zay t e):Text s (es++[e]) (t.app e)
theorem Text.state{s t:St}{es:List Eff}(h:Text s es t):t=after es s (List.range es.length)∧∀i e,es[i]? =some e→zay (after es s (List.range i)) e:=by
 have ext:∀(es:List Eff) (e:Eff) (m:Nat),m≤es.length→after (es++[e]) s (List.range m)=after es s (List.range m):=by
  intro es e m hm
  induction m with
  | zero=>rfl
  | succ m ih =>
   rw[List.range_succ,z4e,z4e,ih (by omega)]
   congr 1
   simp[List.getD,zAb (show m<es.length by omega)]
 induction h with
 | nil=>exact⟨rfl,fun i e h=>by simp at h⟩
 | snoc es e t h ha ih =>
  refine⟨?_,fun i e' hi=>?_⟩
  ·rw[zAa,zAn,List.range_succ,z4e,ext es e _ (zAj _),←ih.1]
   simp[List.getD]
  ·by_cases hlt:i<es.length
   ·rw[zAb hlt]at hi
    rw[ext es e i (by omega)]
    exact ih.2 i e' hi
   ·have:i=es.length:=by have:=(zA1.1 hi).1;simp at this;omega
    subst this
    simp at hi;subst hi
    rw[ext es e _ (zAj _),←ih.1]
    exact ha
theorem zg3(hchk:z6b ops s es=true){t:St}(htext:Text s es t){L:List Nat}{i:Nat}(h:Lin ops (L++[i])):zay (after es s L) (es.getD i {}):=by
 simp only[z6b,zA7,beq_iff_eq]at hchk
 obtain⟨⟨⟨hl,hpairs⟩,hback⟩,hfree⟩:=hchk
 have hm:=z83 ops ops [] [] rfl rfl (by simp)
 have hc:=z8u (zev [] ops) es [] hpairs (by simp)
 simp only[List.nil_append]at hc
 have hiL:=h.at
 have hilt:i<es.length:=by rw[←hl];exact zfh h i (by simp)
 have hL:=h.pre L [i] rfl
 have ei:=getD_eq hilt
 have hag:=(htext.state.2 i _ ei)
 -- who clashes with i stands in L if it comes first in the text, and not in L if it comes later
 have side:∀j,j<es.length→j≠i→z6t (es.getD j {}) (es.getD i {})=true→(j∈L↔j<i):=by
  intro j hj hne hcl
  constructor
  ·intro hjL
   rcases Nat.lt_or_ge j i with hji|hji
   ·exact hji
   ·exfalso
    have hij:i<j:=by omega
    have hbit:=hc i j _ _ hij ei (getD_eq hj) (by rw[znw];exact hcl)
    obtain⟨A1,A2,rfl⟩:=List.append_of_mem hjL
    have:=hm j i hbit A1 (hL.pre (A1++[j]) A2 (by simp))
    exact hiL.1 (by simp[this])
  ·intro hji
   have hbit:=hc j i _ _ hji (getD_eq hj) ei hcl
   exact hm i j hbit L h
 have same:∀p:Nat→Bool,(∀a b,a<es.length→b<es.length→p a=true→p b=true→a≠b→z6t (es.getD a {}) (es.getD b {})=true) →
  (∀j,j<es.length→j≠i→p j=true→z6t (es.getD j {}) (es.getD i {})=true)→L.filter p=(List.range i).filter p:=by
  intro p hp1 hp2
  refine zc4 (zn2 hm hc hl hp1 hL) (zfs p i) fun x=>?_
  simp only[List.mem_filter,List.mem_range]
  constructor
  ·rintro⟨hx,hpx⟩
   have hxl:x<es.length:=by rw[←hl];exact zfh hL x hx
   exact⟨(side x hxl (fun e=>hiL.1 (e▸hx)) (hp2 x hxl (fun e=>hiL.1 (e▸hx)) hpx)).1 hx,hpx⟩
  ·rintro⟨hx,hpx⟩
   have hxl:x<es.length:=by omega
   exact⟨(side x hxl (by omega) (hp2 x hxl (by omega) hpx)).2 hx,hpx⟩
 refine⟨fun q hq=>?_,fun q hq=>?_,fun d hd=>?_⟩
 ·rw[←hag.ins q hq]
  refine zfl es q.1 s L _ (same _ (fun a b ha hb pa pb hab=>?_) fun j hj hne pj=>?_)
  ·have h1:meets (es.getD a {}).tw (es.getD b {}).tw=true:=z88 (x:=q.1) (by simpa using pa) (by simpa using pb)
   simp only[z6t,h1,Bool.true_or,Bool.or_true]
  ·have h1:meets (es.getD j {}).tw (es.getD i {}).tr=true:=z88 (x:=q.1) (by simpa using pj) (by simp only[Eff.tr,List.mem_map];exact⟨q,hq,rfl⟩)
   simp only[z6t,h1,Bool.true_or]
 ·rw[←hag.pre q hq]
  refine zhv es q.1 s L _ (same _ (fun a b ha hb pa pb hab=>?_) fun j hj hne pj=>?_)
  ·have h1:meets (es.getD a {}).bw (es.getD b {}).bw=true:=z88 (x:=q.1) (by simpa using pa) (by simpa using pb)
   simp only[z6t,h1,Bool.true_or,Bool.or_true]
  ·have h1:meets (es.getD j {}).bw (es.getD i {}).br=true:=z88 (x:=q.1) (by simpa using pj) (by simp only[Eff.br,List.mem_map];exact⟨q,hq,rfl⟩)
   simp only[z6t,h1,Bool.true_or,Bool.or_true]
 ·have h0:=zeq s es hfree i _ ei d hd
  -- nobody in L speaks of d
  have hno:∀j∈L,(es.getD j {}).speaks d=false:=by
   intro j hj
   rw[←Bool.not_eq_true]
   intro hsp
   have hjl:j<es.length:=by rw[←hl];exact zfh hL j hj
   have hne:j≠i:=fun e=>hiL.1 (e▸hj)
   have hcl:z6t (es.getD j {}) (es.getD i {})=true:=by
    have:((es.getD i {}).free.any fun d=>(es.getD j {}).speaks d)=true:=List.any_eq_true.2 ⟨d,hd,hsp⟩
    simp only[z6t,this,Bool.or_true]
   have hji:=(side j hjl hne hcl).1 hj
   have hall:∀m,(z1k d (after es s (List.range m)).hp&&z1q d (after es s (List.range m)).tm)=true→∀j,j<m→(es.getD j {}).speaks d=false:=by
    intro m
    induction m with
    | zero=>intro _ j hj;omega
    | succ m ih =>
     intro hf j hj
     rw[List.range_succ,z4e]at hf
     obtain⟨f1,f2⟩:=zro _ hf
     by_cases hjm:j=m
     ·subst hjm;exact f1
     ·exact ih f2 j (by omega)
   rw[hall i (hag.free d hd) j hji]at hsp
   cases hsp
  have hind:∀L:List Nat,(∀j∈L,(es.getD j {}).speaks d=false)→(z1k d (after es s L).hp&&z1q d (after es s L).tm)=true:=by
   refine zm0 (fun _=>h0) fun L j ih hj=>?_
   rw[z4e]
   exact zr8 (hj j (by simp)) _ (ih fun j' hj'=>hj j' (by simp[hj']))
  exact hind L hno
theorem zma(hchk:z6b ops s es=true){L:List Nat}(hL:Lin ops L)(hall:∀i,i<es.length→i∈L):(∀t,look (after es s L).tm t=look (after es s (List.range es.length)).tm t)∧∀m,z5e (after es s L) m=z5e (after es s (List.range es.length)) m:=by
 simp only[z6b,zA7,beq_iff_eq]at hchk
 obtain⟨⟨⟨hl,hpairs⟩,hback⟩,hfree⟩:=hchk
 have hm:=z83 ops ops [] [] rfl rfl (by simp)
 have hc:=z8u (zev [] ops) es [] hpairs (by simp)
 simp only[List.nil_append]at hc
 have same:∀p:Nat→Bool,(∀a b,a<es.length→b<es.length→p a=true→p b=true→a≠b→z6t (es.getD a {}) (es.getD b {})=true)→L.filter p=(List.range es.length).filter p:=by
  intro p hp1
  refine zc4 (zn2 hm hc hl hp1 hL) (zfs p _) fun x=>?_
  simp only[List.mem_filter,List.mem_range]
  exact⟨fun⟨hx,hpx⟩=>⟨by rw[←hl];exact zfh hL x hx,hpx⟩,fun⟨hx,hpx⟩=>⟨hall x hx,hpx⟩⟩
 refine⟨fun t=>zfl es t s L _ (same _ fun a b ha hb pa pb hab=>?_),fun m=>zhv es m s L _ (same _ fun a b ha hb pa pb hab=>?_)⟩
 ·have h1:meets (es.getD a {}).tw (es.getD b {}).tw=true:=z88 (x:=t) (by simpa using pa) (by simpa using pb)
  simp only[z6t,h1,Bool.true_or,Bool.or_true]
 ·have h1:meets (es.getD a {}).bw (es.getD b {}).bw=true:=z88 (x:=m) (by simpa using pa) (by simpa using pb)
  simp only[z6t,h1,Bool.true_or,Bool.or_true]
theorem zpb{s s':St}(h:∀m,z5e s m=z5e s' m)(m:Nm):z19 (push s.hp s.up) m=z19 (push s'.hp s'.up) m:=by
 have:=h m
 obtain⟨d,t⟩:=m
 cases d with
 | zero=>exact this
 | succ d=>simp only[z19];rw[show push s.hp s.up (d+1) t=push s'.hp s'.up (d+1) t from this]
variable{P:Program}{f:FuncId}{R:z4b}{k:List Item}
theorem Run.same_view{s s':St}(hn:s'.n=s.n)(ht:∀t,look s'.tm t=look s.tm t)(hm:∀m,z5e s' m=z5e s m)(hup:s'.up=s.up)(h:Run P f R k s):Run P f R k s':=by
 refine Run.le (s:=s) (fun β own a w hr=>⟨β,rfl,by rw[←hn];exact hr.size,hr.defers,fun t p hp=>hr.tm t p (by rw[ht];exact hp),?_⟩) h
 have e:=fun m=>zpb hm m
 exact⟨fun m b hb=>hr.heap.blk m b (by rw[e];exact hb),fun m1 m2 b1 b2 h1 h2=>hr.heap.inj m1 m2 b1 b2 (by rw[e];exact h1) (by rw[e];exact h2),hr.heap.lt⟩
theorem z8y(hb:zcd ops 0=true){listed:Array Bool}{L:List Nat}(hlist:∀i,listed.getD i false=true↔i∈L)(hsz:listed.size=ops.length)(hr:Region.ready .any ops.toArray listed=[]):∀i,i<ops.length→i∈L:=by
 intro i
 induction i using Nat.strongRecOn with
 | _ i ih =>
  intro hi
  by_cases hL:i∈L
  ·exact hL
  ·exfalso
   have:i∈Region.ready .any ops.toArray listed:=by
    rw[mem_ready]
    refine⟨?_,ops[i],by simp[hi],fun e he hbd=>?_⟩
    ·have h1:¬listed.getD i false=true:=fun h=>hL ((hlist i).1 h)
     rw[Array.getD_eq_getD_getElem?,Array.getElem?_eq_getElem (by omega)]at h1⊢
     simpa using h1
    ·have:=ze5 ops 0 hb i ops[i] (zA0 hi) e (by simpa using he) hbd
     exact(hlist _).2 (ih e.on (by omega) (by omega))
   rw[hr]at this
   simp at this
theorem nodup_lt_length:∀(n:Nat) (L:List Nat),L.Nodup→(∀x∈L,x<n)→L.length≤n
 | 0,L,_,h=>by
  cases L with
  | nil=>simp
  | cons x L=>have:=h x (by simp);omega
 | n+1,L,hd,h=>by
  by_cases hn:n∈L
  ·have h1:=nodup_lt_length n (L.erase n) (hd.erase n) (fun x hx=>by
    have h2:=h x (List.mem_of_mem_erase hx)
    have:x≠n:=fun e=>by
     subst e
     exact(List.Nodup.not_mem_erase hd) hx
    omega)
   rw[List.length_erase_of_mem hn]at h1
   omega
  ·have:=nodup_lt_length n L hd (fun x hx=>by
    have h2:=h x hx
    have:x≠n:=fun e=>hn (e▸hx)
    omega)
   omega
theorem y4c(s:St):s.up=fun d t=>z5e s (d+1,t):=by funext d t;rfl
theorem zq0(hchk:z6b ops s es=true){t:St}(htext:Text s es t)(hloc:∀i e,es[i]? =some e→Loc P f R ops.toArray k s.n i e)(h:Run P f R k t) :
 ∀(fuel tt:Nat) (listed:Array Bool) (L:List Nat),(∀i,listed.getD i false=true↔i∈L)→listed.size=ops.length→Lin ops L→ops.length≤fuel+L.length →
  Run P f R (.inRegion ops.toArray (Region.linearise.go .any ops.toArray fuel tt listed [])::k) (after es s L):=by
 have hchk':=hchk
 simp only[z6b,zA7,beq_iff_eq]at hchk'
 obtain⟨⟨⟨hl,hpairs⟩,hback⟩,hfree⟩:=hchk'
 have finish:∀L,Lin ops L→(∀i,i<ops.length→i∈L)→Run P f R (.inRegion ops.toArray []::k) (after es s L):=by
  intro L hL hall
  refine Run.same (fun _ _ _ _=>.one stepR_region_end) ?_
  obtain⟨h1,h2⟩:=zma hchk hL fun i hi=>hall i (by omega)
  rw[←htext.state.1]at h1 h2
  refine Run.same_view (s:=t) ?_ h1 h2 ?_ h
  ·rw[htext.state.1,zbs,zbs]
  ·rw[y4c,y4c t];funext d x;exact h2 _
 intro fuel
 induction fuel with
 | zero =>
  intro tt listed L hlist hsz hL hle
  simp only[Region.linearise.go,List.reverse_nil]
  refine finish L hL fun i hi=>?_
  -- L holds as many as there are
  have hnd:L.Nodup:=by
   clear hle hlist
   induction hL with
   | nil=>simp
   | snoc L i o h hn ho hr ih=>rw[List.nodup_append];exact⟨ih,by simp,fun a ha b hb=>by simp at hb;subst hb;exact fun e=>hn (e▸ha)⟩
  apply Classical.byContradiction
  intro hn
  have:=nodup_lt_length ops.length (i::L) (List.nodup_cons.2 ⟨hn,hnd⟩) (fun x hx=>by
   simp at hx
   rcases hx with rfl|hx
   ·exact hi
   ·exact zfh hL x hx)
  simp at this
  omega
 | succ fuel ih =>
  intro tt listed L hlist hsz hL hle
  simp only[Region.linearise.go]
  change Run P f R (.inRegion ops.toArray (match(Region.ready .any ops.toArray listed)[tt % (Region.ready .any ops.toArray listed).length]? with
   | some i=>Region.linearise.go .any ops.toArray fuel (tt / (Region.ready .any ops.toArray listed).length) (listed.setIfInBounds i true) [i]
   | none=>[].reverse)::k) (after es s L)
  cases hi:(Region.ready .any ops.toArray listed)[tt % (Region.ready .any ops.toArray listed).length]? with
  | none =>
   have hnil:Region.ready .any ops.toArray listed=[]:=by
    exact zD30
   exact finish L hL (z8y hback hlist hsz hnil)
  | some i =>
   have hmem:i∈Region.ready .any ops.toArray listed:=zA2 hi
   obtain⟨hun,o,ho,hedges⟩:=mem_ready.1 hmem
   have ho':ops[i]? =some o:=by simpa using ho
   have hilt:i<ops.length:=(zA1.1 ho').1
   have hnL:i∉L:=fun hx=>by
    exact zD51
   have hL':Lin ops (L++[i]):=.snoc L i o hL hnL ho' fun e he hb=>(hlist _).1 (hedges e (by simpa using he) hb)
   simp only[]
   rw[linearise_go_acc,List.reverse_singleton,List.singleton_append]
   have hag:=zg3 hchk htext hL'
   refine hloc i _ (getD_eq (by omega)) (after es s L) (zbs es L s) hag _ ?_
   rw[←z4e]
   refine ih _ _ (L++[i]) (fun j=>?_) (by simpa using hsz) hL' (by simp;omega)
   exact zD65
theorem y1v{id:Nat}(hmix:P.follows .mixedOrders=true)(hchk:z6b ops s es=true){t:St}(htext:Text s es t)(hloc:∀i e,es[i]? =some e→Loc P f R ops.toArray k s.n i e)(h:Run P f R k t) :
 Run P f R (.code (.region id ops.toArray true)::k) s:=by
 intro β own a w hrep b hb hk hn cs
 have hlen:(Array.replicate ops.toArray.size false).size=ops.length:=by simp
 have key:=zq0 hchk htext hloc h ops.toArray.size (w.tape w.drawn (.order b.fn id)) (Array.replicate ops.toArray.size false) [] (fun i=>by simp[Array.getElem?_replicate];split <;> simp) hlen .nil (by simp)
 exact zD31
end
end Go.Ab
namespace Go.Ab
def Evs(s:St):List (Operand × PV)→Prop
 | []=>True
 | (x,p)::r=>s.ev x=some p∧Evs s r
def Bks(s:St):List (Nm × Blk)→Prop
 | []=>True
 | (m,b)::r=>z5e s m=some b∧Bks s r
def atF(m:Nm)(b:Blk):Blk:=match m.1 with|0=>b|d+1=>b.lift (d+1)
theorem z30{s:St}{m:Nm}{b:Blk}(h:z5e s m=some b):z19 (push s.hp s.up) m=some (atF m b):=by
 obtain⟨d,t⟩:=m
 cases d with
 | zero=>exact h
 | succ d=>simp only[z19,atF];rw[show push s.hp s.up (d+1) t=some b from h];rfl
theorem z7q(m:Nm)(e:TypeId)(k:Nat)(xs:List (List D)):atF m (.row e k xs)=.row e k xs:=by
 obtain⟨d,t⟩:=m
 cases d <;> rfl
def Val(P:Program)(op:Op)(ty:TypeId)(xs:List (Operand × PV))(bs:List (Nm × Blk))(p:PV):Prop :=
 ∀(d:Nat) (pos:String) (aft:Array Edge) (gd:Option (Nat × Bool)) (n:Nat) (tm:List (Nat × PV)) (hp:Hp) (up:Hf),d<n→Evs ⟨n,tm,hp,up⟩ xs→Bks ⟨n,tm,hp,up⟩ bs →
  z1z P ⟨some d,op,ty,pos,aft,gd⟩ ⟨n,tm,hp,up⟩ ⟨n,(d,p)::tm,hp,up⟩
def Lo(P:Program)(o:Oper)(n:Nat)(e:Eff):Prop:=∀s:St,s.n=n→zay s e→z1z P o s (s.app e)
def rd:List (Operand × PV)→List (Nat × PV)
 | []=>[]
 | (.tmp t,p)::r=>(t,p)::rd r
 | _::r=>rd r
theorem z45{s:St}:∀ {xs:List (Operand × PV)},Evs s xs→∀q∈rd xs,look s.tm q.1=some q.2
 | [],_,q,hq=>by simp[rd]at hq
 | (.tmp t,p)::r,h,q,hq=>by
  simp only[rd,zAc]at hq
  rcases hq with rfl|hq
  ·exact h.1
  ·exact z45 h.2 q hq
 | (.const v,p)::r,h,q,hq=>z45 (xs:=r) h.2 q (by simpa[rd]using hq)
 | (.func g,p)::r,h,q,hq=>z45 (xs:=r) h.2 q (by simpa[rd]using hq)
 | (.global g,p)::r,h,q,hq=>z45 (xs:=r) h.2 q (by simpa[rd]using hq)
theorem z5n{s s':St}:∀ {xs:List (Operand × PV)},Evs s xs→(∀q∈rd xs,look s'.tm q.1=some q.2)→Evs s' xs
 | [],_,_=>trivial
 | (.tmp t,p)::r,h,hq=>⟨hq (t,p) (by simp[rd]),z5n h.2 fun q hm=>hq q (by simp[rd,hm])⟩
 | (.const v,p)::r,h,hq=>⟨h.1,z5n h.2 fun q hm=>hq q (by simpa[rd]using hm)⟩
 | (.func g,p)::r,h,hq=>⟨h.1,z5n h.2 fun q hm=>hq q (by simpa[rd]using hm)⟩
 | (.global g,p)::r,h,hq=>⟨h.1,z5n h.2 fun q hm=>hq q (by simpa[rd]using hm)⟩
theorem z7m{s:St}:∀ {bs:List (Nm × Blk)},Bks s bs→∀q∈bs,z5e s q.1=some q.2
 | [],_,q,hq=>by simp at hq
 | (m,b)::r,h,q,hq=>by
  simp only[zAc]at hq
  rcases hq with rfl|hq
  ·exact h.1
  ·exact z7m h.2 q hq
theorem zrx{s:St}:∀ {bs:List (Nm × Blk)},(∀q∈bs,z5e s q.1=some q.2)→Bks s bs
 | [],_=>trivial
 | (m,b)::r,h=>⟨h (m,b) (by simp),zrx fun q hq=>h q (by simp[hq])⟩
abbrev EvE(s:St)(xs:List (Operand × PV)):Prop:=St.evs s (xs.map Prod.fst)=some (xs.map Prod.snd)
abbrev BkE(s:St)(bs:List (Nm × Blk)):Prop:=bs.map (fun q=>z5e s q.1)=bs.map fun q=>some q.2
theorem evE{s:St}:∀ {xs:List (Operand × PV)},EvE s xs→Evs s xs
 | [],_=>trivial
 | (x,p)::r,h=>by
  simp only[EvE,List.map_cons,St.evs]at h
  cases hx:s.ev x with
  | none=>rw[hx]at h;cases h
  | some q =>
   rw[hx]at h
   cases hq:s.evs (r.map Prod.fst)with
   | none=>simp[hq]at h
   | some u =>
    simp[hq]at h
    obtain⟨rfl,rfl⟩:=h
    exact⟨hx,evE hq⟩
theorem bkE{s:St}:∀ {bs:List (Nm × Blk)},BkE s bs→Bks s bs
 | [],_=>trivial
 | (m,b)::r,h=>by
  simp only[BkE,List.map_cons,List.cons.injEq]at h
  exact⟨h.1,bkE h.2⟩
variable{P:Program}{f:FuncId}{R:z4b}{k:List Item}{all:Array Oper}{o:Oper}{l:List Oper}
variable{n:Nat}{tm:List (Nat × PV)}{hp:Hp}{up:Hf}{d:Nat}{ty:TypeId}{pos:String}{aft:Array Edge}{gd:Option (Nat × Bool)}{op:Op}{xs:List (Operand × PV)}{bs:List (Nm × Blk)}{p:PV}
theorem zns(hv:Val P op ty xs bs p)(hx:EvE ⟨n,tm,hp,up⟩ xs)(hb:BkE ⟨n,tm,hp,up⟩ bs)(hd:d<n)(h:Ops P f R all l k ⟨n,(d,p)::tm,hp,up⟩) :
 Op1 P f R all ⟨some d,op,ty,pos,aft,gd⟩ l k ⟨n,tm,hp,up⟩ :=
 z0b (hv d pos aft gd n tm hp up hd (evE hx) (bkE hb)) h
theorem z02(hv:Val P op ty xs bs p)(hx:EvE ⟨n,tm,hp,up⟩ xs)(hb:BkE ⟨n,tm,hp,up⟩ bs)(h:Ops P f R all l k ⟨n,(d,p)::tm,hp,up⟩)(hd:d<n:=by decide):Op1 P f R all ⟨some d,op,ty,pos,aft,gd⟩ l k ⟨n,tm,hp,up⟩:=zns hv hx hb hd h
theorem y6m(hg:o.guard=none∨∃j w dd,o.guard=some (j,w)∧(all[j]?).bind (·.dst)=some dd∧look tm dd=some (B w))(h:Op1 P f R all o l k ⟨n,tm,hp,up⟩):Ops P f R all (o::l) k ⟨n,tm,hp,up⟩:=by
 rcases hg with hg|⟨j,w,dd,hg,hj,hl⟩
 ·exact zz1 hg h
 ·exact y1t hg hj hl rfl h
theorem z0m(h:Op1 P f R all o l k ⟨n,tm,hp,up⟩)(hg:o.guard=none∨∃j w dd,o.guard=some (j,w)∧(all[j]?).bind (·.dst)=some dd∧look tm dd=some (B w):=by first|exact .inl rfl|exact .inr ⟨_,_,_,rfl,rfl,rfl⟩):Ops P f R all (o::l) k ⟨n,tm,hp,up⟩:=y6m hg h
theorem z7t{j dd:Nat}{w:Bool}(hj:(all[j]?).bind (·.dst)=some dd)(hl:look tm dd=some (.tup []))(hd:d<n)(h:Ops P f R all l k ⟨n,(d,.tup [])::tm,hp,up⟩) :
 Ops P f R all (⟨some d,op,ty,pos,aft,some (j,w)⟩::l) k ⟨n,tm,hp,up⟩:=by
 intro is his
 cases is with
 | nil=>simp at his
 | cons i rest =>
  simp only[List.map_cons,List.cons.injEq]at his
  refine Run.step (fun β own a w hrep b cs=>⟨β,own,_,w,hrep.put (dst:=some d) (by simp[St.fits,hd]) (.undef _ _ _),Ext.refl _ _,rfl,z7j his.1 ?_⟩) (h rest his.2)
  have hy:=zb9 hrep hj hl
  simp[Region.wanted,hy]
theorem y70{j dd:Nat}{w:Bool}(hj:(all[j]?).bind (·.dst)=some dd)(hl:look tm dd=some (B (!w)))(hd:d<n)(h:Ops P f R all l k ⟨n,(d,.tup [])::tm,hp,up⟩) :
 Ops P f R all (⟨some d,op,ty,pos,aft,some (j,w)⟩::l) k ⟨n,tm,hp,up⟩ :=
 y3o rfl hj hl rfl (by simp[St.fits,hd]) h
theorem z1g{j dd:Nat}{w:Bool}(h:Ops P f R all l k ⟨n,(d,.tup [])::tm,hp,up⟩)(hj:(all[j]?).bind (·.dst)=some dd:=by exact rfl)(hl:look tm dd=some (B (!w)):=by exact rfl)(hd:d<n:=by decide):Ops P f R all (⟨some d,op,ty,pos,aft,some (j,w)⟩::l) k ⟨n,tm,hp,up⟩:=y70 hj hl hd h
theorem zci{j dd:Nat}{w t:Bool}(hj:(all[j]?).bind (·.dst)=some dd)(hl:look tm dd=some (B t))
 (h1:t=true→Ops P f R all (⟨some d,op,ty,pos,aft,some (j,w)⟩::l) k ⟨n,(dd,B true)::tm,hp,up⟩)
 (h2:t=false→Ops P f R all (⟨some d,op,ty,pos,aft,some (j,w)⟩::l) k ⟨n,(dd,B false)::tm,hp,up⟩):Ops P f R all (⟨some d,op,ty,pos,aft,some (j,w)⟩::l) k ⟨n,tm,hp,up⟩:=by
 have hre:∀ {u:Bool},t=u→∀β own a w,Rep ⟨n,tm,hp,up⟩ β own a w→Rep ⟨n,(dd,.d (.lit (.bool u)))::tm,hp,up⟩ β own a w:=by
  rintro u rfl β own a w hr
  refine⟨hr.size,hr.defers,fun x q hq=>?_,hr.heap⟩
  simp only[look]at hq
  split at hq
  ·rename_i he;subst he;simp at hq;subst hq;exact hr.tm _ _ hl
  ·exact hr.tm _ _ hq
 cases ht:t with
 | true=>exact fun is his β own a w hr=>h1 ht is his β own a w (hre ht β own a w hr)
 | false=>exact fun is his β own a w hr=>h2 ht is his β own a w (hre ht β own a w hr)
theorem zxs{j dd:Nat}{w:Bool}{q:Prop}{inst:Decidable q}(hj:(all[j]?).bind (·.dst)=some dd)(hl:look tm dd=some (B (decide q)))
 (h1:q→Ops P f R all (⟨some d,op,ty,pos,aft,some (j,w)⟩::l) k ⟨n,(dd,B true)::tm,hp,up⟩)
 (h2:¬q→Ops P f R all (⟨some d,op,ty,pos,aft,some (j,w)⟩::l) k ⟨n,(dd,B false)::tm,hp,up⟩):Ops P f R all (⟨some d,op,ty,pos,aft,some (j,w)⟩::l) k ⟨n,tm,hp,up⟩ :=
 zci hj hl (fun h=>h1 (by simpa using h)) fun h=>h2 (by simpa using h)
theorem z1p{j dd:Nat}{w:Bool}{q:Prop}{inst:Decidable q}(h1:q→Ops P f R all (⟨some d,op,ty,pos,aft,some (j,w)⟩::l) k ⟨n,(dd,B true)::tm,hp,up⟩)(h2:¬q→Ops P f R all (⟨some d,op,ty,pos,aft,some (j,w)⟩::l) k ⟨n,(dd,B false)::tm,hp,up⟩)(hj:(all[j]?).bind (·.dst)=some dd:=by exact rfl)(hl:look tm dd=some (B (decide q)):=by exact rfl):Ops P f R all (⟨some d,op,ty,pos,aft,some (j,w)⟩::l) k ⟨n,tm,hp,up⟩:=zxs hj hl h1 h2
theorem z39{j dd:Nat}{w:Bool}{q:Prop}{inst:Decidable q}(hj:(all[j]?).bind (·.dst)=some dd)(hl:look tm dd=some (B (!decide q)))
 (h1:¬q→Ops P f R all (⟨some d,op,ty,pos,aft,some (j,w)⟩::l) k ⟨n,(dd,B true)::tm,hp,up⟩)
 (h2:q→Ops P f R all (⟨some d,op,ty,pos,aft,some (j,w)⟩::l) k ⟨n,(dd,B false)::tm,hp,up⟩):Ops P f R all (⟨some d,op,ty,pos,aft,some (j,w)⟩::l) k ⟨n,tm,hp,up⟩ :=
 zci hj hl (fun h=>h1 (by simpa using h)) fun h=>h2 (by simpa using h)
def GOK(all:Array Oper)(gd:Option (Nat × Bool))(gr:List (Nat × PV))(s:St):Prop :=
 match gd with
 | none=>gr=[]
 | some (j,w)=>∃dd,(all[j]?).bind (·.dst)=some dd∧gr=[(dd,B w)]∧look s.tm dd=some (B w)
theorem GOK.wanted{s s':St}{gr:List (Nat × PV)}(h:GOK all gd gr s)(hgr:∀q∈gr,look s'.tm q.1=some q.2){o:Oper}(ho:o.guard=gd){β:Nm→Value}{own:Nat→Prop}{a:Act}{w:World}(hr:Rep s' β own a w) :
 Region.wanted o (yielded all a.tmps)=true:=by
 cases gd with
 | none=>simp[Region.wanted,ho]
 | some q =>
  obtain⟨j,w⟩:=q
  obtain⟨dd,hj,rfl,hl⟩:=h
  have:=z9k hr hj (hgr (dd,B w) (by simp))
  simp[Region.wanted,ho,this]
theorem GOK.agrees{s:St}{gr:List (Nat × PV)}(h:GOK all gd gr s):∀q∈gr,look s.tm q.1=some q.2:=by
 cases gd with
 | none=>simp only[GOK]at h;subst h;simp
 | some q =>
  obtain⟨j,w⟩:=q
  obtain⟨dd,hj,rfl,hl⟩:=h
  simpa using hl
theorem zok{i:Nat}{s s':St}(ho:all[i]? =some o)(hw:∀β own a w,Rep s β own a w→Region.wanted o (yielded all a.tmps)=true)(hd:z1z P o s s'):zpo P f R all k i s s':=by
 intro is h
 refine Run.step (fun β own a w hrep b cs=>?_) h
 obtain⟨nx,v,w',β',own',hrun,hnx,hrep',hext,hout⟩:=hd β own a w hrep
 exact⟨β',own',_,w',hrep',hext,hout,y2j ho (hw β own a w hrep) hrun hnx⟩
def Tr(P:Program)(f:FuncId)(R:z4b)(id:Nat)(ops:List Oper)(k:List Item)(s0:St)(done:List Eff)(s:St)(l:List Oper):Prop :=
 (∃pre,ops=pre++l∧pre.length=done.length)→(∀i e,done[i]? =some e→Loc P f R ops.toArray k s0.n i e)→Text s0 done s→s.n=s0.n →
   Run P f R (.code (.region id ops.toArray true)::k) s0
variable{id:Nat}{ops:List Oper}{s0 s:St}{done:List Eff}
theorem z2o(h:Tr P f R id ops k s [] s ops):Run P f R (.code (.region id ops.toArray true)::k) s :=
 h ⟨[],rfl,rfl⟩ (by simp) .nil rfl
theorem y15(hmix:P.follows .mixedOrders=true)(hchk:z6b ops s0 done=true)(h:Run P f R k s):Tr P f R id ops k s0 done s [] :=
 fun _ hloc htext _=>y1v hmix hchk htext hloc h
theorem z2c(hmix:P.follows .mixedOrders=true)(h:Run P f R k s)(hchk:z6b ops s0 done=true:=by kernel_rfl):Tr P f R id ops k s0 done s []:=y15 hmix hchk h
theorem zdi{e:Eff}{s':St}(hloc:∀i,ops.toArray[i]? =some o→Loc P f R ops.toArray k s.n i e)(ha:zay s e)(hs:s.app e=s')(h:Tr P f R id ops k s0 (done++[e]) s' l):Tr P f R id ops k s0 done s (o::l):=by
 rintro⟨pre,hops,hlen⟩ hl htext hn
 refine h ⟨pre++[o],by simp[hops],by simp[hlen]⟩ (fun i e' hi=>?_) (by subst hs;exact .snoc _ _ _ htext ha) (by subst hs;rw[y2q];exact hn)
 by_cases hlt:i<done.length
 ·rw[zAb hlt]at hi
  exact hl i e' hi
 ·have hi2:i=done.length:=by have:=(zA1.1 hi).1;simp at this;omega
  subst hi2
  simp at hi;subst hi
  rw[←hn]
  refine hloc _ ?_
  simp[hops,←hlen]
theorem y12{e:Eff}{gr:List (Nat × PV)}{s':St}(hg:GOK ops.toArray o.guard gr s)(hlo:Lo P o s.n e)(ha:zay s e)(hs:s.app e=s')
 (h:Tr P f R id ops k s0 (done++[{ e with ins:=gr++e.ins }]) s' l):Tr P f R id ops k s0 done s (o::l):=by
 have hag:∀s':St,zay s' { e with ins:=gr++e.ins }→zay s' e:=fun s' h=>⟨fun q hq=>h.ins q (by simp[hq]),h.pre,h.free⟩
 refine zdi (e:={ e with ins:=gr++e.ins }) (fun i hi s' hn hs'=>?_) ⟨fun q hq=>?_,ha.pre,ha.free⟩ hs h
 ·exact zok hi (fun β own a w hr=>hg.wanted (fun q hq=>hs'.ins q (by simp[hq])) rfl hr) (hlo s' hn (hag s' hs'))
 ·simp only[zAt]at hq
  rcases hq with hq|hq
  ·exact hg.agrees q hq
  ·exact ha.ins q hq
theorem zos{gr:List (Nat × PV)}(hv:Val P op ty xs bs p)(hg:GOK ops.toArray gd gr ⟨n,tm,hp,up⟩)(hx:EvE ⟨n,tm,hp,up⟩ xs)(hb:BkE ⟨n,tm,hp,up⟩ bs)(hd:d<n)
 (h:Tr P f R id ops k s0 (done++[⟨gr++rd xs,bs,[],[(d,p)],[]⟩]) ⟨n,(d,p)::tm,hp,up⟩ l):Tr P f R id ops k s0 done ⟨n,tm,hp,up⟩ (⟨some d,op,ty,pos,aft,gd⟩::l):=by
 replace hx:=evE hx
 replace hb:=bkE hb
 refine y12 (e:=⟨rd xs,bs,[],[(d,p)],[]⟩) (gr:=gr) hg ?_ ⟨z45 hx,z7m hb,by simp⟩ rfl h
 rintro⟨n',tm',hp',up'⟩ hn ha
 simp only at hn
 subst hn
 exact hv d pos aft gd _ tm' hp' up' hd (z5n hx ha.ins) (zrx ha.pre)
theorem z0x{gr:List (Nat × PV)}(hv:Val P op ty xs bs p)(hx:EvE ⟨n,tm,hp,up⟩ xs)(hb:BkE ⟨n,tm,hp,up⟩ bs)(h:Tr P f R id ops k s0 (done++[⟨gr++rd xs,bs,[],[(d,p)],[]⟩]) ⟨n,(d,p)::tm,hp,up⟩ l)(hg:GOK ops.toArray gd gr ⟨n,tm,hp,up⟩:=by first|exact rfl|exact⟨_,rfl,rfl,rfl⟩)(hd:d<n:=by decide):Tr P f R id ops k s0 done ⟨n,tm,hp,up⟩ (⟨some d,op,ty,pos,aft,gd⟩::l):=zos hv hg hx hb hd h
theorem z86{j dd:Nat}{w:Bool}(hj:(ops.toArray[j]?).bind (·.dst)=some dd)(hl:look tm dd=some (.tup []))(hd:d<n)
 (h:Tr P f R id ops k s0 (done++[⟨[(dd,.tup [])],[],[],[(d,.tup [])],[]⟩]) ⟨n,(d,.tup [])::tm,hp,up⟩ l) :
 Tr P f R id ops k s0 done ⟨n,tm,hp,up⟩ (⟨some d,op,ty,pos,aft,some (j,w)⟩::l):=by
 refine zdi (e:=⟨[(dd,.tup [])],[],[],[(d,.tup [])],[]⟩) (fun i hi s' hn hs' is hrun=>?_) ⟨by simpa using hl,by simp,by simp⟩ rfl h
 obtain⟨n',tm',hp',up'⟩:=s'
 simp only at hn
 subst hn
 refine Run.step (fun β own a w' hrep b cs=>⟨β,own,_,w',hrep.put (dst:=some d) (by simp[St.fits,hd]) (.undef _ _ _),Ext.refl _ _,rfl,z7j hi ?_⟩) hrun
 have hy:=zb9 hrep hj (hs'.ins (dd,.tup []) (by simp))
 simp[Region.wanted,hy]
theorem z6d{j dd:Nat}{w:Bool}(hj:(ops.toArray[j]?).bind (·.dst)=some dd)(hl:look tm dd=some (B (!w)))(hd:d<n)
 (h:Tr P f R id ops k s0 (done++[⟨[(dd,B (!w))],[],[],[(d,.tup [])],[]⟩]) ⟨n,(d,.tup [])::tm,hp,up⟩ l) :
 Tr P f R id ops k s0 done ⟨n,tm,hp,up⟩ (⟨some d,op,ty,pos,aft,some (j,w)⟩::l):=by
 refine zdi (e:=⟨[(dd,B (!w))],[],[],[(d,.tup [])],[]⟩) (fun i hi s' hn hs' is hrun=>?_) ⟨by simpa using hl,by simp,by simp⟩ rfl h
 obtain⟨n',tm',hp',up'⟩:=s'
 simp only at hn
 subst hn
 refine Run.step (fun β own a w' hrep b cs=>⟨β,own,_,w',hrep.put (dst:=some d) (by simp[St.fits,hd]) (.undef _ _ _),Ext.refl _ _,rfl,z7j hi ?_⟩) hrun
 have hy:=z9k hrep hj (hs'.ins (dd,B (!w)) (by simp))
 simp[Region.wanted,hy]
def zf9(H:Hf):List (Nm × Blk)→Hf
 | []=>H
 | (m,b)::r=>zf9 (upd H m b) r
theorem z4p(s:St)(m:Nm)(b:Blk):push (s.setB m b).hp (s.setB m b).up=upd (push s.hp s.up) m b:=by
 funext d t
 have:=(z8b s m b).2.2 (d,t)
 simp only[z5e]at this
 rw[this]
 obtain⟨md,mt⟩:=m
 simp only[upd,Prod.mk.injEq]
theorem z9e(l:List (Nm × Blk)):∀s:St,push (s.setBs l).hp (s.setBs l).up=zf9 (push s.hp s.up) l:=by
 induction l with
 | nil=>intro s;rfl
 | cons q l ih =>
  intro s
  obtain⟨m,b⟩:=q
  simp only[St.setBs,zf9]
  rw[ih,z4p]
def z1v(P:Program)(g:FuncId)(args:List PV)(bs hs:List (Nm × Blk))(p:PV):Prop :=
 ∀H:Hf,(∀q∈bs,H q.1.1 q.1.2=some q.2)→Spec P g args H fun r H'=>r=.v p∧H'=zf9 H hs
theorem z0q.eff{g:FuncId}{args:List PV}{p:PV}(h:z0q P g args p):z1v P g args [] [] p:=fun H _=>h H
theorem zf8{i:Nat}{s:St}{g:FuncId}{fo:Operand}{args:List Operand}{first cap ps:List PV}{ats:Array TypeId}{hs:List (Nm × Blk)}(ho:all[i]? =some ⟨some d,.call ⟨.value fo,args.toArray,ats⟩,ty,pos,aft,gd⟩)
 (hw:∀β own a w,Rep s β own a w→Region.wanted ⟨some d,.call ⟨.value fo,args.toArray,ats⟩,ty,pos,aft,gd⟩ (yielded all a.tmps)=true)
 (hfo:s.ev fo=some (.fn (.func g) first cap)) (hev:s.evs args=some ps) (hsp:Spec P g (first++ps++cap) (push s.hp s.up) fun r H'=>r=.v p∧H'=zf9 (push s.hp s.up) hs) (hd:d<s.n) :
 zpo P f R all k i s (s.app ⟨[],[],[],[(d,p)],hs⟩):=by
 intro is h β own a w hrep b hb hk hn cs
 obtain⟨vals,hrun,hargs⟩:=z7g hrep hfo hev hsp.plain (dst:=some d) (ats:=ats) (ty:=ty) (pos:=pos) (aft:=aft) (gd:=gd)
 obtain⟨e,w',fr,⟨v,r,H,own',rfl,⟨rfl,rfl⟩,hrv,hheap,hext⟩,hsteps,_,hleave⟩:=hsp.run β own w vals hrep.heap hargs (am b a (.inRegion all (i::is)::k)::cs)
 cases hrv with
 | v _ _ hpv =>
  have hr':Rep (s.setBs hs) β own' a w':=by
   refine⟨?_,hrep.defers,fun t q hq=>?_,?_⟩
   ·rw[(z3t hs s).2.1];exact hrep.size
   ·rw[(z3t hs s).1]at hq;exact(hrep.tm t q hq).mono hext
   ·rw[z9e];exact hheap
  have hr2:=hr'.put (dst:=some d) (p:=p) (v:=v) (by simp[St.fits,(z3t hs s).2.1,hd]) hpv
  exact((h β own' _ w' hr2 b hb hk hn cs).ext hext).of_steps (zgz ho (hw β own a w hrep) hrun hsteps hleave)
theorem z7d{s:St}:∀ {args:List Operand} {ps:List PV},s.evs args=some ps→Evs s (args.zip ps)∧∀s':St,Evs s' (args.zip ps)→s'.evs args=some ps
 | [],ps,h=>by simp[St.evs]at h;subst h;exact⟨trivial,fun _ _=>rfl⟩
 | x::r,ps,h=>by
  simp only[St.evs]at h
  cases hx:s.ev x with
  | none=>rw[hx]at h;cases h
  | some p =>
   rw[hx]at h
   cases hq:s.evs r with
   | none=>simp[hq]at h
   | some q =>
    simp[hq]at h;subst h
    obtain⟨h1,h2⟩:=z7d hq
    refine⟨⟨hx,h1⟩,fun s' hs'=>?_⟩
    simp only[List.zip_cons_cons,Evs]at hs'
    simp[St.evs,hs'.1,h2 s' hs'.2]
theorem zcj{g:FuncId}{args:List Operand}{ps:List PV}{ats:Array TypeId}{bs hs:List (Nm × Blk)}{gr:List (Nat × PV)}{s':St}(hsp:z1v P g ps bs hs p)(hg:GOK ops.toArray gd gr ⟨n,tm,hp,up⟩)(hev:St.evs ⟨n,tm,hp,up⟩ args=some ps)
 (hb:BkE ⟨n,tm,hp,up⟩ bs) (hd:d<n) (hs':St.app ⟨n,tm,hp,up⟩ ⟨[],[],[],[(d,p)],hs⟩=s')
 (h:Tr P f R id ops k s0 (done++[⟨gr++rd (args.zip ps),bs,[],[(d,p)],hs⟩]) s' l):Tr P f R id ops k s0 done ⟨n,tm,hp,up⟩ (⟨some d,.call ⟨.value (.func g),args.toArray,ats⟩,ty,pos,aft,gd⟩::l):=by
 replace hb:=bkE hb
 obtain⟨hz1,hz2⟩:=z7d hev
 refine zdi (e:=⟨gr++rd (args.zip ps),bs,[],[(d,p)],hs⟩) (fun i hi s1 hn hs1=>?_) ⟨fun q hq=>?_,z7m hb,by simp⟩ hs' h
 ·have hev1:s1.evs args=some ps:=hz2 s1 (z5n hz1 fun q hq=>hs1.ins q (by simp[hq]))
  refine zf8 (first:=[]) (cap:=[]) hi (fun β own a w hr=>hg.wanted (fun q hq=>hs1.ins q (by simp[hq])) rfl hr) rfl hev1 ?_ (by rw[hn];exact hd)
  simpa using hsp (push s1.hp s1.up) fun q hq=>hs1.pre q hq
 ·exact zD101
theorem zj7{g:FuncId}{args:List Operand}{ps:List PV}{ats:Array TypeId}{bs hs:List (Nm × Blk)}{s':St}(hsp:z1v P g ps bs hs p)(hev:St.evs ⟨n,tm,hp,up⟩ args=some ps)(hb:BkE ⟨n,tm,hp,up⟩ bs)(hd:d<n)
 (hs':St.app ⟨n,tm,hp,up⟩ ⟨[],[],[],[(d,p)],hs⟩=s') (h:Ops P f R all l k s'):Op1 P f R all ⟨some d,.call ⟨.value (.func g),args.toArray,ats⟩,ty,pos,aft,gd⟩ l k ⟨n,tm,hp,up⟩:=by
 have h1:=hsp (push hp up) fun q hq=>z7m (bkE hb) q hq
 refine zdh (first:=[]) (cap:=[]) rfl hev (by simpa using h1) hd ?_
 rintro r H ⟨rfl,rfl⟩
 obtain⟨g1,g2,g3,g4⟩:=zc2 (St.setBs ⟨n,tm,hp,up⟩ hs) [(d,p)]
 have e1:=(z3t hs ⟨n,tm,hp,up⟩).1
 have e2:=(z3t hs ⟨n,tm,hp,up⟩).2.1
 refine⟨p,(St.setBs ⟨n,tm,hp,up⟩ hs).hp,(St.setBs ⟨n,tm,hp,up⟩ hs).up,rfl,(z9e hs ⟨n,tm,hp,up⟩).symm,?_⟩
 subst hs'
 have:St.app ⟨n,tm,hp,up⟩ ⟨[],[],[],[(d,p)],hs⟩=⟨n,(d,p)::tm,(St.setBs ⟨n,tm,hp,up⟩ hs).hp,(St.setBs ⟨n,tm,hp,up⟩ hs).up⟩:=by
  show St.puts _ [(d,p)]=_
  simp only[St.puts,e1,e2]
 rw[this]at h
 exact h
end Go.Ab
