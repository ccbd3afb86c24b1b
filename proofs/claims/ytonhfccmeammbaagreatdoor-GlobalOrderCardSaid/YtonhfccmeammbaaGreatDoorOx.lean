/- A part of the proof: RX1 to RX5. -/
import Derived.Test.YtonhfccmeammbaaGreatDoorO0
set_option linter.all false
namespace Go.Rx
inductive Rx where
 | mk (op mn mx:Int) (rs:List (Int × Int)) (ks:List Rx)
def Rx.op:Rx→Int|.mk o _ _ _ _=>o
def Rx.mn:Rx→Int|.mk _ o _ _ _=>o
def Rx.mx:Rx→Int|.mk _ _ o _ _=>o
def Rx.rs:Rx→List (Int × Int)|.mk _ _ _ o _=>o
def Rx.ks:Rx→List Rx|.mk _ _ _ _ o=>o
mutual
def sz:Rx→Nat|.mk _ _ _ _ ks=>1+szL ks
def szL:List Rx→Nat|[]=>0|k::ks=>sz k+szL ks
end
def rep (mn mx n:Int):Int:=if mx=-1 then n*max mn 1 else n*mx
mutual
def ps (C:Int):Rx→Int
 | .mk op mn mx rs ks=>if op=1 then 1 else if op=4 then min (rep mn mx (psL C ks 0)) C else min (psL C ks 0) C
def psL (C:Int):List Rx→Int→Int
 | [],n=>n
 | k::ks,n=>psL C ks (min (n+ps C k) C)
end
mutual
def pn:Rx→Int
 | .mk op mn mx rs ks=>if op=1 then 1 else if op=4 then rep mn mx (pnL ks) else pnL ks
def pnL:List Rx→Int
 | []=>0
 | k::ks=>pn k+pnL ks
end
end Go.Rx
namespace Go.Rx
structure U where
 r:Int
 n:Nat
inductive Rd (α:Type) where
 | ok (a:α) (rest:List U)
 | err (at_:List U) (e:Int)
 | out
def nx:List U→Int|[]=> -1|u::_=>u.r
def zm1 (l:List (Int × Int)):Rx:=.mk 1 0 0 l []
def one (a b:Int):Rx:=zm1 [(a,b)]
end Go.Rx
namespace Go.Rx
abbrev Lan:=List Int→Prop
theorem z9r {u v:List Int} (e:[]=u++v):u=[]∧v=[]:=List.append_eq_nil_iff.1 e.symm
def cat (a b:Lan):Lan:=fun w=>∃ u v,w=u++v∧a u∧b v
theorem zd3 {a a' b b':Lan} (h:∀ w,a w↔a' w) (h':∀ w,b w↔b' w) (w:List Int):cat a b w↔cat a' b' w:=by
 constructor
 · rintro⟨u,v,e,h1,h2⟩;exact⟨u,v,e,(h u).1 h1,(h' v).1 h2⟩
 · rintro⟨u,v,e,h1,h2⟩;exact⟨u,v,e,(h u).2 h1,(h' v).2 h2⟩
section
variable (F:Nat→Nat→Prop) (A:Nat→Int→Prop)
def Tl (last:Nat→Prop):Nat→List Int→Prop
 | i,[]=>last i
 | i,c::w=>∃ j,F i j∧A j c∧Tl last j w
def Lg (first last:Nat→Prop) (nul:Prop):Lan
 | []=>nul
 | c::w=>∃ j,first j∧A j c∧Tl F A last j w
end
theorem z6y {F F':Nat→Nat→Prop} {A A':Nat→Int→Prop} {last last':Nat→Prop} {R:Nat→Prop} (hF:∀ i j,R i→(F i j↔F' i j)) (hR:∀ i j,R i→F i j→R j) (hA:∀ i c,R i→(A i c↔A' i c)) (hl:∀ i,R i→(last i↔last' i)) :
 ∀ (w:List Int) (i:Nat),R i→(Tl F A last i w↔Tl F' A' last' i w)
 | [],i,hi=>hl i hi
 | c::w,i,hi=>by
  constructor
  · rintro⟨j,h1,h2,h3⟩
    have hj:=hR i j hi h1
    exact⟨j,(hF i j hi).1 h1,(hA j c hj).1 h2,(z6y hF hR hA hl w j hj).1 h3⟩
  · rintro⟨j,h1,h2,h3⟩
    have h1:=(hF i j hi).2 h1
    have hj:=hR i j hi h1
    exact⟨j,h1,(hA j c hj).2 h2,(z6y hF hR hA hl w j hj).2 h3⟩
theorem zbt {F F':Nat→Nat→Prop} {A A':Nat→Int→Prop} {first first' last last':Nat→Prop} {nul nul':Prop} {R:Nat→Prop} (hF:∀ i j,R i→(F i j↔F' i j)) (hR:∀ i j,R i→F i j→R j) (hA:∀ i c,R i→(A i c↔A' i c)) (hl:∀ i,R i→(last i↔last' i))
 (hf:∀ i,first i↔first' i) (hfR:∀ i,first i→R i) (hn:nul↔nul'):∀ w,Lg F A first last nul w↔Lg F' A' first' last' nul' w
 | []=>hn
 | c::w=>by
  constructor
  · rintro⟨j,h1,h2,h3⟩
    have hj:=hfR j h1
    exact⟨j,(hf j).1 h1,(hA j c hj).1 h2,(z6y hF hR hA hl w j hj).1 h3⟩
  · rintro⟨j,h1,h2,h3⟩
    have h1:=(hf j).2 h1
    have hj:=hfR j h1
    exact⟨j,h1,(hA j c hj).2 h2,(z6y hF hR hA hl w j hj).2 h3⟩
section
variable {F:Nat→Nat→Prop} {A:Nat→Int→Prop} {Ra Rb fa la fb lb:Nat→Prop} {na nb:Prop}
theorem z64 (hab:∀ i,Ra i→Rb i→False) (hFb:∀ i j,Rb i→F i j→Rb j) (hla:∀ i,la i→Ra i) :
 ∀ (w:List Int) (i:Nat),Rb i→(Tl (fun i j=>F i j∨la i∧fb j) A (fun i=>lb i∨nb∧la i) i w↔Tl F A lb i w)
 | [],i,hi=>⟨fun h=>h.elim id fun h=>(hab i (hla i h.2) hi).elim,.inl⟩
 | c::w,i,hi=>by
  constructor
  · rintro⟨j,h1|h1,h2,h3⟩
    · have hj:=hFb i j hi h1
      exact⟨j,h1,h2,(z64 hab hFb hla w j hj).1 h3⟩
    · exact(hab i (hla i h1.1) hi).elim
  · rintro⟨j,h1,h2,h3⟩
    have hj:=hFb i j hi h1
    exact⟨j,.inl h1,h2,(z64 hab hFb hla w j hj).2 h3⟩
theorem z95 (hab:∀ i,Ra i→Rb i→False) (hFa:∀ i j,Ra i→F i j→Ra j) (hFb:∀ i j,Rb i→F i j→Rb j) (hla:∀ i,la i→Ra i) (hlb:∀ i,lb i→Rb i) (hfb:∀ i,fb i→Rb i) :
 ∀ (w:List Int) (i:Nat),Ra i→(Tl (fun i j=>F i j∨la i∧fb j) A (fun i=>lb i∨nb∧la i) i w↔∃ u v,w=u++v∧Tl F A la i u∧Lg F A fb lb nb v)
 | [],i,hi=>by
  constructor
  · rintro(h|h)
    · exact(hab i hi (hlb i h)).elim
    · exact⟨[],[],rfl,h.2,h.1⟩
  · rintro⟨u,v,e,h1,h2⟩
    obtain⟨rfl,rfl⟩:=z9r e
    exact .inr ⟨h2,h1⟩
 | c::w,i,hi=>by
  constructor
  · rintro⟨j,h1|h1,h2,h3⟩
    · obtain⟨u,v,rfl,h4,h5⟩:=(z95 hab hFa hFb hla hlb hfb w j (hFa i j hi h1)).1 h3
      exact⟨c::u,v,rfl,⟨j,h1,h2,h4⟩,h5⟩
    · exact⟨[],c::w,rfl,h1.1,j,h1.2,h2,(z64 hab hFb hla w j (hfb j h1.2)).1 h3⟩
  · rintro⟨u,v,e,h1,h2⟩
    cases u with
    | nil =>
     exact zD22
    | cons d u =>
     simp only[List.cons_append,List.cons.injEq] at e
     obtain⟨rfl,rfl⟩:=e
     obtain⟨j,h3,h4,h5⟩:=h1
     exact⟨j,.inl h3,h4,(z95 hab hFa hFb hla hlb hfb (u++v) j (hFa i j hi h3)).2 ⟨u,v,rfl,h5,h2⟩⟩
theorem zjy (hab:∀ i,Ra i→Rb i→False) (hFa:∀ i j,Ra i→F i j→Ra j) (hFb:∀ i j,Rb i→F i j→Rb j) (hla:∀ i,la i→Ra i) (hlb:∀ i,lb i→Rb i) (hfa:∀ i,fa i→Ra i) (hfb:∀ i,fb i→Rb i) (w:List Int) :
 Lg (fun i j=>F i j∨la i∧fb j) A (fun i=>fa i∨na∧fb i) (fun i=>lb i∨nb∧la i) (na∧nb) w↔cat (Lg F A fa la na) (Lg F A fb lb nb) w:=by
 cases w with
 | nil =>
  constructor
  · rintro⟨h1,h2⟩;exact⟨[],[],rfl,h1,h2⟩
  · rintro⟨u,v,e,h1,h2⟩
    obtain⟨rfl,rfl⟩:=z9r e
    exact⟨h1,h2⟩
 | cons c w =>
  constructor
  · rintro⟨j,h1|h1,h2,h3⟩
    · obtain⟨u,v,rfl,h4,h5⟩:=(z95 hab hFa hFb hla hlb hfb w j (hfa j h1)).1 h3
      exact⟨c::u,v,rfl,⟨j,h1,h2,h4⟩,h5⟩
    · exact⟨[],c::w,rfl,h1.1,j,h1.2,h2,(z64 hab hFb hla w j (hfb j h1.2)).1 h3⟩
  · rintro⟨u,v,e,h1,h2⟩
    cases u with
    | nil =>
     exact zD22
    | cons d u =>
     simp only[List.cons_append,List.cons.injEq] at e
     obtain⟨rfl,rfl⟩:=e
     obtain⟨j,h3,h4,h5⟩:=h1
     exact⟨j,.inl h3,h4,(z95 hab hFa hFb hla hlb hfb (u++v) j (hfa j h3)).2 ⟨u,v,rfl,h5,h2⟩⟩
end
end Go.Rx
namespace Go.Rx
theorem ze7 {α:Type} {l:List α} {i:Nat} {d:α} (h:l.length≤i):l.getD i d=d:=by simp[List.getD,zAo h]
theorem zi3 {α:Type} (a b:List α) (d:α) {i:Nat} (h:i<a.length):(a++b).getD i d=a.getD i d:=by simp[List.getD,zA9 h]
structure Tb where
 lv:List (List (Int × Int))
 fo:List Nat
structure Pt where
 f:Nat
 l:Nat
 nu:Bool
def lnk (fr to:Nat):Nat→List Nat→List Nat
 | _,[]=>[]
 | i,x::r=>(if fr.testBit i=true then x ||| to else x)::lnk fr to (i+1) r
def link (t:Tb) (fr to:Nat):Tb:=⟨t.lv,lnk fr to 0 t.fo⟩
def zcn (a b:Pt) (t:Tb):Tb × Pt:=(link t a.l b.f,⟨if a.nu=true then a.f ||| b.f else a.f,if b.nu=true then b.l ||| a.l else b.l,a.nu&&b.nu⟩)
abbrev bit (x:Nat) (i:Nat):Prop:=x.testBit i=true
def FoR (t:Tb) (i j:Nat):Prop:=(t.fo.getD i 0).testBit j=true
def AcR (ok:Int→List (Int × Int)→Bool) (t:Tb) (j:Nat) (c:Int):Prop:=ok c (t.lv.getD j [])=true
theorem zal (fr to:Nat):∀ (l:List Nat) (i:Nat),(lnk fr to i l).length=l.length
 | [],_=>rfl
 | x::l,i=>by rw[lnk,zAh,zal fr to l,zAh]
theorem zb3 (fr to:Nat):∀ (l:List Nat) (i k:Nat),k<l.length→(lnk fr to i l).getD k 0=if fr.testBit (i+k)=true then l.getD k 0 ||| to else l.getD k 0
 | [],_,k,h=>by simp at h
 | x::l,i,0,h=>by simp[lnk]
 | x::l,i,k+1,h=>by
  have:=zb3 fr to l (i+1) k (by simpa using h)
  rw[lnk,List.getD_cons_succ,this,List.getD_cons_succ,show i+1+k=i+(k+1) by omega]
theorem zbo {t:Tb} {fr to:Nat} (h:∀ i,bit fr i→i<t.fo.length) (i j:Nat):FoR (link t fr to) i j↔FoR t i j∨bit fr i∧bit to j:=by
 unfold FoR link
 simp only
 by_cases hi:i<t.fo.length
 · rw[zb3 fr to t.fo 0 i hi,Nat.zero_add]
   by_cases hb:fr.testBit i=true
   · rw[zAs hb,Nat.testBit_or,Bool.or_eq_true];simp only[bit,hb,true_and]
   · rw[zAr hb];exact⟨.inl,fun h=>h.elim id fun h=>absurd h.1 hb⟩
 · have h1:(lnk fr to 0 t.fo).getD i 0=0:=by
    exact ze7 (by rw[zal];omega)
   have h2:t.fo.getD i 0=0:=by exact ze7 (by omega)
   rw[h1,h2]
   simp only[Nat.zero_testBit,Bool.false_eq_true,false_or,false_iff,not_and]
   intro hb;exact absurd (h i hb) hi
structure Ex (t t':Tb):Prop where
 lv:∃ new,t'.lv=t.lv++new
 len:t'.fo.length=t'.lv.length
 old:∀ i,i<t.lv.length→t'.fo.getD i 0=t.fo.getD i 0
 row:∀ i j,t.lv.length≤i→FoR t' i j→t.lv.length≤j∧j<t'.lv.length
theorem Ex.le {t t':Tb} (h:Ex t t'):t.lv.length≤t'.lv.length:=by
 obtain⟨new,e⟩:=h.lv;rw[e,zA8];omega
theorem Ex.trans {t t1 t2:Tb} (h:Ex t t1) (k:Ex t1 t2):Ex t t2:=by
 refine⟨?_,k.len,fun i hi=>(k.old i (zAq hi h.le)).trans (h.old i hi),fun i j hi hf=>?_⟩
 · obtain⟨a,ha⟩:=h.lv;obtain⟨b,hb⟩:=k.lv;exact⟨a++b,by rw[hb,ha,zAi]⟩
 · by_cases hi1:i<t1.lv.length
   · have:FoR t1 i j:=by unfold FoR at hf ⊢;rw[← k.old i hi1];exact hf
     have h1:=h.row i j hi this
     exact⟨h1.1,zAq h1.2 k.le⟩
   · have h1:=k.row i j (by omega) hf
     exact⟨Nat.le_trans h.le h1.1,h1.2⟩
theorem Ex.link {t t1:Tb} (h:Ex t t1) {fr to:Nat} (hf:∀ i,bit fr i→t.lv.length≤i∧i<t1.lv.length) (ht:∀ i,bit to i→t.lv.length≤i∧i<t1.lv.length):Ex t (link t1 fr to):=by
 have hfo:∀ i,bit fr i→i<t1.fo.length:=fun i hi=>by rw[h.len];exact(hf i hi).2
 refine⟨h.lv,by show (lnk fr to 0 t1.fo).length=_;rw[zal];exact h.len,fun i hi=>?_,fun i j hi hfl=>?_⟩
 · show (lnk fr to 0 t1.fo).getD i 0=_
   have hlt:i<t1.fo.length:=by rw[h.len];exact zAq hi h.le
   rw[zb3 fr to t1.fo 0 i hlt,Nat.zero_add,zAr,h.old i hi]
   intro hb
   have:=(hf i hb).1
   omega
 · rw[zbo hfo] at hfl
   rcases hfl with h1|⟨h1,h2⟩
   · exact h.row i j hi h1
   · exact ht j h2
structure Bl (ok:Int→List (Int × Int)→Bool) (X:Lan) (t t':Tb) (p:Pt):Prop where
 ex:Ex t t'
 fst:∀ i,bit p.f i→t.lv.length≤i∧i<t'.lv.length
 lst:∀ i,bit p.l i→t.lv.length≤i∧i<t'.lv.length
 lan:∀ w,Lg (FoR t') (AcR ok t') (bit p.f) (bit p.l) (p.nu=true) w↔X w
section
variable {ok:Int→List (Int × Int)→Bool} {X Y:Lan} {t t1 t2:Tb} {a b p:Pt}
theorem Bl.later (h:Bl ok X t t1 a) (k:Ex t1 t2) (w:List Int):Lg (FoR t2) (AcR ok t2) (bit a.f) (bit a.l) (a.nu=true) w↔X w:=by
 rw[← h.lan w]
 refine zbt (R:=fun i=>t.lv.length≤i∧i<t1.lv.length) (fun i j hi=>?_) (fun i j hi hf=>?_) (fun i c hi=>?_) (fun _ _=>Iff.rfl) (fun _=>Iff.rfl) h.fst Iff.rfl w
 · unfold FoR;rw[k.old i hi.2]
 · have:FoR t1 i j:=by unfold FoR at hf ⊢;rw[← k.old i hi.2];exact hf
   exact h.ex.row i j hi.1 this
 · unfold AcR
   obtain⟨new,e⟩:=k.lv
   rw[e,zi3 _ _ _ hi.2]
theorem ze5 (h:Ex t t1) (k:Ex t1 t2) (i j:Nat) (hi:t.lv.length≤i∧i<t1.lv.length) (hf:FoR t2 i j):t.lv.length≤j∧j<t1.lv.length:=by
 have:FoR t1 i j:=by unfold FoR at hf ⊢;rw[← k.old i hi.2];exact hf
 exact h.row i j hi.1 this
theorem Bl.cat (h:Bl ok X t t1 a) (k:Bl ok Y t1 t2 b):Bl ok (cat X Y) t (zcn a b t2).1 (zcn a b t2).2:=by
 have l1:=h.ex.le;have l2:=k.ex.le
 have hfl:∀ i,bit a.l i→i<t2.fo.length:=fun i hi=>by rw[k.ex.len];have:=(h.lst i hi).2;omega
 have e1:∀ i,bit (zcn a b t2).2.f i↔bit a.f i∨a.nu=true∧bit b.f i:=fun i=>by
  simp only[zcn,bit]
  cases a.nu <;> simp[Nat.testBit_or]
 have e2:∀ i,bit (zcn a b t2).2.l i↔bit b.l i∨b.nu=true∧bit a.l i:=fun i=>by
  simp only[zcn,bit]
  cases b.nu <;> simp[Nat.testBit_or]
 have e3:((zcn a b t2).2.nu=true)↔(a.nu=true∧b.nu=true):=by simp[zcn]
 refine⟨(h.ex.trans k.ex).link (fun i hi=>⟨(h.lst i hi).1,zAq (h.lst i hi).2 l2⟩) (fun i hi=>⟨Nat.le_trans l1 (k.fst i hi).1,(k.fst i hi).2⟩),fun i hi=>?_,fun i hi=>?_,fun w=>?_⟩
 · rcases (e1 i).1 hi with h1|⟨_,h1⟩
   · exact⟨(h.fst i h1).1,zAq (h.fst i h1).2 l2⟩
   · exact⟨Nat.le_trans l1 (k.fst i h1).1,(k.fst i h1).2⟩
 · rcases (e2 i).1 hi with h1|⟨_,h1⟩
   · exact⟨Nat.le_trans l1 (k.lst i h1).1,(k.lst i h1).2⟩
   · exact⟨(h.lst i h1).1,zAq (h.lst i h1).2 l2⟩
 · have key:=zjy (F:=FoR t2) (A:=AcR ok t2) (Ra:=fun i=>t.lv.length≤i∧i<t1.lv.length) (Rb:=fun i=>t1.lv.length≤i∧i<t2.lv.length) (fa:=bit a.f) (la:=bit a.l) (fb:=bit b.f) (lb:=bit b.l) (na:=a.nu=true) (nb:=b.nu=true)
    (fun i h1 h2=>by omega) (fun i j hi hf=>ze5 h.ex k.ex i j hi hf) (fun i j hi hf=>k.ex.row i j hi.1 hf) h.lst k.lst h.fst k.fst w
   have step:Lg (FoR (zcn a b t2).1) (AcR ok (zcn a b t2).1) (bit (zcn a b t2).2.f) (bit (zcn a b t2).2.l) ((zcn a b t2).2.nu=true) w ↔
    Lg (fun i j=>FoR t2 i j∨bit a.l i∧bit b.f j) (AcR ok t2) (fun i=>bit a.f i∨a.nu=true∧bit b.f i) (fun i=>bit b.l i∨b.nu=true∧bit a.l i) (a.nu=true∧b.nu=true) w :=
    zbt (R:=fun _=>True) (fun i j _=>zbo hfl i j) (fun _ _ _ _=>trivial) (fun _ _ _=>Iff.rfl) (fun i _=>e2 i) e1 (fun _ _=>trivial) e3 w
   exact(step.trans key).trans (zd3 (h.later k.ex) k.lan w)
theorem Bl.nul (h:Bl ok X t t1 p):Bl ok (fun w=>w=[]∨X w) t t1 ⟨p.f,p.l,true⟩:=by
 refine⟨h.ex,h.fst,h.lst,fun w=>?_⟩
 cases w with
 | nil=>exact⟨fun _=>.inl rfl,fun _=>rfl⟩
 | cons c w =>
  constructor
  · intro hw;exact .inr ((h.lan (c::w)).1 hw)
  · rintro(hw|hw)
    · simp at hw
    · exact(h.lan (c::w)).2 hw
end
end Go.Rx
