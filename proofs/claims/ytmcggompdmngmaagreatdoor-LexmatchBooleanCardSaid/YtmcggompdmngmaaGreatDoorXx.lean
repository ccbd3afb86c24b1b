/- A part. -/
import Derived.Test.YtmcggompdmngmaaGreatDoorX0
import Derived.Laws.RangeAny
import Derived.Shelf.Unicode.DecodeSlow
set_option linter.all false
namespace Go.Rx
inductive Rx where
 | mk (op mn mx:Int) (rs:List (Int × Int)) (ks:List Rx)
def Rx.op:Rx→Int|.mk o _ _ _ _=>o
def Rx.mn:Rx→Int|.mk _ o _ _ _=>o
def Rx.mx:Rx→Int|.mk _ _ o _ _=>o
def Rx.rs:Rx→List (Int × Int)|.mk _ _ _ o _=>o
def Rx.ks:Rx→List Rx|.mk _ _ _ _ o=>o
theorem Rx.ind{p:Rx→Prop}{q:List Rx→Prop}(h1:∀op mn mx rs ks,q ks→p (.mk op mn mx rs ks))(h2:q [])(h3:∀k ks,p k→q ks→q (k::ks)):(∀e,p e)∧∀l,q l :=
 ⟨fun e=>Rx.rec (motive_1:=p) (motive_2:=q) h1 h2 h3 e,fun l=>Rx.rec_1 (motive_1:=p) (motive_2:=q) h1 h2 h3 l⟩
theorem Rx.ind'{p:Rx→Prop}(h:∀op mn mx rs ks,(∀k∈ks,p k)→p (.mk op mn mx rs ks)):∀e,p e :=
 (Rx.ind (q:=fun l=>∀k∈l,p k) (fun op mn mx rs ks hq=>h op mn mx rs ks hq) (by simp) (fun k ks hk hq x hx=>by
   rw[zAc]at hx
   rcases hx with rfl|hx
   ·exact hk
   ·exact hq x hx)).1
mutual
def sz:Rx→Nat|.mk _ _ _ _ ks=>1+szL ks
def szL:List Rx→Nat|[]=>0|k::ks=>sz k+szL ks
end
mutual
def dp:Rx→Nat|.mk _ _ _ _ ks=>1+dpL ks
def dpL:List Rx→Nat|[]=>0|k::ks=>max (dp k) (dpL ks)
end
def smB(d n:Int):Bool:=decide (d>40)||decide (n>200)
mutual
def sm:Rx→Int→Int→Bool × Int
 | .mk _ _ _ _ ks,d,n=>if smB d (n+1)=true then(false,n+1)else smL ks (d+1) (n+1)
def smL:List Rx→Int→Int→Bool × Int
 | [],_,n=>(true,n)
 | k::ks,d,n=>if(sm k d n).1=true then smL ks d (sm k d n).2 else(false,(sm k d n).2)
end
theorem zvk:(∀(e:Rx) (d n:Int),1≤d→0≤n→n≤200→if d+dp e≤41∧n+sz e≤200 then sm e d n=(true,n+sz e)else(sm e d n).1=false) ∧
 ∀(l:List Rx) (d n:Int),1≤d→0≤n→n≤200→if(l=[]∨d+dpL l≤41)∧n+szL l≤200 then smL l d n=(true,n+szL l)else(smL l d n).1=false:=by
 refine Rx.ind (fun op mn mx rs ks ih d n hd h0 h1=>?_) (fun d n hd h0 h1=>?_) fun k ks ihk ih d n hd h0 h1=>?_
 ·rw[sm,dp,sz]
  by_cases hb:smB d (n+1)=true
  ·rw[zAz hb]
   simp only[smB,zAu,zA3]at hb
   rw[zAy (by omega)]
  ·rw[zAy hb]
   simp only[smB,zAu,zA3,not_or]at hb
   have:=ih (d+1) (n+1) (by omega) (by omega) (by omega)
   have e0:ks=[]→dpL ks=0∧szL ks=0:=fun h=>by subst h;exact⟨rfl,rfl⟩
   by_cases hc:d+((1+dpL ks:Nat):Int)≤41∧n+((1+szL ks:Nat):Int)≤200
   ·rw[zAz hc]
    rw[zAz ⟨.inr (by omega),by omega⟩]at this
    rw[this]
    congr 1;omega
   ·rw[zAy hc]
    rw[zAy (by
     rintro⟨h|h,h'⟩
     ·have:=e0 h;omega
     ·omega)]at this
    exact this
 ·rw[smL,szL,zAz ⟨.inl rfl,by omega⟩]
  simp
 ·rw[smL,dpL,szL]
  have hk:=ihk d n hd h0 h1
  by_cases hc:d+(dp k:Int)≤41∧n+(sz k:Int)≤200
  ·rw[zAz hc]at hk
   rw[hk]
   simp only[if_true]
   have hr:=ih d (n+sz k) hd (by omega) hc.2
   by_cases hc2:(ks=[]∨d+(dpL ks:Int)≤41)∧n+sz k+(szL ks:Int)≤200
   ·rw[zAz hc2]at hr
    have:ks=[]→dpL ks=0:=fun h=>by subst h;rfl
    rw[zAz ⟨.inr (by rcases hc2.1 with h|h <;> first|(have:=this h;omega)|omega),by omega⟩,hr]
    congr 1;omega
   ·rw[zAy hc2]at hr
    rw[zAy fun h=>hc2 ⟨.inr (by rcases h.1 with h|h <;> first|(simp at h;done)|omega),by omega⟩]
    exact hr
  ·rw[zAy hc]at hk
   rw[zAy (by
    rintro⟨h|h,h'⟩
    ·simp at h
    ·omega),hk,zAy (by simp)]
def z9z:Int→List (Int × Int)→Bool
 | _,[]=>true
 | least,r::rs=>decide (least≤r.1)&&decide (r.1≤r.2)&&decide (r.2≤1114111)&&z9z (r.2+2) rs
def zly(l:List (Int × Int)):Bool:=z9z 0 l&&decide (0<l.length)
def z7e(op:Int)(ks:List Rx):Bool:=ks.all fun k=>!decide (k.op=op)
def vn:Rx→Bool
 | .mk op mn mx rs ks =>
  if op=1 then decide (mn=0)&&decide (mx=0)&&decide (ks.length=0)&&zly rs
  else if op=2 then decide (mn=0)&&decide (mx=0)&&decide (rs.length=0)&&!decide (ks.length=1)&&z7e op ks
  else if op=3 then decide (mn=0)&&decide (mx=0)&&decide (rs.length=0)&&decide (1<ks.length)&&z7e op ks
  else if op=4 then decide (rs.length=0)&&decide (ks.length=1)&&decide (0≤mn)&&decide (mn≤16)&&(decide (mx=-1)||(decide (mn≤mx)&&decide (mx≤16)))
  else false
mutual
def vns:Rx→Bool|.mk op mn mx rs ks=>vn (.mk op mn mx rs ks)&&zev ks
def zev:List Rx→Bool|[]=>true|k::ks=>vns k&&zev ks
end
theorem z4z:∀ {l:List Rx},zev l=true→∀k∈l,vns k=true
 | [],_,k,hk=>by simp at hk
 | x::l,h,k,hk=>by
  rw[zev,zA7]at h
  rw[zAc]at hk
  rcases hk with rfl|hk
  ·exact h.1
  ·exact z4z h.2 k hk
def rep(mn mx n:Int):Int:=if mx=-1 then n*max mn 1 else n*mx
mutual
def ps(C:Int):Rx→Int
 | .mk op mn mx rs ks=>if op=1 then 1 else if op=4 then min (rep mn mx (psL C ks 0)) C else min (psL C ks 0) C
def psL(C:Int):List Rx→Int→Int
 | [],n=>n
 | k::ks,n=>psL C ks (min (n+ps C k) C)
end
mutual
def pn:Rx→Int
 | .mk op mn mx rs ks=>if op=1 then 1 else if op=4 then rep mn mx (pnL ks)else pnL ks
def pnL:List Rx→Int
 | []=>0
 | k::ks=>pn k+pnL ks
end
def val(e:Rx):Int:=if 200<sz e∨40<dp e then 2 else if vns e=false then 1 else if 64<pn e then 2 else 0
theorem z5z{op mn mx:Int}{rs:List (Int × Int)}{ks:List Rx}(h:vn (.mk op mn mx rs ks)=true) :
 (op=1∧mn=0∧mx=0∧ks=[]∧zly rs=true)∨(op=2∧mn=0∧mx=0∧rs=[]∧ks.length≠1∧z7e 2 ks=true)∨(op=3∧mn=0∧mx=0∧rs=[]∧1<ks.length∧z7e 3 ks=true) ∨
 (op=4∧rs=[]∧(∃k,ks=[k])∧0≤mn∧mn≤16∧(mx=-1∨mn≤mx∧mx≤16)):=by
 rw[vn]at h
 split at h
 ·rename_i h1
  simp only[zA7,zA3]at h
  exact .inl ⟨h1,h.1.1.1,h.1.1.2,List.eq_nil_of_length_eq_zero h.1.2,h.2⟩
 split at h
 ·rename_i h1
  simp only[zA7,zA3,zA6,zA5]at h
  exact .inr (.inl ⟨h1,h.1.1.1.1,h.1.1.1.2,List.eq_nil_of_length_eq_zero h.1.1.2,h.1.2,h1▸h.2⟩)
 split at h
 ·rename_i h1
  simp only[zA7,zA3]at h
  exact .inr (.inr (.inl ⟨h1,h.1.1.1.1,h.1.1.1.2,List.eq_nil_of_length_eq_zero h.1.1.2,h.1.2,h1▸h.2⟩))
 split at h
 ·rename_i h1
  simp only[zA7,zAu,zA3]at h
  refine .inr (.inr (.inr ⟨h1,List.eq_nil_of_length_eq_zero h.1.1.1.1,?_,h.1.1.2,h.1.2,h.2⟩))
  match ks,h.1.1.1.2 with
  | [k],_=>exact⟨k,rfl⟩
 ·cases h
theorem zf7:(∀e:Rx,vns e=true→0≤pn e)∧∀l:List Rx,zev l=true→0≤pnL l:=by
 refine Rx.ind (fun op mn mx rs ks ih h=>?_) (fun _=>by simp[pnL]) fun k ks hk ih h=>?_
 ·rw[vns,zA7]at h
  have:=ih h.2
  rw[pn]
  split
  ·decide
  split
  ·rename_i h4
   rcases z5z h.1 with h1|h1|h1|h1 <;> try omega
   rw[rep]
   split
   ·exact Int.mul_nonneg this (by omega)
   ·exact Int.mul_nonneg this (by omega)
  ·exact this
 ·rw[zev,zA7]at h
  have h1:=hk h.1
  have h2:=ih h.2
  rw[pnL];omega
theorem zvq{C P m:Int}(hC:1≤C)(hP:0≤P)(hm:0≤m):min (min P C*m) C=min (P*m) C:=by
 by_cases h:P≤C
 ·rw[Int.min_eq_left h]
 ·rw[Int.min_eq_right (show C≤P by omega)]
  by_cases h0:m=0
  ·subst h0;rw[Int.mul_zero,Int.mul_zero]
  have h1:C*1≤C*m:=Int.mul_le_mul_of_nonneg_left (by omega) (by omega)
  have h2:P*1≤P*m:=Int.mul_le_mul_of_nonneg_left (by omega) (by omega)
  rw[Int.min_eq_right (show C≤C*m by omega),Int.min_eq_right (show C≤P*m by omega)]
theorem yaj{C:Int}(hC:1≤C):(∀e:Rx,vns e=true→ps C e=min (pn e) C)∧∀l:List Rx,zev l=true→∀n,0≤n→n≤C→psL C l n=min (n+pnL l) C:=by
 refine Rx.ind (fun op mn mx rs ks ih h=>?_) (fun _ n h0 h1=>by rw[psL,pnL];omega) fun k ks hk ih h n h0 h1=>?_
 ·rw[vns,zA7]at h
  have h0:=ih h.2 0 (by decide) (by omega)
  have hnn:=zf7.2 ks h.2
  rw[Int.zero_add]at h0
  rw[ps,pn]
  by_cases h1:op=1
  ·rw[zAz h1,zAz h1];omega
  rw[zAy h1,zAy h1]
  by_cases h4:op=4
  ·rw[zAz h4,zAz h4,h0]
   rcases z5z h.1 with h1|h1|h1|h1 <;> try omega
   rw[rep,rep]
   split
   ·exact zvq hC hnn (by omega)
   ·exact zvq hC hnn (by omega)
  ·rw[zAy h4,zAy h4,h0];omega
 ·rw[zev,zA7]at h
  have hp:=zf7.1 k h.1
  have hq:=zf7.2 ks h.2
  rw[psL,hk h.1,ih h.2 _ (by omega) (by omega),pnL];omega
theorem yap(e:Rx):val e=if(sm e 1 0).1=false then 2 else if vns e=false then 1 else if 64<ps 65 e then 2 else 0:=by
 have h:=zvk.1 e 1 0 (by decide) (by decide) (by decide)
 rw[val]
 by_cases hc:(1:Int)+dp e≤41∧0+(sz e:Int)≤200
 ·rw[zAz hc]at h
  have h1:(sm e 1 0).1=true:=by rw[h]
  rw[h1,zAy (show ¬(200<sz e∨40<dp e) by omega)]
  cases hv:vns e with
  | false=>simp
  | true =>
   rw[(yaj (by decide)).1 e hv]
   simp only[Bool.true_eq_false,if_false]
   by_cases hp:64<pn e
   ·rw[zAz hp,zAz (by omega)]
   ·rw[zAy hp,zAy (by omega)]
 ·rw[zAy hc]at h
  rw[zAz (by omega),zAz h]
structure U where
 r:Int
 n:Nat
inductive Rd(α:Type) where
 | ok (a:α) (rest:List U)
 | err (at_:List U) (e:Int)
 | out
def nx:List U→Int|[]=> -1|u::_=>u.r
def spA:List Int:=[92,46,91,93,40,41,123,125,124,42,43,63]
def spC:List Int:=[92,91,93,94,45]
def dgt(c:Int):Bool:=decide (48≤c)&&decide (c≤57)
def y6b(least:Int):List U→Rd Int
 | []=>.err [] 3
 | c::l =>
  if dgt c.r=false then .err (c::l) 3
  else if 0<c.r-48∧l=[]then .err [] 3
  else if 0<c.r-48∧dgt (nx l)=true then
   (if 16<10*(c.r-48)+(nx l-48)∨10*(c.r-48)+(nx l-48)<least then .err (c::l) 8 else .ok (10*(c.r-48)+(nx l-48)) l.tail)
  else if 16<c.r-48∨c.r-48<least then .err (c::l) 8 else .ok (c.r-48) l
def zzm(lo hi:Int)(l:List U):Rd (Int × Int):=if nx l=125 then .ok (lo,hi) l else .err l 3
def y12(l:List U):Rd (Int × Int):=match y6b 0 l with
 | .out=>.out
 | .err a e=>.err a e
 | .ok lo l1=>if nx l1=44 then
  (if nx l1.tail=125 then zzm lo (-1) l1.tail else match y6b lo l1.tail with
    | .out=>.out
    | .err a e=>.err a e
    | .ok hi l3=>zzm lo hi l3)
  else zzm lo lo l1
def y5a(sp:List Int):List U→Rd Int
 | []=>.err [] 3
 | c::l=>if c.r=92 then(match l with|[]=>.err [] 3|d::l2=>if sp.contains d.r=true then .ok d.r l2 else .err (d::l2) 3)
  else if sp.contains c.r=true then .err (c::l) 3 else .ok c.r l
theorem zji(sp:List Int)(c:U)(l:List U):y5a sp (c::l)=if c.r=92 then(match l with|[]=>.err [] 3|d::l2=>if sp.contains d.r=true then .ok d.r l2 else .err (d::l2) 3)else if sp.contains c.r=true then .err (c::l) 3 else .ok c.r l:=by
 cases l <;> rfl
theorem zkw(c:Int)(n:Nat)(R:List U):nx (⟨c,n⟩::R)=c:=rfl
def yab(l:List U):Rd (Int × Int):=match y5a spC l with
 | .out=>.out
 | .err a e=>.err a e
 | .ok a l1=>if nx l1=45 then(match y5a spC l1.tail with
  | .out=>.out
  | .err a e=>.err a e
  | .ok b l2=>if b<a then .err l 8 else .ok (a,b) l2)
  else .ok (a,a) l1
def zi6:Nat→List (Int × Int)→List U→Rd (List (Int × Int))
 | 0,_,_=>.out
 | n+1,acc,l=>if acc≠[]∧nx l=93 then .ok acc l.tail else match yab l with
  | .out=>.out
  | .err a e=>.err a e
  | .ok r l1=>zi6 n (acc++[r]) l1
def zwp(r:Int × Int):List (Int × Int)→List (Int × Int)
 | []=>[r]
 | x::l=>if r.1<x.1 then r::x::l else x::zwp r l
def ybl(l:List (Int × Int)):List (Int × Int):=l.foldl (fun a r=>zwp r a) []
def zq6:Int × Int→List (Int × Int)→List (Int × Int)
 | p,[]=>[p]
 | p,r::l=>if r.1≤p.2+1 then zq6 (p.1,max p.2 r.2) l else p::zq6 r l
def y41:List (Int × Int)→List (Int × Int)|[]=>[]|r::l=>zq6 r l
def norm(l:List (Int × Int)):List (Int × Int):=y41 (ybl l)
def ybm:Int→List (Int × Int)→List (Int × Int)
 | from_,[]=>if from_≤1114111 then [(from_,1114111)]else []
 | from_,r::l=>if from_<r.1 then(from_,r.1-1)::ybm (r.2+1) l else ybm (r.2+1) l
def ydk(l:List (Int × Int)):List (Int × Int):=ybm 0 (norm l)
def y73(l:List (Int × Int)):Rx:=.mk 1 0 0 l []
def one(a b:Int):Rx:=y73 [(a,b)]
def ydi(n:Nat)(l:List U):Rd Rx :=
 if nx l.tail=94 then(match zi6 n [] l.tail.tail with
  | .out=>.out
  | .err a e=>.err a e
  | .ok rs l1=>if(ydk rs).length=0 then .err l 1 else .ok (y73 (ydk rs)) l1)
 else(match zi6 n [] l.tail with
  | .out=>.out
  | .err a e=>.err a e
  | .ok rs l1=>.ok (y73 (norm rs)) l1)
def y6y(lo hi:Int)(e:Rx):Rx:=.mk 4 lo hi [] [e]
def flat(o:Int)(e:Rx):List Rx:=if e.op=o then e.ks else [e]
def fin(o:Int):List Rx→Rx
 | [e]=>e
 | l=>.mk o 0 0 [] l
mutual
def pU:Nat→List Rx→List U→Rd Rx
 | 0,_,_=>.out
 | n+1,acc,l=>match pC n [] l with
  | .out=>.out
  | .err a e=>.err a e
  | .ok e l1=>if nx l1=124 then pU n (acc++flat 3 e) l1.tail else .ok (fin 3 (acc++flat 3 e)) l1
def pC:Nat→List Rx→List U→Rd Rx
 | 0,_,_=>.out
 | n+1,acc,l=>if nx l<0∨nx l=124∨nx l=41 then .ok (fin 2 acc) l else match pR n l with
  | .out=>.out
  | .err a e=>.err a e
  | .ok e l1=>pC n (acc++flat 2 e) l1
def pR:Nat→List U→Rd Rx
 | 0,_=>.out
 | n+1,l=>match pA n l with
  | .out=>.out
  | .err a e=>.err a e
  | .ok e l1=>pQ n e l1
def pQ:Nat→Rx→List U→Rd Rx
 | 0,_,_=>.out
 | n+1,e,l=>if nx l=42 then pQ n (y6y 0 (-1) e) l.tail else if nx l=43 then pQ n (y6y 1 (-1) e) l.tail else if nx l=63 then pQ n (y6y 0 1 e) l.tail
  else if nx l=123 then(match y12 l.tail with
   | .out=>.out
   | .err a e=>.err a e
   | .ok b l1=>pQ n (y6y b.1 b.2 e) l1.tail)
  else .ok e l
def pA:Nat→List U→Rd Rx
 | 0,_=>.out
 | n+1,l=>if nx l=40 then(match pU n [] l.tail with
  | .out=>.out
  | .err a e=>.err a e
  | .ok e l1=>if nx l1=41 then .ok e l1.tail else .err l1 3)
  else if nx l=46 then .ok (one 0 1114111) l.tail
  else if nx l=91 then ydi n l
  else match y5a spA l with
   | .out=>.out
   | .err a e=>.err a e
   | .ok c l1=>.ok (one c c) l1
end
abbrev Rg:=Int × Int
def inS(l:List Rg)(c:Int):Prop:=∃r∈l,r.1≤c∧c≤r.2
def nrm:Int→List Rg→Prop
 | _,[]=>True
 | a,r::l=>a≤r.1∧r.1≤r.2∧nrm (r.2+2) l
theorem znp:∀ {l:List Rg} {a b:Int},b≤a→nrm a l→nrm b l
 | [],_,_,_,_=>trivial
 | r::l,a,b,h,⟨h1,h2,h3⟩=>⟨by omega,h2,h3⟩
theorem zuy:∀ {l:List Rg} {a:Int},nrm a l→∀c,inS l c→a≤c
 | [],_,_,c,⟨r,hr,_⟩=>by simp at hr
 | r::l,a,⟨h1,h2,h3⟩,c,⟨x,hx,h4,h5⟩=>by
  rw[zAc]at hx
  rcases hx with rfl|hx
  ·omega
  ·have:=zuy h3 c ⟨x,hx,h4,h5⟩;omega
theorem z2b(r:Rg)(l:List Rg)(c:Int):inS (r::l) c↔(r.1≤c∧c≤r.2)∨inS l c:=by
 constructor
 ·rintro⟨x,hx,h⟩
  rw[zAc]at hx
  rcases hx with rfl|hx
  ·exact .inl h
  ·exact .inr ⟨x,hx,h⟩
 ·rintro(h|⟨x,hx,h⟩)
  ·exact⟨r,by simp,h⟩
  ·exact⟨x,by simp[hx],h⟩
theorem zof:∀(l m:List Rg) (a:Int),nrm a l→nrm a m→(∀c,inS l c↔inS m c)→l=m
 | [],[],_,_,_,_=>rfl
 | [],r::m,a,_,⟨h1,h2,h3⟩,h=>by
  obtain⟨x,hx,_⟩:=(h r.1).2 ⟨r,by simp,Int.le_refl _,h2⟩
  simp at hx
 | r::l,[],a,⟨h1,h2,h3⟩,_,h=>by
  obtain⟨x,hx,_⟩:=(h r.1).1 ⟨r,by simp,Int.le_refl _,h2⟩
  simp at hx
 | r::l,s::m,a,⟨h1,h2,h3⟩,⟨k1,k2,k3⟩,h=>by
  have g1:∀c,inS l c→r.2+2≤c:=zuy h3
  have g2:∀c,inS m c→s.2+2≤c:=zuy k3
  have e1:r.1=s.1:=by
   have q1:=(h r.1).1 ((z2b r l _).2 (.inl ⟨Int.le_refl _,h2⟩))
   have q2:=(h s.1).2 ((z2b s m _).2 (.inl ⟨Int.le_refl _,k2⟩))
   rw[z2b]at q1 q2
   rcases q1 with q1|q1 <;> rcases q2 with q2|q2
   ·omega
   ·have:=g1 _ q2;omega
   ·have:=g2 _ q1;omega
   ·have:=g2 _ q1;have:=g1 _ q2;omega
  have e2:r.2=s.2:=by
   false_or_by_contra
   rename_i hne
   by_cases hlt:r.2<s.2
   ·have q:=(h (r.2+1)).2 ((z2b s m _).2 (.inl ⟨by omega,by omega⟩))
    rw[z2b]at q
    rcases q with q|q
    ·omega
    ·have:=g1 _ q;omega
   ·have q:=(h (s.2+1)).1 ((z2b r l _).2 (.inl ⟨by omega,by omega⟩))
    rw[z2b]at q
    rcases q with q|q
    ·omega
    ·have:=g2 _ q;omega
  have e:r=s:=Prod.ext e1 e2
  subst e
  congr 1
  refine zof l m (r.2+2) h3 k3 fun c=>?_
  constructor
  ·intro hc
   have:=g1 c hc
   have q:=(h c).1 ((z2b r l c).2 (.inr hc))
   rw[z2b]at q
   rcases q with q|q
   ·omega
   ·exact q
  ·intro hc
   have:=g2 c hc
   have q:=(h c).2 ((z2b r m c).2 (.inr hc))
   rw[z2b]at q
   rcases q with q|q
   ·omega
   ·exact q
def y2u:Int→List Rg→Prop
 | _,[]=>True
 | a,r::l=>a≤r.1∧r.1≤r.2∧y2u r.1 l
theorem zbr:∀(l:List Rg) (p:Rg),p.1≤p.2→y2u p.1 l→nrm p.1 (zq6 p l)∧∀c,inS (zq6 p l) c↔inS (p::l) c
 | [],p,hp,_=>⟨⟨Int.le_refl _,hp,trivial⟩,fun c=>Iff.rfl⟩
 | r::l,p,hp,⟨h1,h2,h3⟩=>by
  rw[zq6]
  by_cases h:r.1≤p.2+1
  ·rw[zAz h]
   have ha:y2u p.1 l:=by
    cases l with
    | nil=>trivial
    | cons x l=>exact⟨by have:=h3.1;omega,h3.2⟩
   obtain⟨i1,i2⟩:=zbr l (p.1,max p.2 r.2) (by simp only;omega) ha
   refine⟨i1,fun c=>?_⟩
   rw[i2,z2b,z2b,z2b]
   simp only
   constructor
   ·rintro(h|h)
    ·by_cases hc:c≤p.2
     ·exact .inl ⟨h.1,hc⟩
     ·exact .inr (.inl ⟨by omega,by omega⟩)
    ·exact .inr (.inr h)
   ·rintro(h|h|h)
    ·exact .inl ⟨h.1,by omega⟩
    ·exact .inl ⟨by omega,by omega⟩
    ·exact .inr h
  ·rw[zAy h]
   obtain⟨i1,i2⟩:=zbr l r h2 h3
   refine⟨⟨Int.le_refl _,hp,nrm_mono' i1 (by omega)⟩,fun c=>?_⟩
   rw[z2b,i2,z2b p]
where
 nrm_mono' {l:List Rg} {a b:Int} (h:nrm b l) (hab:a≤b):nrm a l:=znp hab h
theorem zpa(r:Rg):∀(l:List Rg) (x:Rg),x∈zwp r l↔x=r∨x∈l
 | [],x=>by simp[zwp]
 | y::l,x=>by
  rw[zwp]
  split
  ·simp
  ·rw[zAc,zpa r l,zAc]
   constructor
   ·rintro(h|h|h) <;> simp[h]
   ·rintro(h|h|h) <;> simp[h]
theorem zna(r:Rg)(hr:r.1≤r.2):∀(l:List Rg) (a:Int),y2u a l→a≤r.1→y2u a (zwp r l)
 | [],a,_,h=>⟨h,hr,trivial⟩
 | x::l,a,⟨h1,h2,h3⟩,h=>by
  rw[zwp]
  split
  ·exact⟨h,hr,by omega,h2,h3⟩
  ·exact⟨h1,h2,zna r hr l x.1 h3 (by omega)⟩
theorem zow:∀(l acc:List Rg) (a:Int),(∀r∈l,a≤r.1∧r.1≤r.2)→y2u a acc→y2u a (l.foldl (fun q r=>zwp r q) acc)∧∀x,x∈l.foldl (fun q r=>zwp r q) acc↔x∈acc∨x∈l
 | [],acc,a,_,h=>⟨h,fun x=>by simp⟩
 | r::l,acc,a,h,ha=>by
  have hr:=h r (by simp)
  obtain⟨i1,i2⟩:=zow l (zwp r acc) a (fun x hx=>h x (by simp[hx])) (zna r hr.2 acc a ha hr.1)
  refine⟨i1,fun x=>?_⟩
  rw[List.foldl_cons,i2,zpa,zAc]
  constructor
  ·rintro((h|h)|h) <;> simp[h]
  ·rintro(h|h|h) <;> simp[h]
theorem zqw{l:List Rg}{a:Int}(h:y2u a l):nrm a (y41 l)∧∀c,inS (y41 l) c↔inS l c:=by
 cases l with
 | nil=>exact⟨trivial,fun _=>Iff.rfl⟩
 | cons r l =>
  obtain⟨h1,h2,h3⟩:=h
  obtain⟨i1,i2⟩:=zbr l r h2 h3
  exact⟨znp h1 i1,i2⟩
theorem zvv{l:List Rg}{a:Int}(h:∀r∈l,a≤r.1∧r.1≤r.2):nrm a (norm l)∧∀c,inS (norm l) c↔inS l c:=by
 obtain⟨h1,h2⟩:=zow l [] a h trivial
 obtain⟨i1,i2⟩:=zqw h1
 refine⟨i1,fun c=>(i2 c).trans ?_⟩
 constructor
 ·rintro⟨r,hr,hc⟩;exact⟨r,by simpa using(h2 r).1 hr,hc⟩
 ·rintro⟨r,hr,hc⟩;exact⟨r,(h2 r).2 (.inr hr),hc⟩
theorem norm_eq{l m:List Rg}{a:Int}(h:∀r∈l,a≤r.1∧r.1≤r.2)(hm:nrm a m)(he:∀c,inS m c↔inS l c):m=norm l:=by
 obtain⟨j1,j2⟩:=zvv h
 exact zof _ _ a hm j1 fun c=>(he c).trans (j2 c).symm
where
 zix:∀ {l:List Rg} {a:Int},nrm a l→∀r∈l,r.1≤r.2
 | [],_,_,r,hr=>by simp at hr
 | x::l,a,⟨_,h2,h3⟩,r,hr=>by
  rw[zAc]at hr
  rcases hr with rfl|hr
  ·exact h2
  ·exact zix h3 r hr
theorem zdp:∀ {l:List Rg} {a:Int},z9z a l=true→nrm a l∧∀r∈l,r.2≤1114111
 | [],_,_=>⟨trivial,by simp⟩
 | r::l,a,h=>by
  rw[z9z]at h
  simp only[zA7,zA3]at h
  obtain⟨i1,i2⟩:=zdp h.2
  refine⟨⟨h.1.1.1,h.1.1.2,i1⟩,fun x hx=>?_⟩
  rw[zAc]at hx
  rcases hx with rfl|hx
  ·exact h.1.2
  ·exact i2 x hx
end Go.Rx
namespace Go.Rx
def quo(sp:List Int)(c:Int):List Int:=if sp.contains c=true then [92,c]else [c]
def zfj(r:Rg):List Int:=quo spC r.1++(if r.1+1<r.2 then [45]else [])++(if r.1<r.2 then quo spC r.2 else [])
def zml:List Rg→List Int
 | []=>[]
 | r::l=>if r.1=0∧r.2=1114111 then [46]else if l.length=0∧r.1=r.2 then quo spA r.1 else [91]++(r::l).flatMap zfj++[93]
def dgs(n:Int):List Int:=if n<10 then [48+n]else [48+n / 10,48+n % 10]
def zew(lo hi:Int):List Int :=
 if lo=0∧hi=-1 then [42]else if lo=1∧hi=-1 then [43]else if lo=0∧hi=1 then [63]
 else if hi=-1 then [123]++dgs lo++[44,125]else if lo=hi then [123]++dgs lo++[125]else [123]++dgs lo++[44]++dgs hi++[125]
def brk(b:Bool)(l:List Int):List Int:=if b=true then [40]++l++[41]else l
mutual
def fm:Rx→Int→List Int
 | .mk op mn mx rs ks,w=>if op=1 then zml rs else if op=2 then brk (decide (w=4)) (fmC ks)else if op=3 then brk (decide (w=4)||decide (w=2)) (fmU ks)else brk (decide (w=4)) (fm1 ks++zew mn mx)
def fmC:List Rx→List Int
 | []=>[]
 | k::ks=>fm k 2++fmC ks
def fmU:List Rx→List Int
 | []=>[]
 | k::ks=>fm k 3++fmV ks
def fmV:List Rx→List Int
 | []=>[]
 | k::ks=>[124]++(fm k 3++fmV ks)
def fm1:List Rx→List Int
 | []=>[]
 | k::_=>fm k 4
end
def txl(r:Rg):Bool:=decide (r.1≤57343)&&decide (55296≤r.2)&&(decide (55295<r.1)||decide (r.2<57344))
mutual
def wrt:Rx→Bool|.mk _ _ _ rs ks=>!rs.any txl&&yb2 ks
def yb2:List Rx→Bool|[]=>true|k::ks=>wrt k&&yb2 ks
end
def mkU(z:Int→Nat)(l:List Int):List U:=l.map fun c=>⟨c,z c⟩
section
variable{z:Int→Nat}
theorem z3k(a b:List Int):mkU z (a++b)=mkU z a++mkU z b:=by simp[mkU]
theorem zz8(c:Int)(l:List Int):mkU z (c::l)=⟨c,z c⟩::mkU z l:=rfl
theorem zm7(l:List Int):(mkU z l).length=l.length:=by simp[mkU]
theorem zoe(sp:List Int)(c:Int)(R:List U):nx (mkU z (quo sp c)++R)=if sp.contains c=true then 92 else c:=by
 unfold quo;split <;> rfl
theorem z8e{sp:List Int}(hsp:sp.contains 92=true)(c:Int)(R:List U):y5a sp (mkU z (quo sp c)++R)=.ok c R:=by
 unfold quo
 by_cases h:sp.contains c=true
 ·rw[zAz h]
  show y5a sp (⟨92,z 92⟩::⟨c,z c⟩::R)=_
  rw[zji,zAz rfl]
  simp only
  rw[zAz h]
 ·rw[zAy h]
  show y5a sp (⟨c,z c⟩::R)=_
  rw[zji,zAy (show ¬c=92 from fun e=>h (by rw[e];exact hsp)),zAy h]
theorem y9w{c d:Int}(h:spC.contains c=false)(hd:spC.contains d=true):c≠d:=fun e=>by rw[e,hd]at h;cases h
theorem zd9(c:Int)(R:List U){d:Int}(hd:spC.contains d=true)(h92:d≠92):nx (mkU z (quo spC c)++R)≠d:=by
 rw[zoe]
 split
 ·exact fun e=>h92 e.symm
 ·rename_i h
  exact y9w (by simpa using h) hd
def spl(r:Rg):List Rg:=if r.1+1=r.2 then [(r.1,r.1),(r.2,r.2)]else [r]
theorem zjk:∀(rs:List Rg) (n:Nat) (acc:List Rg) (R:List U),(∀r∈rs,r.1≤r.2)→acc≠[]∨rs≠[]→2*rs.length+1≤n→zi6 n acc (mkU z (rs.flatMap zfj++[93])++R)=.ok (acc++rs.flatMap spl) R
 | [],n,acc,R,_,h,hn=>by
  obtain⟨n,rfl⟩:∃k,n=k+1:=⟨n-1,by omega⟩
  have ha:acc≠[]:=h.elim id fun h=>absurd rfl h
  rw[zi6,zAz ⟨ha,rfl⟩]
  simp[mkU]
 | r::rs,n,acc,R,hr,_,hn=>by
  simp only[zAk]at hn
  obtain⟨n,rfl⟩:∃k,n=k+1:=⟨n-1,by omega⟩
  have hle:=hr r (by simp)
  have hT:∃T,mkU z (rs.flatMap zfj++[93])++R=T∧nx T≠45:=by
   refine⟨_,rfl,?_⟩
   cases rs with
   | nil=>simp[mkU,nx]
   | cons s rs =>
    exact zD128
  obtain⟨T,hT1,hT2⟩:=hT
  have ih:=fun(m:Nat) (acc':List Rg) (ha:acc'≠[]) (hm:2*rs.length+1≤m)=>zjk rs m acc' R (fun x hx=>hr x (by simp[hx])) (.inl ha) hm
  rw[hT1]at ih
  have e0:mkU z ((r::rs).flatMap zfj++[93])++R=mkU z (zfj r)++T:=by
   rw[←hT1,List.flatMap_cons,zAl,z3k,zAl]
  rw[e0]
  have hstop:∀(T':List U) (a:List Rg),¬(a≠[]∧nx (mkU z (quo spC r.1)++T')=93):=fun T' a h=>zd9 r.1 T' (d:=93) rfl (by decide) h.2
  by_cases h1:r.1+1<r.2
  ·have ef:zfj r=quo spC r.1++([45]++quo spC r.2):=by rw[zfj,zAz h1,zAz (by omega),zAl]
   rw[ef,z3k,zAl,zi6,zAy (hstop _ _),yab,z8e rfl]
   simp only
   rw[z3k]
   show(match(if nx (⟨45,z 45⟩::(mkU z (quo spC r.2)++T))=45 then _ else _:Rd (Int × Int))with|.out=>_|.err a e=>_|.ok r l1=>_)=_
   rw[zAz (show nx (⟨45,z 45⟩::(mkU z (quo spC r.2)++T))=45 from rfl)]
   have:(⟨45,z 45⟩::(mkU z (quo spC r.2)++T):List U).tail=mkU z (quo spC r.2)++T:=rfl
   have e45:(mkU z [45]++mkU z (quo spC r.2)++T).tail=mkU z (quo spC r.2)++T:=rfl
   rw[e45,z8e rfl]
   simp only
   rw[zAy (by omega)]
   simp only
   rw[ih n _ (by simp) (by omega),List.flatMap_cons,spl,zAy (by omega)]
   simp
  ·by_cases h2:r.1<r.2
   ·have he:r.1+1=r.2:=by omega
    obtain⟨n,rfl⟩:∃k,n=k+1:=⟨n-1,by omega⟩
    have ef:zfj r=quo spC r.1++quo spC r.2:=by rw[zfj,zAy h1,zAz h2];simp
    rw[ef,z3k,zAl,zi6,zAy (hstop _ _),yab,z8e rfl]
    simp only
    rw[zAy (zd9 r.2 T (d:=45) rfl (by decide))]
    simp only
    rw[zi6,zAy fun h=>zd9 r.2 T (d:=93) rfl (by decide) h.2,yab,z8e rfl]
    simp only
    rw[zAy hT2]
    simp only
    rw[ih n _ (by simp) (by omega),List.flatMap_cons,spl,zAz he]
    simp
   ·have ef:zfj r=quo spC r.1:=by rw[zfj,zAy h1,zAy h2];simp
    rw[ef,zi6,zAy (hstop _ _),yab,z8e rfl]
    simp only
    rw[zAy hT2]
    simp only
    rw[ih n _ (by simp) (by omega),List.flatMap_cons,spl,zAy (by omega)]
    have:(r.1,r.1)=r:=Prod.ext rfl (by simp only;omega)
    rw[this];simp
theorem y1d:∀(rs:List Rg),(∀r∈rs,r.1≤r.2)→∀c,inS rs c↔inS (rs.flatMap spl) c
 | [],_,c=>Iff.rfl
 | r::rs,h,c=>by
  have hr:=h r (by simp)
  have ih:=y1d rs (fun x hx=>h x (by simp[hx])) c
  rw[z2b,List.flatMap_cons,ih]
  have:inS (spl r++rs.flatMap spl) c↔inS (spl r) c∨inS (rs.flatMap spl) c:=by
   constructor
   ·rintro⟨x,hx,hc⟩
    rw[zAt]at hx
    exact hx.elim (fun hx=>.inl ⟨x,hx,hc⟩) fun hx=>.inr ⟨x,hx,hc⟩
   ·rintro(⟨x,hx,hc⟩|⟨x,hx,hc⟩)
    ·exact⟨x,by simp[hx],hc⟩
    ·exact⟨x,zAt.2 (.inr hx),hc⟩
  rw[this]
  refine or_congr ?_ Iff.rfl
  rw[spl]
  split
  ·rename_i he
   rw[z2b,z2b]
   simp only
   constructor
   ·intro h
    by_cases h1:c=r.1
    ·exact .inl (by omega)
    ·exact .inr (.inl (by omega))
   ·rintro(h|h|⟨x,hx,_⟩)
    ·omega
    ·omega
    ·simp at hx
  ·rw[z2b]
   exact⟨.inl,fun h=>h.elim id fun⟨x,hx,_⟩=>by simp at hx⟩
theorem y7n{rs:List Rg}{a:Int}(h:nrm a rs):∀x∈rs.flatMap spl,a≤x.1∧x.1≤x.2:=by
 induction rs generalizing a with
 | nil=>simp
 | cons r rs ih =>
  obtain⟨h1,h2,h3⟩:=h
  intro x hx
  rw[List.flatMap_cons,zAt]at hx
  rcases hx with hx|hx
  ·rw[spl]at hx
   split at hx
   ·simp only[zAc,List.not_mem_nil,or_false]at hx
    rcases hx with rfl|rfl <;> simp only <;> omega
   ·simp only[zAc,List.not_mem_nil,or_false]at hx
    subst hx;exact⟨h1,h2⟩
  ·have:=ih h3 x hx;omega
theorem zix:∀ {l:List Rg} {a:Int},nrm a l→∀r∈l,r.1≤r.2
 | [],_,_,r,hr=>by simp at hr
 | x::l,a,⟨_,h2,h3⟩,r,hr=>by
  rw[zAc]at hr
  rcases hr with rfl|hr
  ·exact h2
  ·exact zix h3 r hr
theorem zzz(r:Rg):1≤(zfj r).length:=by
 have:1≤(quo spC r.1).length:=by unfold quo;split <;> simp
 rw[zfj,zAa,zAa];omega
theorem zxg{rs:List Rg}(h:zly rs=true)(n:Nat)(R:List U)(hn:2*rs.length+2≤n):pA n (mkU z (zml rs)++R)=.ok (y73 rs) R:=by
 rw[zly,zA7,zA3]at h
 obtain⟨hs,hb⟩:=zdp h.1
 cases rs with
 | nil=>simp at h
 | cons r l =>
 obtain⟨n,rfl⟩:∃k,n=k+1:=⟨n-1,by omega⟩
 simp only[zAk]at hn
 rw[zml]
 by_cases h1:r.1=0∧r.2=1114111
 ·rw[zAz h1]
  have hl:l=[]:=by
   exact zD135
  subst hl
  show pA (n+1) (⟨46,z 46⟩::R)=_
  rw[pA,zkw,zAy (by decide),zAz rfl]
  show Rd.ok (y73 [(0,1114111)]) R=_
  rw[show r=(0,1114111)from Prod.ext h1.1 h1.2]
 rw[zAy h1]
 by_cases h2:l.length=0∧r.1=r.2
 ·rw[zAz h2]
  have hl:l=[]:=List.eq_nil_of_length_eq_zero h2.1
  subst hl
  have hne:∀d:Int,spA.contains d=true→d≠92→nx (mkU z (quo spA r.1)++R)≠d:=fun d hd h92=>by
   exact zD126
  rw[pA,zAy (hne 40 rfl (by decide)),zAy (hne 46 rfl (by decide)),zAy (hne 91 rfl (by decide)),z8e rfl]
  simp only[one,y73]
  rw[show r=(r.1,r.1)from Prod.ext rfl (by simp only;omega)]
 ·rw[zAy h2,zAl,z3k,zAl]
  show pA (n+1) (⟨91,z 91⟩::(mkU z ((r::l).flatMap zfj++[93])++R))=_
  rw[pA,zkw,zAy (by decide),zAy (by decide),zAz rfl,ydi]
  have ht:(⟨91,z 91⟩::(mkU z ((r::l).flatMap zfj++[93])++R):List U).tail=mkU z ((r::l).flatMap zfj++[93])++R:=rfl
  rw[ht]
  have hnx:nx (mkU z ((r::l).flatMap zfj++[93])++R)≠94:=by
   exact zD128
  rw[zAy hnx,zjk (r::l) n [] R (zix hs) (.inr (by simp)) (by simp only[zAk];omega)]
  simp only[List.nil_append]
  rw[←norm_eq (y7n hs) hs (y1d _ (zix hs))]
theorem zcp{k least:Int}(h0:0≤k)(h1:k≤16)(hl:least≤k){R:List U}(hR:R≠[])(hd:dgt (nx R)=false):y6b least (mkU z (dgs k)++R)=.ok k R:=by
 unfold dgs
 by_cases h:k<10
 ·rw[zAz h]
  show y6b least (⟨48+k,z (48+k)⟩::R)=_
  rw[y6b,zAy (by simp[dgt];omega),zAy fun h=>hR h.2,zAy fun h=>by rw[hd]at h;simp at h,zAy (by show ¬(16<48+k-48∨48+k-48<least);omega)]
  simp only
  congr 1;omega
 ·rw[zAy h]
  show y6b least (⟨48+k / 10,z (48+k / 10)⟩::⟨48+k % 10,z (48+k % 10)⟩::R)=_
  rw[y6b,zAy (by simp[dgt];omega),zAy (by simp),zAz ⟨by show 0<48+k / 10-48;omega,by show(decide (48≤48+k % 10)&&decide (48+k % 10≤57))=true;rw[zA7,zA3,zA3];omega⟩,zAy (by show ¬(16<10*(48+k / 10-48)+(48+k % 10-48)∨10*(48+k / 10-48)+(48+k % 10-48)<least);omega)]
  simp only[nx,List.tail_cons]
  congr 1;omega
theorem zzg{lo hi:Int}(h0:0≤lo)(h1:lo≤16)(h2:hi=-1∨lo≤hi∧hi≤16)(n:Nat)(e:Rx)(R:List U):pQ (n+1) e (mkU z (zew lo hi)++R)=pQ n (y6y lo hi e) R:=by
 unfold zew
 by_cases c1:lo=0∧hi=-1
 ·rw[zAz c1,c1.1,c1.2]
  show pQ (n+1) e (⟨42,z 42⟩::R)=_
  rw[pQ,zkw,zAz rfl];rfl
 rw[zAy c1]
 by_cases c2:lo=1∧hi=-1
 ·rw[zAz c2,c2.1,c2.2]
  show pQ (n+1) e (⟨43,z 43⟩::R)=_
  rw[pQ,zkw,zAy (by decide),zAz rfl];rfl
 rw[zAy c2]
 by_cases c3:lo=0∧hi=1
 ·rw[zAz c3,c3.1,c3.2]
  show pQ (n+1) e (⟨63,z 63⟩::R)=_
  rw[pQ,zkw,zAy (by decide),zAy (by decide),zAz rfl];rfl
 rw[zAy c3]
 have step:∀T:List U,y12 T=.ok (lo,hi) (⟨125,z 125⟩::R)→pQ (n+1) e (⟨123,z 123⟩::T)=pQ n (y6y lo hi e) R:=fun T hT=>by
  rw[pQ,zkw,zAy (by decide),zAy (by decide),zAy (by decide),zAz rfl]
  show(match y12 T with|.out=>_|.err a e=>_|.ok b l1=>_)=_
  rw[hT];rfl
 by_cases c4:hi=-1
 ·rw[zAz c4,show mkU z ([123]++dgs lo++[44,125])++R=⟨123,z 123⟩::(mkU z (dgs lo)++(⟨44,z 44⟩::⟨125,z 125⟩::R)) by simp[mkU]]
  refine step _ ?_
  rw[y12,zcp h0 h1 h0 (by simp) rfl]
  simp only
  rw[zkw,zAz rfl]
  show(if nx (⟨125,z 125⟩::R)=125 then zzm lo (-1) (⟨125,z 125⟩::R)else _)=_
  rw[zkw,zAz rfl,zzm,zkw,zAz rfl,c4]
 rw[zAy c4]
 by_cases c5:lo=hi
 ·rw[zAz c5,show mkU z ([123]++dgs lo++[125])++R=⟨123,z 123⟩::(mkU z (dgs lo)++(⟨125,z 125⟩::R)) by simp[mkU]]
  refine step _ ?_
  rw[y12,zcp h0 h1 h0 (by simp) rfl]
  simp only
  rw[zkw,zAy (by decide),zzm,zkw,zAz rfl,←c5]
 ·rw[zAy c5,show mkU z ([123]++dgs lo++[44]++dgs hi++[125])++R=⟨123,z 123⟩::(mkU z (dgs lo)++(⟨44,z 44⟩::(mkU z (dgs hi)++(⟨125,z 125⟩::R)))) by simp[mkU]]
  refine step _ ?_
  rw[y12,zcp h0 h1 h0 (by simp) rfl]
  simp only
  rw[zkw,zAz rfl]
  have e2:(⟨44,z 44⟩::(mkU z (dgs hi)++(⟨125,z 125⟩::R)):List U).tail=mkU z (dgs hi)++(⟨125,z 125⟩::R):=rfl
  rw[e2]
  have hne:nx (mkU z (dgs hi)++(⟨125,z 125⟩::R))≠125:=by
   unfold dgs
   split
   ·show 48+hi≠125;omega
   ·show 48+hi / 10≠125;omega
  rw[zAy hne,zcp (by omega) (by omega) (by omega) (by simp) rfl]
  simp only
  rw[zzm,zkw,zAz rfl]
end
end Go.Rx
namespace Go.Rx
def noQ(R:List U):Prop:=nx R≠42∧nx R≠43∧nx R≠63∧nx R≠123
def z5s(R:List U):Prop:=nx R<0∨nx R=124∨nx R=41
def zmm(R:List U):Prop:=nx R<0∨nx R=41
theorem z5s.noQ{R:List U}(h:z5s R):noQ R:=by
 rcases h with h|h|h <;> exact⟨by omega,by omega,by omega,by omega⟩
theorem zmm.z5s{R:List U}(h:zmm R):z5s R:=h.elim .inl fun h=>.inr (.inr h)
section
variable(z:Int→Nat)
structure yb7(e:Rx):Prop where
 a:∀(n:Nat) (R:List U),4*((fm e 4).length+R.length)+1≤n→pA n (mkU z (fm e 4)++R)=.ok e R
 b:e.op≠2→∀(n:Nat) (R:List U),4*((fm e 2).length+R.length)+2≤n→noQ R→pR n (mkU z (fm e 2)++R)=.ok e R
 c:e.op≠3→∀(n:Nat) (R:List U),4*((fm e 3).length+R.length)+3≤n→z5s R→pC n [] (mkU z (fm e 3)++R)=.ok e R
 d:∀(n:Nat) (R:List U),4*((fm e 0).length+R.length)+4≤n→zmm R→pU n [] (mkU z (fm e 0)++R)=.ok e R
 f:e.op≠2→∀R:List U,¬z5s (mkU z (fm e 2)++R)∧noQ (mkU z (fm e 2)++R)∧1≤(fm e 2).length
end
section
variable{z:Int→Nat}
theorem ztq{n:Nat}{e:Rx}{R:List U}(h:noQ R):pQ (n+1) e R=.ok e R:=by
 obtain⟨h1,h2,h3,h4⟩:=h
 rw[pQ,zAy h1,zAy h2,zAy h3,zAy h4]
theorem zuu{n:Nat}{acc:List Rx}{R:List U}(h:z5s R):pC (n+1) acc R=.ok (fin 2 acc) R:=by
 rw[pC];exact zAz h
theorem zrt(l:List Int)(R:List U):mkU z ([40]++l++[41])++R=⟨40,z 40⟩::(mkU z l++(⟨41,z 41⟩::R)):=by
 rw[z3k,z3k];simp[mkU]
theorem zvh{e:Rx}{l:List Int}(h:∀(n:Nat) (R:List U),4*(l.length+R.length)+4≤n→zmm R→pU n [] (mkU z l++R)=.ok e R)(n:Nat)(R:List U)(hn:4*((([40]++l++[41]:List Int)).length+R.length)+1≤n) :
 pA n (mkU z ([40]++l++[41])++R)=.ok e R:=by
 obtain⟨n,rfl⟩:∃k,n=k+1:=⟨n-1,by omega⟩
 rw[zrt,pA,zkw,zAz rfl]
 have ht:(⟨40,z 40⟩::(mkU z l++(⟨41,z 41⟩::R)):List U).tail=mkU z l++(⟨41,z 41⟩::R):=rfl
 rw[ht,h n (⟨41,z 41⟩::R) (by simp only[zAa,zAk,List.length_nil]at hn⊢;omega) (.inr rfl)]
 simp only
 rw[zkw,zAz rfl];rfl
theorem zy0(l:List Int)(R:List U):¬z5s (mkU z ([40]++l++[41])++R)∧noQ (mkU z ([40]++l++[41])++R)∧1≤([40]++l++[41]:List Int).length:=by
 rw[zrt]
 refine⟨?_,?_,by simp⟩
 ·rintro(h|h|h) <;> simp[nx]at h
 ·exact⟨by simp[nx],by simp[nx],by simp[nx],by simp[nx]⟩
theorem y1v{e:Rx}{l:List Int}(h:∀(n:Nat) (R:List U),4*(l.length+R.length)+1≤n→pA n (mkU z l++R)=.ok e R)(n:Nat)(R:List U)(hn:4*(l.length+R.length)+2≤n)(hR:noQ R):pR n (mkU z l++R)=.ok e R:=by
 obtain⟨n,rfl⟩:∃k,n=k+2:=⟨n-2,by omega⟩
 rw[pR,h (n+1) R (by omega)]
 simp only
 exact ztq hR
theorem y2a{e:Rx}{l:List Int}(ho:e.op≠2)(h:∀(n:Nat) (R:List U),4*(l.length+R.length)+2≤n→noQ R→pR n (mkU z l++R)=.ok e R)(hf:∀R:List U,¬z5s (mkU z l++R)∧noQ (mkU z l++R)∧1≤l.length)
 (n:Nat) (R:List U) (hn:4*(l.length+R.length)+3≤n) (hR:z5s R):pC n [] (mkU z l++R)=.ok e R:=by
 obtain⟨n,rfl⟩:∃k,n=k+2:=⟨n-2,by omega⟩
 rw[pC,zAy (show ¬(nx (mkU z l++R)<0∨nx (mkU z l++R)=124∨nx (mkU z l++R)=41)from(hf R).1),h (n+1) R (by omega) hR.noQ]
 simp only
 rw[zuu hR,flat,zAy ho];rfl
theorem zuz{e:Rx}{l:List Int}(ho:e.op≠3)(h:∀(n:Nat) (R:List U),4*(l.length+R.length)+3≤n→z5s R→pC n [] (mkU z l++R)=.ok e R)(n:Nat)(R:List U)(hn:4*(l.length+R.length)+4≤n)(hR:zmm R):pU n [] (mkU z l++R)=.ok e R:=by
 obtain⟨n,rfl⟩:∃k,n=k+1:=⟨n-1,by omega⟩
 rw[pU,h n R (by omega) hR.z5s]
 simp only
 rw[zAy (by rcases hR with h|h <;> omega),flat,zAy ho];rfl
theorem zrz{o:Int}{l:List Rx}(h:l.length≠1):fin o l=.mk o 0 0 [] l:=by
 unfold fin
 split
 ·simp at h
 ·rfl
theorem zty:∀(ks acc:List Rx) (n:Nat) (R:List U),(∀k∈ks,yb7 z k∧k.op≠2)→4*((fmC ks).length+R.length)+3≤n→z5s R→pC n acc (mkU z (fmC ks)++R)=.ok (fin 2 (acc++ks)) R
 | [],acc,n,R,_,hn,hR=>by
  obtain⟨n,rfl⟩:∃k,n=k+1:=⟨n-1,by omega⟩
  rw[fmC,List.append_nil]
  exact zuu hR
 | k::ks,acc,n,R,h,hn,hR=>by
  obtain⟨n,rfl⟩:∃k,n=k+1:=⟨n-1,by omega⟩
  obtain⟨hk,ho⟩:=h k (by simp)
  have hf:=hk.f ho (mkU z (fmC ks)++R)
  rw[fmC,zAa]at hn
  rw[fmC,z3k,zAl,pC,zAy (show ¬(nx (mkU z (fm k 2)++(mkU z (fmC ks)++R))<0∨nx (mkU z (fm k 2)++(mkU z (fmC ks)++R))=124∨nx (mkU z (fm k 2)++(mkU z (fmC ks)++R))=41)from hf.1)]
  have hq:noQ (mkU z (fmC ks)++R):=by
   cases ks with
   | nil=>exact hR.noQ
   | cons k2 ks =>
    obtain⟨hk2,ho2⟩:=h k2 (by simp)
    rw[fmC,z3k,zAl]
    exact(hk2.f ho2 _).2.1
  rw[hk.b ho n _ (by rw[zAa,zm7];omega) hq]
  simp only
  rw[flat,zAy ho,zty ks (acc++[k]) n R (fun x hx=>h x (by simp[hx])) (by omega) hR,zAl];rfl
theorem zuo:∀(ks:List Rx) (k:Rx) (acc:List Rx) (n:Nat) (R:List U),(∀x∈k::ks,yb7 z x∧x.op≠3)→4*((fm k 3++fmV ks).length+R.length)+4≤n→zmm R→pU n acc (mkU z (fm k 3++fmV ks)++R)=.ok (fin 3 (acc++k::ks)) R
 | [],k,acc,n,R,h,hn,hR=>by
  obtain⟨n,rfl⟩:∃k,n=k+1:=⟨n-1,by omega⟩
  obtain⟨hk,ho⟩:=h k (by simp)
  rw[fmV,List.append_nil]at hn⊢
  rw[pU,hk.c ho n R (by omega) hR.z5s]
  simp only
  rw[zAy (by rcases hR with h|h <;> omega),flat,zAy ho]
 | k2::ks,k,acc,n,R,h,hn,hR=>by
  obtain⟨n,rfl⟩:∃k,n=k+1:=⟨n-1,by omega⟩
  obtain⟨hk,ho⟩:=h k (by simp)
  have e:mkU z (fm k 3++fmV (k2::ks))++R=mkU z (fm k 3)++(⟨124,z 124⟩::(mkU z (fm k2 3++fmV ks)++R)):=by
   rw[fmV,z3k,z3k,zAl,zAl];rfl
  rw[fmV,zAa,zAa,zAn]at hn
  rw[e,pU,hk.c ho n _ (by simp only[zAk,zAa,zm7]at hn⊢;omega) (.inr (.inl rfl))]
  simp only
  rw[zkw,zAz rfl,flat,zAy ho]
  have ht:(⟨124,z 124⟩::(mkU z (fm k2 3++fmV ks)++R):List U).tail=mkU z (fm k2 3++fmV ks)++R:=rfl
  rw[ht,zuo ks k2 (acc++[k]) n R (fun x hx=>h x (by simp[hx])) (by omega) hR,zAl];rfl
theorem zga{o:Int}{ks:List Rx}(h:z7e o ks=true):∀k∈ks,k.op≠o:=fun k hk=>by
 have:=List.all_eq_true.1 h k hk
 simpa using this
theorem zns:∀ {l:List Rx},yb2 l=true→∀k∈l,wrt k=true
 | [],_,k,hk=>by simp at hk
 | x::l,h,k,hk=>by
  rw[yb2,zA7]at h
  rw[zAc]at hk
  rcases hk with rfl|hk
  ·exact h.1
  ·exact zns h.2 k hk
theorem zg3{rs:List Rg}(h:zly rs=true)(R:List U):¬z5s (mkU z (zml rs)++R)∧noQ (mkU z (zml rs)++R)∧1≤(zml rs).length∧2*rs.length≤2*(zml rs).length:=by
 rw[zly,zA7,zA3]at h
 obtain⟨hs,hb⟩:=zdp h.1
 cases rs with
 | nil=>simp at h
 | cons r l =>
 rw[zml]
 have h0:0≤r.1:=hs.1
 by_cases h1:r.1=0∧r.2=1114111
 ·rw[zAz h1]
  have hl:l=[]:=by
   exact zD135
  subst hl
  show ¬z5s (⟨46,z 46⟩::R)∧noQ (⟨46,z 46⟩::R)∧_
  refine⟨?_,⟨by simp[nx],by simp[nx],by simp[nx],by simp[nx]⟩,by simp,by simp⟩
  rintro(h|h|h) <;> simp[nx]at h
 rw[zAy h1]
 by_cases h2:l.length=0∧r.1=r.2
 ·rw[zAz h2]
  have hne:∀d:Int,spA.contains d=true→d≠92→nx (mkU z (quo spA r.1)++R)≠d:=fun d hd h92=>by
   exact zD126
  have hq:1≤(quo spA r.1).length:=by unfold quo;split <;> simp
  refine⟨?_,⟨hne 42 rfl (by decide),hne 43 rfl (by decide),hne 63 rfl (by decide),hne 123 rfl (by decide)⟩,hq,by simp only[zAk];omega⟩
  rintro(h|h|h)
  ·rw[zoe]at h;split at h <;> omega
  ·exact hne 124 rfl (by decide) h
  ·exact hne 41 rfl (by decide) h
 ·rw[zAy h2,zAl,z3k,zAl]
  have hlen:∀q:List Rg,q.length≤(q.flatMap zfj).length:=fun q=>by
   induction q with
   | nil=>simp
   | cons x q ih=>rw[List.flatMap_cons,zAa,zAk];have:=zzz x;omega
  have:=hlen (r::l)
  show ¬z5s (⟨91,z 91⟩::_)∧noQ (⟨91,z 91⟩::_)∧_
  refine⟨?_,⟨by simp[nx],by simp[nx],by simp[nx],by simp[nx]⟩,by simp,by simp only[zAa,zAk,List.length_nil]at this⊢;omega⟩
  rintro(h|h|h) <;> simp[nx]at h
theorem back:∀e:Rx,vns e=true→wrt e=true→yb7 z e:=by
 refine Rx.ind' fun op mn mx rs ks ih h hw=>?_
 rw[vns,zA7]at h
 rw[wrt,zA7]at hw
 have hk:∀k∈ks,yb7 z k:=fun k hk=>ih k hk (z4z h.2 k hk) (zns hw.2 k hk)
 rcases z5z h.1 with⟨rfl,rfl,rfl,rfl,hr⟩|⟨rfl,rfl,rfl,rfl,hl,ho⟩|⟨rfl,rfl,rfl,rfl,hl,ho⟩|⟨rfl,rfl,⟨k,rfl⟩,h1,h2,h3⟩
 ·have e:∀w,fm (.mk 1 0 0 rs []) w=zml rs:=fun w=>by rw[fm,zAz rfl]
  have hff:=fun R=>zg3 (z:=z) hr R
  have hA:∀(n:Nat) (R:List U),4*((zml rs).length+R.length)+1≤n→pA n (mkU z (zml rs)++R)=.ok (.mk 1 0 0 rs []) R:=fun n R hn=>zxg hr n R (by have:=hff R;omega)
  have hB:=y1v hA
  have hf:∀R:List U,¬z5s (mkU z (zml rs)++R)∧noQ (mkU z (zml rs)++R)∧1≤(zml rs).length:=fun R=>⟨(hff R).1,(hff R).2.1,(hff R).2.2.1⟩
  have hC:=y2a (e:=.mk 1 0 0 rs []) (show(1:Int)≠2 from by decide) hB hf
  refine⟨fun n R=>?_,fun _ n R=>?_,fun _ n R=>?_,fun n R=>?_,fun _ R=>?_⟩
  ·rw[e];exact hA n R
  ·rw[e];exact hB n R
  ·rw[e];exact hC n R
  ·rw[e];exact zuz (e:=.mk 1 0 0 rs []) (show(1:Int)≠3 from by decide) hC n R
  ·rw[e];exact hf R
 ·have e3:fm (.mk 2 0 0 [] ks) 3=fmC ks:=by rw[fm,zAy (by decide),zAz rfl];rfl
  have e0:fm (.mk 2 0 0 [] ks) 0=fmC ks:=by rw[fm,zAy (by decide),zAz rfl];rfl
  have e4:fm (.mk 2 0 0 [] ks) 4=[40]++fmC ks++[41]:=by rw[fm,zAy (by decide),zAz rfl];rfl
  have hC:∀(n:Nat) (R:List U),4*((fmC ks).length+R.length)+3≤n→z5s R→pC n [] (mkU z (fmC ks)++R)=.ok (.mk 2 0 0 [] ks) R:=fun n R hn hR=>by
   rw[zty ks [] n R (fun k hx=>⟨hk k hx,zga ho k hx⟩) hn hR,List.nil_append,zrz hl]
  have hD:=zuz (e:=.mk 2 0 0 [] ks) (show(2:Int)≠3 from by decide) hC
  refine⟨fun n R=>?_,fun h=>absurd rfl h,fun _ n R=>?_,fun n R=>?_,fun h=>absurd rfl h⟩
  ·rw[e4];exact zvh hD n R
  ·rw[e3];exact hC n R
  ·rw[e0];exact hD n R
 ·have e2:fm (.mk 3 0 0 [] ks) 2=[40]++fmU ks++[41]:=by rw[fm,zAy (by decide),zAy (by decide),zAz rfl];rfl
  have e0:fm (.mk 3 0 0 [] ks) 0=fmU ks:=by rw[fm,zAy (by decide),zAy (by decide),zAz rfl];rfl
  have e4:fm (.mk 3 0 0 [] ks) 4=[40]++fmU ks++[41]:=by rw[fm,zAy (by decide),zAy (by decide),zAz rfl];rfl
  obtain⟨k,kr,rfl⟩:∃k kr,ks=k::kr:=by
   cases ks with
   | nil=>simp at hl
   | cons k kr=>exact⟨k,kr,rfl⟩
  have hD:∀(n:Nat) (R:List U),4*((fmU (k::kr)).length+R.length)+4≤n→zmm R→pU n [] (mkU z (fmU (k::kr))++R)=.ok (.mk 3 0 0 [] (k::kr)) R:=fun n R hn hR=>by
   rw[fmU]at hn⊢
   rw[zuo kr k [] n R (fun x hx=>⟨hk x hx,zga ho x hx⟩) hn hR,List.nil_append,zrz (by omega)]
  have hA:=zvh hD
  refine⟨fun n R=>?_,fun _ n R=>?_,fun h=>absurd rfl h,fun n R=>?_,fun _ R=>?_⟩
  ·rw[e4];exact hA n R
  ·rw[e2];exact y1v hA n R
  ·rw[e0];exact hD n R
  ·rw[e2];exact zy0 _ R
 ·have e2:fm (.mk 4 mn mx [] [k]) 2=fm k 4++zew mn mx:=by rw[fm,zAy (by decide),zAy (by decide),zAy (by decide),fm1];rfl
  have e3:fm (.mk 4 mn mx [] [k]) 3=fm k 4++zew mn mx:=by rw[fm,zAy (by decide),zAy (by decide),zAy (by decide),fm1];rfl
  have e0:fm (.mk 4 mn mx [] [k]) 0=fm k 4++zew mn mx:=by rw[fm,zAy (by decide),zAy (by decide),zAy (by decide),fm1];rfl
  have e4:fm (.mk 4 mn mx [] [k]) 4=[40]++(fm k 4++zew mn mx)++[41]:=by rw[fm,zAy (by decide),zAy (by decide),zAy (by decide),fm1];rfl
  have bk:=hk k (by simp)
  have hB:∀(n:Nat) (R:List U),4*((fm k 4++zew mn mx).length+R.length)+2≤n→noQ R→pR n (mkU z (fm k 4++zew mn mx)++R)=.ok (.mk 4 mn mx [] [k]) R:=fun n R hn hR=>by
   obtain⟨n,rfl⟩:∃k,n=k+3:=⟨n-3,by
    have:1≤(zew mn mx).length:=by unfold zew;repeat' split
                                  all_goals simp
    rw[zAa]at hn;omega⟩
   rw[zAa]at hn
   rw[z3k,zAl,pR,bk.a (n+2) _ (by rw[zAa,zm7];omega)]
   simp only
   rw[zzg h1 h2 h3,ztq hR];rfl
  have hf:∀R:List U,¬z5s (mkU z (fm k 4++zew mn mx)++R)∧noQ (mkU z (fm k 4++zew mn mx)++R)∧1≤(fm k 4++zew mn mx).length:=fun R=>by
   have hc:1≤(fm k 4++zew mn mx).length:=by
    have:1≤(zew mn mx).length:=by unfold zew;repeat' split
                                  all_goals simp
    rw[zAa];omega
   have key:∃l T,fm k 4=l∧¬z5s (mkU z l++T)∧noQ (mkU z l++T)∧T=mkU z (zew mn mx)++R:=by
    refine⟨_,mkU z (zew mn mx)++R,rfl,?_,?_,rfl⟩
    ·exact(fm4_f k (z4z h.2 k (by simp)) _).1
    ·exact(fm4_f k (z4z h.2 k (by simp)) _).2
   obtain⟨l,T,rfl,q1,q2,rfl⟩:=key
   rw[z3k,zAl]
   exact⟨q1,q2,hc⟩
  have hC:=y2a (e:=.mk 4 mn mx [] [k]) (show(4:Int)≠2 from by decide) hB hf
  have hD:=zuz (e:=.mk 4 mn mx [] [k]) (show(4:Int)≠3 from by decide) hC
  refine⟨fun n R=>?_,fun _ n R=>?_,fun _ n R=>?_,fun n R=>?_,fun _ R=>?_⟩
  ·rw[e4];exact zvh hD n R
  ·rw[e2];exact hB n R
  ·rw[e3];exact hC n R
  ·rw[e0];exact hD n R
  ·rw[e2];exact hf R
where
 fm4_f (k:Rx) (hv:vns k=true) (R:List U):¬z5s (mkU z (fm k 4)++R)∧noQ (mkU z (fm k 4)++R):=by
  obtain⟨op,mn,mx,rs,ks⟩:=k
  rw[vns,zA7]at hv
  rcases z5z hv.1 with⟨rfl,rfl,rfl,rfl,hr⟩|⟨rfl,rfl,rfl,rfl,_⟩|⟨rfl,rfl,rfl,rfl,_⟩|⟨rfl,rfl,⟨k,rfl⟩,_⟩
  ·have e:fm (.mk 1 0 0 rs []) 4=zml rs:=by rw[fm,zAz rfl]
   rw[e]
   have:=zg3 (z:=z) hr R
   exact⟨this.1,this.2.1⟩
  ·have e4:fm (.mk 2 0 0 [] ks) 4=[40]++fmC ks++[41]:=by rw[fm,zAy (by decide),zAz rfl];rfl
   rw[e4];have:=zy0 (z:=z) (fmC ks) R;exact⟨this.1,this.2.1⟩
  ·have e4:fm (.mk 3 0 0 [] ks) 4=[40]++fmU ks++[41]:=by rw[fm,zAy (by decide),zAy (by decide),zAz rfl];rfl
   rw[e4];have:=zy0 (z:=z) (fmU ks) R;exact⟨this.1,this.2.1⟩
  ·have e4:fm (.mk 4 mn mx [] [k]) 4=[40]++(fm1 [k]++zew mn mx)++[41]:=by rw[fm,zAy (by decide),zAy (by decide),zAy (by decide)];rfl
   rw[e4];have:=zy0 (z:=z) (fm1 [k]++zew mn mx) R;exact⟨this.1,this.2.1⟩
end
end Go.Rx
namespace Go.Rx
abbrev Lan:=List Int→Prop
theorem za9{u v:List Int}(e:[]=u++v):u=[]∧v=[]:=List.append_eq_nil_iff.1 e.symm
def cat(a b:Lan):Lan:=fun w=>∃u v,w=u++v∧a u∧b v
def eps:Lan:=fun w=>w=[]
def pow(a:Lan):Nat→Lan
 | 0=>eps
 | n+1=>cat a (pow a n)
def star(a:Lan):Lan:=fun w=>∃n,pow a n w
theorem zhf(a:Lan)(w:List Int):cat a eps w↔a w:=by
 constructor
 ·rintro⟨u,v,rfl,h,rfl⟩;simpa using h
 ·intro h;exact⟨w,[],by simp,h,rfl⟩
theorem zlb(a:Lan)(w:List Int):cat eps a w↔a w:=by
 constructor
 ·rintro⟨u,v,rfl,rfl,h⟩;simpa using h
 ·intro h;exact⟨[],w,rfl,rfl,h⟩
theorem z9y(a b c:Lan)(w:List Int):cat (cat a b) c w↔cat a (cat b c) w:=by
 constructor
 ·rintro⟨_,v,rfl,⟨x,y,rfl,h1,h2⟩,h3⟩;exact⟨x,y++v,by simp,h1,y,v,rfl,h2,h3⟩
 ·rintro⟨x,_,rfl,h1,y,v,rfl,h2,h3⟩;exact⟨x++y,v,by simp,⟨x,y,rfl,h1,h2⟩,h3⟩
theorem z6i{a a' b b':Lan}(h:∀w,a w↔a' w)(h':∀w,b w↔b' w)(w:List Int):cat a b w↔cat a' b' w:=by
 constructor
 ·rintro⟨u,v,e,h1,h2⟩;exact⟨u,v,e,(h u).1 h1,(h' v).1 h2⟩
 ·rintro⟨u,v,e,h1,h2⟩;exact⟨u,v,e,(h u).2 h1,(h' v).2 h2⟩
theorem pow_congr{a b:Lan}(h:∀w,a w↔b w):∀n w,pow a n w↔pow b n w
 | 0,w=>Iff.rfl
 | n+1,w=>z6i h (pow_congr h n) w
theorem pow_add(a:Lan):∀(m n:Nat) (w:List Int),pow a (m+n) w↔cat (pow a m) (pow a n) w
 | 0,n,w=>by rw[Nat.zero_add];exact(zlb _ w).symm
 | m+1,n,w=>by
  rw[show m+1+n=(m+n)+1 by omega]
  exact(z6i (fun _=>Iff.rfl) (pow_add a m n) w).trans (z9y a (pow a m) (pow a n) w).symm
theorem pow_one(a:Lan)(w:List Int):pow a 1 w↔a w:=zhf a w
theorem zg8{a:Lan}{w:List Int}(h:star a w):w=[]∨∃u v,u≠[]∧w=u++v∧a u∧star a v:=by
 obtain⟨n,h⟩:=h
 induction n generalizing w with
 | zero=>exact .inl h
 | succ n ih =>
  obtain⟨u,v,rfl,h1,h2⟩:=h
  by_cases hu:u=[]
  ·subst hu;exact ih h2
  ·exact .inr ⟨u,v,hu,rfl,h1,n,h2⟩
theorem zv2{a:Lan}{u v:List Int}(h:a u)(h':star a v):star a (u++v):=by
 obtain⟨n,h'⟩:=h'
 exact⟨n+1,u,v,rfl,h,h'⟩
theorem zn3(a:Lan):star a []:=⟨0,rfl⟩
mutual
def L(ok:Int→List (Int × Int)→Bool):Rx→Lan
 | .mk op mn mx rs ks=>fun w=>if op=1 then ∃c,w=[c]∧ok c rs=true else if op=2 then LC ok ks w else if op=3 then LU ok ks w
  else ∃n:Nat,mn≤n∧(mx=-1∨(n:Int)≤mx)∧pow (L1 ok ks) n w
def LC(ok:Int→List (Int × Int)→Bool):List Rx→Lan
 | []=>eps
 | k::ks=>cat (L ok k) (LC ok ks)
def LU(ok:Int→List (Int × Int)→Bool):List Rx→Lan
 | []=>fun _=>False
 | k::ks=>fun w=>L ok k w∨LU ok ks w
def L1(ok:Int→List (Int × Int)→Bool):List Rx→Lan
 | []=>eps
 | k::_=>L ok k
end
section
variable(F:Nat→Nat→Prop)(A:Nat→Int→Prop)
def Tl(last:Nat→Prop):Nat→List Int→Prop
 | i,[]=>last i
 | i,c::w=>∃j,F i j∧A j c∧Tl last j w
def Lg(first last:Nat→Prop)(nul:Prop):Lan
 | []=>nul
 | c::w=>∃j,first j∧A j c∧Tl F A last j w
end
theorem z8g{F F':Nat→Nat→Prop}{A A':Nat→Int→Prop}{last last':Nat→Prop}{R:Nat→Prop}(hF:∀i j,R i→(F i j↔F' i j))(hR:∀i j,R i→F i j→R j)(hA:∀i c,R i→(A i c↔A' i c))(hl:∀i,R i→(last i↔last' i)) :
 ∀(w:List Int) (i:Nat),R i→(Tl F A last i w↔Tl F' A' last' i w)
 | [],i,hi=>hl i hi
 | c::w,i,hi=>by
  constructor
  ·rintro⟨j,h1,h2,h3⟩
   have hj:=hR i j hi h1
   exact⟨j,(hF i j hi).1 h1,(hA j c hj).1 h2,(z8g hF hR hA hl w j hj).1 h3⟩
  ·rintro⟨j,h1,h2,h3⟩
   have h1:=(hF i j hi).2 h1
   have hj:=hR i j hi h1
   exact⟨j,h1,(hA j c hj).2 h2,(z8g hF hR hA hl w j hj).2 h3⟩
theorem zci{F F':Nat→Nat→Prop}{A A':Nat→Int→Prop}{first first' last last':Nat→Prop}{nul nul':Prop}{R:Nat→Prop}(hF:∀i j,R i→(F i j↔F' i j))(hR:∀i j,R i→F i j→R j)(hA:∀i c,R i→(A i c↔A' i c))(hl:∀i,R i→(last i↔last' i))
 (hf:∀i,first i↔first' i) (hfR:∀i,first i→R i) (hn:nul↔nul'):∀w,Lg F A first last nul w↔Lg F' A' first' last' nul' w
 | []=>hn
 | c::w=>by
  constructor
  ·rintro⟨j,h1,h2,h3⟩
   have hj:=hfR j h1
   exact⟨j,(hf j).1 h1,(hA j c hj).1 h2,(z8g hF hR hA hl w j hj).1 h3⟩
  ·rintro⟨j,h1,h2,h3⟩
   have h1:=(hf j).2 h1
   have hj:=hfR j h1
   exact⟨j,h1,(hA j c hj).2 h2,(z8g hF hR hA hl w j hj).2 h3⟩
section
variable{F:Nat→Nat→Prop}{A:Nat→Int→Prop}{Ra Rb fa la fb lb:Nat→Prop}{na nb:Prop}
theorem zbb(hab:∀i,Ra i→Rb i→False)(hFb:∀i j,Rb i→F i j→Rb j)(hla:∀i,la i→Ra i) :
 ∀(w:List Int) (i:Nat),Rb i→(Tl (fun i j=>F i j∨la i∧fb j) A (fun i=>lb i∨nb∧la i) i w↔Tl F A lb i w)
 | [],i,hi=>⟨fun h=>h.elim id fun h=>(hab i (hla i h.2) hi).elim,.inl⟩
 | c::w,i,hi=>by
  constructor
  ·rintro⟨j,h1|h1,h2,h3⟩
   ·have hj:=hFb i j hi h1
    exact⟨j,h1,h2,(zbb hab hFb hla w j hj).1 h3⟩
   ·exact(hab i (hla i h1.1) hi).elim
  ·rintro⟨j,h1,h2,h3⟩
   have hj:=hFb i j hi h1
   exact⟨j,.inl h1,h2,(zbb hab hFb hla w j hj).2 h3⟩
theorem zgm(hab:∀i,Ra i→Rb i→False)(hFa:∀i j,Ra i→F i j→Ra j)(hFb:∀i j,Rb i→F i j→Rb j)(hla:∀i,la i→Ra i)(hlb:∀i,lb i→Rb i)(hfb:∀i,fb i→Rb i) :
 ∀(w:List Int) (i:Nat),Ra i→(Tl (fun i j=>F i j∨la i∧fb j) A (fun i=>lb i∨nb∧la i) i w↔∃u v,w=u++v∧Tl F A la i u∧Lg F A fb lb nb v)
 | [],i,hi=>by
  constructor
  ·rintro(h|h)
   ·exact(hab i hi (hlb i h)).elim
   ·exact⟨[],[],rfl,h.2,h.1⟩
  ·rintro⟨u,v,e,h1,h2⟩
   obtain⟨rfl,rfl⟩:=za9 e
   exact .inr ⟨h2,h1⟩
 | c::w,i,hi=>by
  constructor
  ·rintro⟨j,h1|h1,h2,h3⟩
   ·obtain⟨u,v,rfl,h4,h5⟩:=(zgm hab hFa hFb hla hlb hfb w j (hFa i j hi h1)).1 h3
    exact⟨c::u,v,rfl,⟨j,h1,h2,h4⟩,h5⟩
   ·exact⟨[],c::w,rfl,h1.1,j,h1.2,h2,(zbb hab hFb hla w j (hfb j h1.2)).1 h3⟩
  ·rintro⟨u,v,e,h1,h2⟩
   cases u with
   | nil =>
    exact zD115
   | cons d u =>
    simp only[List.cons_append,List.cons.injEq]at e
    obtain⟨rfl,rfl⟩:=e
    obtain⟨j,h3,h4,h5⟩:=h1
    exact⟨j,.inl h3,h4,(zgm hab hFa hFb hla hlb hfb (u++v) j (hFa i j hi h3)).2 ⟨u,v,rfl,h5,h2⟩⟩
theorem y93(hab:∀i,Ra i→Rb i→False)(hFa:∀i j,Ra i→F i j→Ra j)(hFb:∀i j,Rb i→F i j→Rb j)(hla:∀i,la i→Ra i)(hlb:∀i,lb i→Rb i)(hfa:∀i,fa i→Ra i)(hfb:∀i,fb i→Rb i)(w:List Int) :
 Lg (fun i j=>F i j∨la i∧fb j) A (fun i=>fa i∨na∧fb i) (fun i=>lb i∨nb∧la i) (na∧nb) w↔cat (Lg F A fa la na) (Lg F A fb lb nb) w:=by
 cases w with
 | nil =>
  constructor
  ·rintro⟨h1,h2⟩;exact⟨[],[],rfl,h1,h2⟩
  ·rintro⟨u,v,e,h1,h2⟩
   obtain⟨rfl,rfl⟩:=za9 e
   exact⟨h1,h2⟩
 | cons c w =>
  constructor
  ·rintro⟨j,h1|h1,h2,h3⟩
   ·obtain⟨u,v,rfl,h4,h5⟩:=(zgm hab hFa hFb hla hlb hfb w j (hfa j h1)).1 h3
    exact⟨c::u,v,rfl,⟨j,h1,h2,h4⟩,h5⟩
   ·exact⟨[],c::w,rfl,h1.1,j,h1.2,h2,(zbb hab hFb hla w j (hfb j h1.2)).1 h3⟩
  ·rintro⟨u,v,e,h1,h2⟩
   cases u with
   | nil =>
    exact zD115
   | cons d u =>
    simp only[List.cons_append,List.cons.injEq]at e
    obtain⟨rfl,rfl⟩:=e
    obtain⟨j,h3,h4,h5⟩:=h1
    exact⟨j,.inl h3,h4,(zgm hab hFa hFb hla hlb hfb (u++v) j (hfa j h3)).2 ⟨u,v,rfl,h5,h2⟩⟩
theorem ybk(w:List Int)(hab:∀i,Ra i→Rb i→False)(hFa:∀i j,Ra i→F i j→Ra j)(hFb:∀i j,Rb i→F i j→Rb j)(hla:∀i,la i→Ra i)(hlb:∀i,lb i→Rb i)(hfa:∀i,fa i→Ra i)(hfb:∀i,fb i→Rb i) :
 Lg F A (fun i=>fa i∨fb i) (fun i=>la i∨lb i) (na∨nb) w↔Lg F A fa la na w∨Lg F A fb lb nb w:=by
 have ha:∀w i,Ra i→(Tl F A (fun i=>la i∨lb i) i w↔Tl F A la i w):=fun w i hi=>z8g (R:=Ra) (fun _ _ _=>Iff.rfl) hFa (fun _ _ _=>Iff.rfl) (fun i hi=>⟨fun h=>h.elim id fun h=>(hab i hi (hlb i h)).elim,.inl⟩) w i hi
 have hb:∀w i,Rb i→(Tl F A (fun i=>la i∨lb i) i w↔Tl F A lb i w):=fun w i hi=>z8g (R:=Rb) (fun _ _ _=>Iff.rfl) hFb (fun _ _ _=>Iff.rfl) (fun i hi=>⟨fun h=>h.elim (fun h=>(hab i (hla i h) hi).elim) id,.inr⟩) w i hi
 cases w with
 | nil=>exact Iff.rfl
 | cons c w =>
  constructor
  ·rintro⟨j,h1|h1,h2,h3⟩
   ·exact .inl ⟨j,h1,h2,(ha w j (hfa j h1)).1 h3⟩
   ·exact .inr ⟨j,h1,h2,(hb w j (hfb j h1)).1 h3⟩
  ·rintro(⟨j,h1,h2,h3⟩|⟨j,h1,h2,h3⟩)
   ·exact⟨j,.inl h1,h2,(ha w j (hfa j h1)).2 h3⟩
   ·exact⟨j,.inr h1,h2,(hb w j (hfb j h1)).2 h3⟩
theorem z8z:∀(n:Nat) (w:List Int) (i:Nat),w.length≤n→(Tl (fun i j=>F i j∨la i∧fa j) A la i w↔∃u v,w=u++v∧Tl F A la i u∧star (Lg F A fa la na) v)
 | n,[],i,_=>by
  exact zD125
 | 0,c::w,i,h=>by simp at h
 | n+1,c::w,i,hn=>by
  have hw:w.length≤n:=by rw[zAk]at hn;omega
  constructor
  ·rintro⟨j,h1|h1,h2,h3⟩
   ·obtain⟨u,v,rfl,h4,h5⟩:=(z8z n w j hw).1 h3
    exact⟨c::u,v,rfl,⟨j,h1,h2,h4⟩,h5⟩
   ·obtain⟨u,v,rfl,h4,h5⟩:=(z8z n w j hw).1 h3
    exact⟨[],c::(u++v),rfl,h1.1,zv2 (u:=c::u) ⟨j,h1.2,h2,h4⟩ h5⟩
  ·rintro⟨u,v,e,h1,h2⟩
   cases u with
   | nil =>
    simp only[List.nil_append]at e;subst e
    rcases zg8 h2 with h|⟨x,y,hx,e,h3,h4⟩
    ·simp at h
    ·cases x with
     | nil=>exact absurd rfl hx
     | cons d x =>
      simp only[List.cons_append,List.cons.injEq]at e
      obtain⟨rfl,rfl⟩:=e
      obtain⟨j,h5,h6,h7⟩:=h3
      exact⟨j,.inr ⟨h1,h5⟩,h6,(z8z n (x++y) j hw).2 ⟨x,y,rfl,h7,h4⟩⟩
   | cons d u =>
    simp only[List.cons_append,List.cons.injEq]at e
    obtain⟨rfl,rfl⟩:=e
    obtain⟨j,h3,h4,h5⟩:=h1
    exact⟨j,.inl h3,h4,(z8z n (u++v) j hw).2 ⟨u,v,rfl,h5,h2⟩⟩
theorem y61(w:List Int):Lg (fun i j=>F i j∨la i∧fa j) A fa la na w↔cat (Lg F A fa la na) (star (Lg F A fa la na)) w:=by
 cases w with
 | nil =>
  exact zD125
 | cons c w =>
  constructor
  ·rintro⟨j,h1,h2,h3⟩
   obtain⟨u,v,rfl,h4,h5⟩:=(z8z (na:=na) _ w j (zAj _)).1 h3
   exact⟨c::u,v,rfl,⟨j,h1,h2,h4⟩,h5⟩
  ·rintro⟨u,v,e,h1,h2⟩
   cases u with
   | nil =>
    simp only[List.nil_append]at e;subst e
    rcases zg8 h2 with h|⟨x,y,hx,e,h3,h4⟩
    ·simp at h
    ·cases x with
     | nil=>exact absurd rfl hx
     | cons d x =>
      simp only[List.cons_append,List.cons.injEq]at e
      obtain⟨rfl,rfl⟩:=e
      obtain⟨j,h5,h6,h7⟩:=h3
      exact⟨j,h5,h6,(z8z (na:=na) _ (x++y) j (zAj _)).2 ⟨x,y,rfl,h7,h4⟩⟩
   | cons d u =>
    simp only[List.cons_append,List.cons.injEq]at e
    obtain⟨rfl,rfl⟩:=e
    obtain⟨j,h3,h4,h5⟩:=h1
    exact⟨j,h3,h4,(z8z (na:=na) _ (u++v) j (zAj _)).2 ⟨u,v,rfl,h5,h2⟩⟩
end
end Go.Rx
namespace Go.Rx
theorem zh0{α:Type}{l:List α}{i:Nat}{d:α}(h:l.length≤i):l.getD i d=d:=by simp[List.getD,zAv h]
theorem zuv{α:Type}(a b:List α)(d:α){i:Nat}(h:i<a.length):(a++b).getD i d=a.getD i d:=by simp[List.getD,zAb h]
theorem znd{α:Type}(a b:List α)(d:α){i:Nat}(h:a.length≤i):(a++b).getD i d=b.getD (i-a.length) d:=by simp[List.getD,zAg h]
structure Tb where
 lv:List (List (Int × Int))
 fo:List Nat
structure Pt where
 f:Nat
 l:Nat
 nu:Bool
def lnk(fr to:Nat):Nat→List Nat→List Nat
 | _,[]=>[]
 | i,x::r=>(if fr.testBit i=true then x ||| to else x)::lnk fr to (i+1) r
def link(t:Tb)(fr to:Nat):Tb:=⟨t.lv,lnk fr to 0 t.fo⟩
def z8q(a b:Pt)(t:Tb):Tb × Pt:=(link t a.l b.f,⟨if a.nu=true then a.f ||| b.f else a.f,if b.nu=true then b.l ||| a.l else b.l,a.nu&&b.nu⟩)
def ptE:Pt:=⟨0,0,true⟩
def ptN:Pt:=⟨0,0,false⟩
def por(a b:Pt):Pt:=⟨a.f ||| b.f,a.l ||| b.l,a.nu||b.nu⟩
def same(t:Tb)(r:Tb × Pt):Bool:=decide (r.1.lv.length=t.lv.length)
def rpl(b:Tb→Tb × Pt)(pl:Bool):Nat→Tb→Pt→Tb × Pt × Bool
 | 0,t,p=>(t,p,false)
 | n+1,t,p=>if same t (b t)=true then((b t).1,ptE,true)else
  rpl b pl n (z8q p (b t).2 (if(pl&&decide (n=0))=true then link (b t).1 (b t).2.l (b t).2.f else(b t).1)).1 (z8q p (b t).2 (if(pl&&decide (n=0))=true then link (b t).1 (b t).2.l (b t).2.f else(b t).1)).2
def opt(b:Tb→Tb × Pt):Nat→Tb→Tb × Pt
 | 0,t=>(t,ptE)
 | n+1,t=>if same t (b t)=true then((b t).1,ptE)else
  ((z8q (b t).2 (opt b n (b t).1).2 (opt b n (b t).1).1).1,⟨(z8q (b t).2 (opt b n (b t).1).2 (opt b n (b t).1).1).2.f,(z8q (b t).2 (opt b n (b t).1).2 (opt b n (b t).1).1).2.l,true⟩)
def rp(b:Tb→Tb × Pt)(mn mx:Int)(t:Tb):Tb × Pt :=
 let r:=rpl b (decide (mx<0)) mn.toNat t ptE
 if r.2.2=true then(r.1,r.2.1)
 else if mx<0∧mn=0 then(link (b r.1).1 (b r.1).2.l (b r.1).2.f,⟨(b r.1).2.f,(b r.1).2.l,true⟩)
 else if mn<mx then z8q r.2.1 (opt b (mx-mn).toNat r.1).2 (opt b (mx-mn).toNat r.1).1
 else(r.1,r.2.1)
mutual
def bd:Rx→Tb→Tb × Pt
 | .mk op mn mx rs ks,t=>if op=1 then(⟨t.lv++[rs],t.fo++[0]⟩,⟨2 ^ t.lv.length,2 ^ t.lv.length,false⟩)else if op=2 then bdC ks t ptE else if op=3 then bdU ks t ptN else rp (fun t=>bd1 ks t) mn mx t
def bdC:List Rx→Tb→Pt→Tb × Pt
 | [],t,p=>(t,p)
 | k::ks,t,p=>bdC ks (z8q p (bd k t).2 (bd k t).1).1 (z8q p (bd k t).2 (bd k t).1).2
def bdU:List Rx→Tb→Pt→Tb × Pt
 | [],t,p=>(t,p)
 | k::ks,t,p=>bdU ks (bd k t).1 (por p (bd k t).2)
def bd1:List Rx→Tb→Tb × Pt
 | [],t=>(t,ptE)
 | k::_,t=>bd k t
end
abbrev bit(x:Nat)(i:Nat):Prop:=x.testBit i=true
def FoR(t:Tb)(i j:Nat):Prop:=(t.fo.getD i 0).testBit j=true
def AcR(ok:Int→List (Int × Int)→Bool)(t:Tb)(j:Nat)(c:Int):Prop:=ok c (t.lv.getD j [])=true
theorem zap(fr to:Nat):∀(l:List Nat) (i:Nat),(lnk fr to i l).length=l.length
 | [],_=>rfl
 | x::l,i=>by rw[lnk,zAk,zap fr to l,zAk]
theorem zbn(fr to:Nat):∀(l:List Nat) (i k:Nat),k<l.length→(lnk fr to i l).getD k 0=if fr.testBit (i+k)=true then l.getD k 0 ||| to else l.getD k 0
 | [],_,k,h=>by simp at h
 | x::l,i,0,h=>by simp[lnk]
 | x::l,i,k+1,h=>by
  have:=zbn fr to l (i+1) k (by simpa using h)
  rw[lnk,List.getD_cons_succ,this,List.getD_cons_succ,show i+1+k=i+(k+1) by omega]
theorem zi0{t:Tb}{fr to:Nat}(h:∀i,bit fr i→i<t.fo.length)(i j:Nat):FoR (link t fr to) i j↔FoR t i j∨bit fr i∧bit to j:=by
 unfold FoR link
 simp only
 by_cases hi:i<t.fo.length
 ·rw[zbn fr to t.fo 0 i hi,Nat.zero_add]
  by_cases hb:fr.testBit i=true
  ·rw[zAz hb,Nat.testBit_or,zAu];simp only[bit,hb,true_and]
  ·rw[zAy hb];exact⟨.inl,fun h=>h.elim id fun h=>absurd h.1 hb⟩
 ·have h1:(lnk fr to 0 t.fo).getD i 0=0:=by
   exact zh0 (by rw[zap];omega)
  have h2:t.fo.getD i 0=0:=by exact zh0 (by omega)
  rw[h1,h2]
  simp only[Nat.zero_testBit,Bool.false_eq_true,false_or,false_iff,not_and]
  intro hb;exact absurd (h i hb) hi
structure Ex(t t':Tb):Prop where
 lv:∃new,t'.lv=t.lv++new
 len:t'.fo.length=t'.lv.length
 old:∀i,i<t.lv.length→t'.fo.getD i 0=t.fo.getD i 0
 row:∀i j,t.lv.length≤i→FoR t' i j→t.lv.length≤j∧j<t'.lv.length
theorem Ex.le{t t':Tb}(h:Ex t t'):t.lv.length≤t'.lv.length:=by
 obtain⟨new,e⟩:=h.lv;rw[e,zAa];omega
theorem Ex.refl{t:Tb}(h:t.fo.length=t.lv.length):Ex t t:=⟨⟨[],by simp⟩,h,fun _ _=>rfl,fun i j hi hf=>by
 unfold FoR at hf
 rw[zh0 (by omega)]at hf
 simp at hf⟩
theorem Ex.trans{t t1 t2:Tb}(h:Ex t t1)(k:Ex t1 t2):Ex t t2:=by
 refine⟨?_,k.len,fun i hi=>(k.old i (zAx hi h.le)).trans (h.old i hi),fun i j hi hf=>?_⟩
 ·obtain⟨a,ha⟩:=h.lv;obtain⟨b,hb⟩:=k.lv;exact⟨a++b,by rw[hb,ha,zAl]⟩
 ·by_cases hi1:i<t1.lv.length
  ·have:FoR t1 i j:=by unfold FoR at hf⊢;rw[←k.old i hi1];exact hf
   have h1:=h.row i j hi this
   exact⟨h1.1,zAx h1.2 k.le⟩
  ·have h1:=k.row i j (by omega) hf
   exact⟨Nat.le_trans h.le h1.1,h1.2⟩
theorem Ex.link{t t1:Tb}(h:Ex t t1){fr to:Nat}(hf:∀i,bit fr i→t.lv.length≤i∧i<t1.lv.length)(ht:∀i,bit to i→t.lv.length≤i∧i<t1.lv.length):Ex t (link t1 fr to):=by
 have hfo:∀i,bit fr i→i<t1.fo.length:=fun i hi=>by rw[h.len];exact(hf i hi).2
 refine⟨h.lv,by show(lnk fr to 0 t1.fo).length=_;rw[zap];exact h.len,fun i hi=>?_,fun i j hi hfl=>?_⟩
 ·show(lnk fr to 0 t1.fo).getD i 0=_
  have hlt:i<t1.fo.length:=by rw[h.len];exact zAx hi h.le
  rw[zbn fr to t1.fo 0 i hlt,Nat.zero_add,zAy,h.old i hi]
  intro hb
  have:=(hf i hb).1
  omega
 ·rw[zi0 hfo]at hfl
  rcases hfl with h1|⟨h1,h2⟩
  ·exact h.row i j hi h1
  ·exact ht j h2
structure Bl(ok:Int→List (Int × Int)→Bool)(X:Lan)(t t':Tb)(p:Pt):Prop where
 ex:Ex t t'
 fst:∀i,bit p.f i→t.lv.length≤i∧i<t'.lv.length
 lst:∀i,bit p.l i→t.lv.length≤i∧i<t'.lv.length
 lan:∀w,Lg (FoR t') (AcR ok t') (bit p.f) (bit p.l) (p.nu=true) w↔X w
section
variable{ok:Int→List (Int × Int)→Bool}{X Y:Lan}{t t1 t2:Tb}{a b p:Pt}
theorem Bl.iff(h:Bl ok X t t1 p)(e:∀w,X w↔Y w):Bl ok Y t t1 p:=⟨h.ex,h.fst,h.lst,fun w=>(h.lan w).trans (e w)⟩
theorem zhj{F:Nat→Nat→Prop}{A:Nat→Int→Prop}{last first:Nat→Prop}{nul:Prop}(h:∀i,¬first i)(w:List Int):Lg F A first last nul w↔w=[]∧nul:=by
 cases w with
 | nil=>exact⟨fun h=>⟨rfl,h⟩,fun h=>h.2⟩
 | cons c w=>exact⟨fun⟨j,hj,_⟩=>(h j hj).elim,fun h=>by simp at h⟩
theorem y79(i:Nat):¬bit 0 i:=by simp[bit]
theorem Bl.eps(h:Ex t t1):Bl ok eps t t1 ptE:=⟨h,fun i hi=>(y79 i hi).elim,fun i hi=>(y79 i hi).elim,fun w=>(zhj y79 w).trans ⟨fun h=>h.1,fun h=>⟨h,rfl⟩⟩⟩
theorem Bl.none(h:Ex t t1):Bl ok (fun _=>False) t t1 ptN:=⟨h,fun i hi=>(y79 i hi).elim,fun i hi=>(y79 i hi).elim,fun w=>(zhj y79 w).trans ⟨fun h=>by simp[ptN]at h,fun h=>h.elim⟩⟩
theorem Bl.later(h:Bl ok X t t1 a)(k:Ex t1 t2)(w:List Int):Lg (FoR t2) (AcR ok t2) (bit a.f) (bit a.l) (a.nu=true) w↔X w:=by
 rw[←h.lan w]
 refine zci (R:=fun i=>t.lv.length≤i∧i<t1.lv.length) (fun i j hi=>?_) (fun i j hi hf=>?_) (fun i c hi=>?_) (fun _ _=>Iff.rfl) (fun _=>Iff.rfl) h.fst Iff.rfl w
 ·unfold FoR;rw[k.old i hi.2]
 ·have:FoR t1 i j:=by unfold FoR at hf⊢;rw[←k.old i hi.2];exact hf
  exact h.ex.row i j hi.1 this
 ·unfold AcR
  obtain⟨new,e⟩:=k.lv
  rw[e,zuv _ _ _ hi.2]
theorem zkd(h:Ex t t1)(k:Ex t1 t2)(i j:Nat)(hi:t.lv.length≤i∧i<t1.lv.length)(hf:FoR t2 i j):t.lv.length≤j∧j<t1.lv.length:=by
 have:FoR t1 i j:=by unfold FoR at hf⊢;rw[←k.old i hi.2];exact hf
 exact h.row i j hi.1 this
theorem Bl.cat(h:Bl ok X t t1 a)(k:Bl ok Y t1 t2 b):Bl ok (cat X Y) t (z8q a b t2).1 (z8q a b t2).2:=by
 have l1:=h.ex.le;have l2:=k.ex.le
 have hfl:∀i,bit a.l i→i<t2.fo.length:=fun i hi=>by rw[k.ex.len];have:=(h.lst i hi).2;omega
 have e1:∀i,bit (z8q a b t2).2.f i↔bit a.f i∨a.nu=true∧bit b.f i:=fun i=>by
  simp only[z8q,bit]
  cases a.nu <;> simp[Nat.testBit_or]
 have e2:∀i,bit (z8q a b t2).2.l i↔bit b.l i∨b.nu=true∧bit a.l i:=fun i=>by
  simp only[z8q,bit]
  cases b.nu <;> simp[Nat.testBit_or]
 have e3:((z8q a b t2).2.nu=true)↔(a.nu=true∧b.nu=true):=by simp[z8q]
 refine⟨(h.ex.trans k.ex).link (fun i hi=>⟨(h.lst i hi).1,zAx (h.lst i hi).2 l2⟩) fun i hi=>⟨Nat.le_trans l1 (k.fst i hi).1,(k.fst i hi).2⟩,fun i hi=>?_,fun i hi=>?_,fun w=>?_⟩
 ·rcases(e1 i).1 hi with h1|⟨_,h1⟩
  ·exact⟨(h.fst i h1).1,zAx (h.fst i h1).2 l2⟩
  ·exact⟨Nat.le_trans l1 (k.fst i h1).1,(k.fst i h1).2⟩
 ·rcases(e2 i).1 hi with h1|⟨_,h1⟩
  ·exact⟨Nat.le_trans l1 (k.lst i h1).1,(k.lst i h1).2⟩
  ·exact⟨(h.lst i h1).1,zAx (h.lst i h1).2 l2⟩
 ·have key:=y93 (F:=FoR t2) (A:=AcR ok t2) (Ra:=fun i=>t.lv.length≤i∧i<t1.lv.length) (Rb:=fun i=>t1.lv.length≤i∧i<t2.lv.length) (fa:=bit a.f) (la:=bit a.l) (fb:=bit b.f) (lb:=bit b.l) (na:=a.nu=true) (nb:=b.nu=true)
   (fun i h1 h2=>by omega) (fun i j hi hf=>zkd h.ex k.ex i j hi hf) (fun i j hi hf=>k.ex.row i j hi.1 hf) h.lst k.lst h.fst k.fst w
  have step:Lg (FoR (z8q a b t2).1) (AcR ok (z8q a b t2).1) (bit (z8q a b t2).2.f) (bit (z8q a b t2).2.l) ((z8q a b t2).2.nu=true) w ↔
   Lg (fun i j=>FoR t2 i j∨bit a.l i∧bit b.f j) (AcR ok t2) (fun i=>bit a.f i∨a.nu=true∧bit b.f i) (fun i=>bit b.l i∨b.nu=true∧bit a.l i) (a.nu=true∧b.nu=true) w :=
   zci (R:=fun _=>True) (fun i j _=>zi0 hfl i j) (fun _ _ _ _=>trivial) (fun _ _ _=>Iff.rfl) (fun i _=>e2 i) e1 (fun _ _=>trivial) e3 w
  exact(step.trans key).trans (z6i (h.later k.ex) k.lan w)
theorem Bl.or(h:Bl ok X t t1 a)(k:Bl ok Y t1 t2 b):Bl ok (fun w=>X w∨Y w) t t2 (por a b):=by
 have l1:=h.ex.le;have l2:=k.ex.le
 have e1:∀i,bit (por a b).f i↔bit a.f i∨bit b.f i:=fun i=>by simp[por,bit,Nat.testBit_or]
 have e2:∀i,bit (por a b).l i↔bit a.l i∨bit b.l i:=fun i=>by simp[por,bit,Nat.testBit_or]
 have e3:((por a b).nu=true)↔(a.nu=true∨b.nu=true):=by simp[por]
 refine⟨h.ex.trans k.ex,fun i hi=>?_,fun i hi=>?_,fun w=>?_⟩
 ·rcases(e1 i).1 hi with h1|h1
  ·exact⟨(h.fst i h1).1,zAx (h.fst i h1).2 l2⟩
  ·exact⟨Nat.le_trans l1 (k.fst i h1).1,(k.fst i h1).2⟩
 ·rcases(e2 i).1 hi with h1|h1
  ·exact⟨(h.lst i h1).1,zAx (h.lst i h1).2 l2⟩
  ·exact⟨Nat.le_trans l1 (k.lst i h1).1,(k.lst i h1).2⟩
 ·have key:=ybk (F:=FoR t2) (A:=AcR ok t2) (Ra:=fun i=>t.lv.length≤i∧i<t1.lv.length) (Rb:=fun i=>t1.lv.length≤i∧i<t2.lv.length) (fa:=bit a.f) (la:=bit a.l) (fb:=bit b.f) (lb:=bit b.l) (na:=a.nu=true) (nb:=b.nu=true)
   w (fun i h1 h2=>by omega) (fun i j hi hf=>zkd h.ex k.ex i j hi hf) (fun i j hi hf=>k.ex.row i j hi.1 hf) h.lst k.lst h.fst k.fst
  have step:Lg (FoR t2) (AcR ok t2) (bit (por a b).f) (bit (por a b).l) ((por a b).nu=true) w ↔
   Lg (FoR t2) (AcR ok t2) (fun i=>bit a.f i∨bit b.f i) (fun i=>bit a.l i∨bit b.l i) (a.nu=true∨b.nu=true) w :=
   zci (R:=fun _=>True) (fun i j _=>Iff.rfl) (fun _ _ _ _=>trivial) (fun _ _ _=>Iff.rfl) (fun i _=>e2 i) e1 (fun _ _=>trivial) e3 w
  exact(step.trans key).trans (or_congr (h.later k.ex w) (k.lan w))
theorem Bl.plus(h:Bl ok X t t1 p):Bl ok (Go.Rx.cat X (star X)) t (link t1 p.l p.f) p:=by
 have hfl:∀i,bit p.l i→i<t1.fo.length:=fun i hi=>by rw[h.ex.len];exact(h.lst i hi).2
 refine⟨h.ex.link h.lst h.fst,h.fst,h.lst,fun w=>?_⟩
 have key:=y61 (F:=FoR t1) (A:=AcR ok t1) (fa:=bit p.f) (la:=bit p.l) (na:=p.nu=true) w
 have step:Lg (FoR (link t1 p.l p.f)) (AcR ok (link t1 p.l p.f)) (bit p.f) (bit p.l) (p.nu=true) w↔Lg (fun i j=>FoR t1 i j∨bit p.l i∧bit p.f j) (AcR ok t1) (bit p.f) (bit p.l) (p.nu=true) w :=
  zci (R:=fun _=>True) (fun i j _=>zi0 hfl i j) (fun _ _ _ _=>trivial) (fun _ _ _=>Iff.rfl) (fun i _=>Iff.rfl) (fun _=>Iff.rfl) (fun _ _=>trivial) Iff.rfl w
 refine(step.trans key).trans (z6i h.lan (fun w=>?_) w)
 exact exists_congr fun n=>pow_congr h.lan n w
theorem Bl.nul(h:Bl ok X t t1 p):Bl ok (fun w=>w=[]∨X w) t t1 ⟨p.f,p.l,true⟩:=by
 refine⟨h.ex,h.fst,h.lst,fun w=>?_⟩
 cases w with
 | nil=>exact⟨fun _=>.inl rfl,fun _=>rfl⟩
 | cons c w =>
  constructor
  ·intro hw;exact .inr ((h.lan (c::w)).1 hw)
  ·rintro(hw|hw)
   ·simp at hw
   ·exact(h.lan (c::w)).2 hw
end
end Go.Rx
namespace Go.Rx
def PW(X:Lan)(pl:Bool)(n:Nat):Lan:=if pl=true∧0<n then cat (pow X n) (star X)else pow X n
structure Kid(ok:Int→List (Int × Int)→Bool)(X:Lan)(P:Int)(b:Tb→Tb × Pt):Prop where
 bl:∀t,t.fo.length=t.lv.length→Bl ok X t (b t).1 (b t).2
 nol:∀t,t.fo.length=t.lv.length→(b t).1.lv.length=t.lv.length→(b t).2.nu=true
 few:∀t,t.fo.length=t.lv.length→((b t).1.lv.length:Int)≤t.lv.length+P
section
variable{ok:Int→List (Int × Int)→Bool}{X:Lan}{P:Int}{b:Tb→Tb × Pt}
theorem Kid.eps(h:Kid ok X P b){t:Tb}(ht:t.fo.length=t.lv.length)(hs:same t (b t)=true)(w:List Int):X w↔w=[]:=by
 rw[same,zA3]at hs
 have h1:=h.bl t ht
 rw[←h1.lan w,zhj fun i hi=>by have:=h1.fst i hi;omega]
 exact⟨fun h=>h.1,fun h2=>⟨h2,h.nol t ht hs⟩⟩
theorem zec(h:∀w,X w↔w=[]):∀n w,pow X n w↔w=[]
 | 0,w=>Iff.rfl
 | n+1,w=>by
  constructor
  ·rintro⟨u,v,rfl,h1,h2⟩
   rw[(h u).1 h1,(zec h n v).1 h2];rfl
  ·rintro rfl;exact⟨[],[],rfl,(h []).2 rfl,(zec h n []).2 rfl⟩
theorem zob(h:Kid ok X P b)(pl:Bool):∀(n:Nat) (t0 t:Tb) (p:Pt) (Z:Lan),Bl ok Z t0 t p →
 ((rpl b pl n t p).2.2=false∧Bl ok (cat Z (PW X pl n)) t0 (rpl b pl n t p).1 (rpl b pl n t p).2.1∧((n=0∧(rpl b pl n t p).2.1=p)∨t.lv.length<(rpl b pl n t p).1.lv.length)) ∨
 ((rpl b pl n t p).2.2=true∧(∀w,X w↔w=[])∧Bl ok Go.Rx.eps t0 (rpl b pl n t p).1 (rpl b pl n t p).2.1∧(rpl b pl n t p).2.1.nu=true)
 | 0,t0,t,p,Z,hz=>.inl ⟨rfl,hz.iff fun w=>by
  have:PW X pl 0=Go.Rx.eps:=by rw[PW,zAy (by simp)];rfl
  rw[this];exact(zhf Z w).symm,.inl ⟨rfl,rfl⟩⟩
 | n+1,t0,t,p,Z,hz=>by
  have ht:=hz.ex.len
  have h1:=h.bl t ht
  rw[rpl]
  by_cases hs:same t (b t)=true
  ·rw[zAz hs]
   exact .inr ⟨rfl,h.eps ht hs,Bl.eps (hz.ex.trans h1.ex),rfl⟩
  rw[zAy hs]
  have hlt:t.lv.length<(b t).1.lv.length:=by
   have:=h1.ex.le
   simp only[same,zA3]at hs
   omega
  have hy:∃Y,Bl ok Y t (if(pl&&decide (n=0))=true then link (b t).1 (b t).2.l (b t).2.f else(b t).1) (b t).2∧∀w,cat Y (PW X pl n) w↔PW X pl (n+1) w:=by
   by_cases hc:(pl&&decide (n=0))=true
   ·rw[zAz hc]
    simp only[zA7,zA3]at hc
    obtain⟨rfl,rfl⟩:=hc
    refine⟨_,h1.plus,fun w=>?_⟩
    have e0:PW X true 0=Go.Rx.eps:=by rw[PW,zAy (by simp)];rfl
    have e1:PW X true (0+1)=cat (pow X 1) (star X):=by rw[PW,zAz (by simp)]
    rw[e0,e1,zhf]
    exact z6i (fun w=>(pow_one X w).symm) (fun _=>Iff.rfl) w
   ·rw[zAy hc]
    refine⟨_,h1,fun w=>?_⟩
    simp only[zA7,zA3,not_and]at hc
    by_cases hp:pl=true
    ·have hn0:=hc hp
     rw[PW,PW,zAz ⟨hp,by omega⟩,zAz ⟨hp,by omega⟩]
     exact(z9y X (pow X n) (star X) w).symm
    ·rw[PW,PW,zAy fun h=>hp h.1,zAy fun h=>hp h.1]
     exact Iff.rfl
  obtain⟨Y,hy1,hy2⟩:=hy
  have hlv:(if(pl&&decide (n=0))=true then link (b t).1 (b t).2.l (b t).2.f else(b t).1).lv=(b t).1.lv:=by split <;> rfl
  generalize (if(pl&&decide (n=0))=true then link (b t).1 (b t).2.l (b t).2.f else(b t).1)=t1 at hy1 hlv
  have hc:=hz.cat hy1
  have hcl:(z8q p (b t).2 t1).1.lv=t1.lv:=rfl
  rcases zob h pl n t0 _ _ _ hc with⟨r1,r2,r3⟩|⟨r1,r2,r3,r4⟩
  ·refine .inl ⟨r1,r2.iff fun w=>(z9y Z Y _ w).trans (z6i (fun _=>Iff.rfl) hy2 w),.inr ?_⟩
   rcases r3 with⟨rfl,_⟩|r3
   ·show t.lv.length<(z8q p (b t).2 t1).1.lv.length
    rw[hcl,hlv];exact hlt
   ·rw[hcl,hlv]at r3;omega
  ·exact .inr ⟨r1,r2,r3,r4⟩
theorem zth(h:Kid ok X P b)(hP:0≤P)(pl:Bool):∀(n:Nat) (t0 t:Tb) (p:Pt) (Z:Lan),Bl ok Z t0 t p→((rpl b pl n t p).1.lv.length:Int)≤t.lv.length+n*P
 | 0,t0,t,p,Z,hz=>by rw[rpl];simp
 | n+1,t0,t,p,Z,hz=>by
  have ht:=hz.ex.len
  have h1:=h.bl t ht
  have h2:=h.few t ht
  have hnP:0≤(n:Int)*P:=Int.mul_nonneg (by omega) hP
  have e:((n+1:Nat):Int)*P=n*P+P:=by rw[show((n+1:Nat):Int)=(n:Int)+1 by omega,Int.add_mul,Int.one_mul]
  rw[rpl,e]
  by_cases hs:same t (b t)=true
  ·rw[zAz hs];simp only;omega
  rw[zAy hs]
  have hy:∃Y,Bl ok Y t (if(pl&&decide (n=0))=true then link (b t).1 (b t).2.l (b t).2.f else(b t).1) (b t).2:=by
   split
   ·exact⟨_,h1.plus⟩
   ·exact⟨_,h1⟩
  obtain⟨Y,hy⟩:=hy
  have hlv:(if(pl&&decide (n=0))=true then link (b t).1 (b t).2.l (b t).2.f else(b t).1).lv=(b t).1.lv:=by split <;> rfl
  generalize (if(pl&&decide (n=0))=true then link (b t).1 (b t).2.l (b t).2.f else(b t).1)=t1 at hy hlv
  have:=zth h hP pl n t0 _ _ _ (hz.cat hy)
  have hcl:(z8q p (b t).2 t1).1.lv=t1.lv:=rfl
  rw[hcl,hlv]at this
  omega
theorem y10:∀(n:Nat) (t:Tb),(opt b n t).2.nu=true
 | 0,t=>rfl
 | n+1,t=>by rw[opt];split <;> rfl
theorem zcq(h:Kid ok X P b)(hP:0≤P):∀(n:Nat) (t:Tb),t.fo.length=t.lv.length→Bl ok (fun w=>∃k,k≤n∧pow X k w) t (opt b n t).1 (opt b n t).2∧((opt b n t).1.lv.length:Int)≤t.lv.length+n*P
 | 0,t,ht=>⟨(Bl.eps (Ex.refl ht)).iff fun w=>⟨fun h=>⟨0,zAj _,h⟩,fun⟨k,hk,h⟩=>by have e:k=0:=Nat.le_zero.1 hk;subst e;exact h⟩,by rw[opt];simp⟩
 | n+1,t,ht=>by
  have h1:=h.bl t ht
  have h2:=h.few t ht
  have hnP:0≤(n:Int)*P:=Int.mul_nonneg (by omega) hP
  have e:((n+1:Nat):Int)*P=n*P+P:=by rw[show((n+1:Nat):Int)=(n:Int)+1 by omega,Int.add_mul,Int.one_mul]
  rw[opt,e]
  by_cases hs:same t (b t)=true
  ·rw[zAz hs]
   have hx:=h.eps ht hs
   refine⟨(Bl.eps h1.ex).iff fun w=>?_,by simp only;omega⟩
   constructor
   ·intro hw;exact⟨0,by omega,hw⟩
   ·rintro⟨k,_,hk⟩;exact(zec hx k w).1 hk
  rw[zAy hs]
  obtain⟨i1,i2⟩:=zcq h hP n (b t).1 h1.ex.len
  refine⟨((h1.cat i1).nul).iff fun w=>?_,?_⟩
  ·constructor
   ·rintro(rfl|⟨u,v,rfl,h3,k,hk,h4⟩)
    ·exact⟨0,by omega,rfl⟩
    ·exact⟨k+1,by omega,u,v,rfl,h3,h4⟩
   ·rintro⟨k,hk,h3⟩
    cases k with
    | zero=>exact .inl h3
    | succ k =>
     obtain⟨u,v,rfl,h4,h5⟩:=h3
     exact .inr ⟨u,v,rfl,h4,k,by omega,h5⟩
  ·show((opt b n (b t).1).1.lv.length:Int)≤_
   omega
theorem y59(h:Kid ok X P b)(hP:0≤P){mn mx:Int}(h0:0≤mn)(hm:mx=-1∨mn≤mx):Kid ok (fun w=>∃n:Nat,mn≤n∧(mx=-1∨(n:Int)≤mx)∧pow X n w) (rep mn mx P) (rp b mn mx):=by
 have main:∀t,t.fo.length=t.lv.length→Bl ok (fun w=>∃n:Nat,mn≤n∧(mx=-1∨(n:Int)≤mx)∧pow X n w) t (rp b mn mx t).1 (rp b mn mx t).2∧((rp b mn mx t).1.lv.length=t.lv.length→(rp b mn mx t).2.nu=true)∧((rp b mn mx t).1.lv.length:Int)≤t.lv.length+rep mn mx P:=by
  intro t ht
  have hz:=Bl.eps (ok:=ok) (Ex.refl ht)
  have hr:=zob h (decide (mx<0)) mn.toNat t t ptE Go.Rx.eps hz
  have hfew:=zth h hP (decide (mx<0)) mn.toNat t t ptE Go.Rx.eps hz
  have hmn:((mn.toNat:Nat):Int)=mn:=by omega
  rw[hmn]at hfew
  have hrep0:mn*P≤rep mn mx P:=by
   rw[rep]
   split
   ·rw[Int.mul_comm P];exact Int.mul_le_mul_of_nonneg_right (by omega) hP
   ·rw[Int.mul_comm P];exact Int.mul_le_mul_of_nonneg_right (by omega) hP
  rw[rp]
  rcases hr with⟨r1,r2,r3⟩|⟨r1,r2,r3,r4⟩
  ·rw[zAy (by rw[r1];simp)]
   have r2':=r2.iff (zlb _)
   have hr1len:=r2.ex.len
   by_cases c1:mx<0∧mn=0
   ·rw[zAz c1]
    have hmx:mx=-1:=by omega
    have e0:rpl b (decide (mx<0)) mn.toNat t ptE=(t,ptE,false):=by rw[show mn.toNat=0 by omega];rfl
    rw[e0]
    have h1:=h.bl t ht
    have h2:=h.few t ht
    refine⟨(h1.plus.nul).iff fun w=>?_,fun _=>rfl,?_⟩
    ·constructor
     ·rintro(rfl|⟨u,v,rfl,h3,n,h4⟩)
      ·exact⟨0,by omega,.inl hmx,rfl⟩
      ·exact⟨n+1,by omega,.inl hmx,u,v,rfl,h3,h4⟩
     ·rintro⟨n,_,_,h3⟩
      cases n with
      | zero=>exact .inl h3
      | succ n =>
       obtain⟨u,v,rfl,h4,h5⟩:=h3
       exact .inr ⟨u,v,rfl,h4,n,h5⟩
    ·show((b t).1.lv.length:Int)≤_
     rw[rep,zAz hmx,c1.2,show max (0:Int) 1=1 by decide,Int.mul_one];exact h2
   rw[zAy c1]
   by_cases c2:mn<mx
   ·rw[zAz c2]
    obtain⟨o1,o2⟩:=zcq h hP (mx-mn).toNat (rpl b (decide (mx<0)) mn.toNat t ptE).1 hr1len
    have hpl:decide (mx<0)=false:=by rw[zA5];omega
    have hd:(((mx-mn).toNat:Nat):Int)=mx-mn:=by omega
    rw[hd]at o2
    refine⟨(r2'.cat o1).iff fun w=>?_,fun hl=>?_,?_⟩
    ·rw[hpl]
     have e1:PW X false mn.toNat=pow X mn.toNat:=by rw[PW,zAy (by simp)]
     rw[e1]
     constructor
     ·rintro⟨u,v,rfl,h3,k,hk,h4⟩
      exact⟨mn.toNat+k,by omega,.inr (by omega),(pow_add X _ _ _).2 ⟨u,v,rfl,h3,h4⟩⟩
     ·rintro⟨n,h3,h4,h5⟩
      rw[show n=mn.toNat+(n-mn.toNat) by omega,pow_add]at h5
      obtain⟨u,v,rfl,h6,h7⟩:=h5
      exact⟨u,v,rfl,h6,n-mn.toNat,by omega,h7⟩
    ·have hl':(opt b (mx-mn).toNat (rpl b (decide (mx<0)) mn.toNat t ptE).1).1.lv.length=t.lv.length:=hl
     have hle:=o1.ex.le
     have hle2:=r2.ex.le
     rcases r3 with⟨_,r3⟩|r3
     ·show(_&&_)=true
      rw[r3,y10];rfl
     ·omega
    ·show((opt b (mx-mn).toNat (rpl b (decide (mx<0)) mn.toNat t ptE).1).1.lv.length:Int)≤_
     rw[rep,zAy (by omega),Int.mul_comm P]
     have:mx*P=mn*P+(mx-mn)*P:=by rw[←Int.add_mul];congr 1;omega
     omega
   ·rw[zAy c2]
    refine⟨r2'.iff fun w=>?_,fun hl=>?_,by simp only;omega⟩
    ·rw[PW]
     by_cases c3:decide (mx<0)=true∧0<mn.toNat
     ·rw[zAz c3]
      have hmx:mx=-1:=by have:=c3.1;rw[zA3]at this;omega
      constructor
      ·rintro⟨u,v,rfl,h3,n,h4⟩
       exact⟨mn.toNat+n,by omega,.inl hmx,(pow_add X _ _ _).2 ⟨u,v,rfl,h3,h4⟩⟩
      ·rintro⟨n,h3,h4,h5⟩
       rw[show n=mn.toNat+(n-mn.toNat) by omega,pow_add]at h5
       obtain⟨u,v,rfl,h6,h7⟩:=h5
       exact⟨u,v,rfl,h6,n-mn.toNat,h7⟩
     ·rw[zAy c3]
      have hmx:¬mx<0:=fun hlt=>by
       have h1:¬(0<mn.toNat):=fun h2=>c3 ⟨by rw[zA3];exact hlt,h2⟩
       omega
      constructor
      ·intro h3;exact⟨mn.toNat,by omega,.inr (by omega),h3⟩
      ·rintro⟨n,h3,h4,h5⟩
       rwa [show mn.toNat=n by omega]
    ·simp only at hl
     rcases r3 with⟨_,r3⟩|r3
     ·rw[r3];rfl
     ·omega
  ·rw[zAz r1]
   refine⟨r3.iff fun w=>?_,fun _=>r4,by simp only;omega⟩
   constructor
   ·intro hw;exact⟨mn.toNat,by omega,by omega,(zec r2 _ w).2 hw⟩
   ·rintro⟨n,_,_,hn⟩;exact(zec r2 n w).1 hn
 exact⟨fun t ht=>(main t ht).1,fun t ht=>(main t ht).2.1,fun t ht=>(main t ht).2.2⟩
end
theorem zrw(ok:Int→List (Int × Int)→Bool)(rs:List (Int × Int))(t:Tb)(ht:t.fo.length=t.lv.length):Bl ok (fun w=>∃c,w=[c]∧ok c rs=true) t ⟨t.lv++[rs],t.fo++[0]⟩ ⟨2 ^ t.lv.length,2 ^ t.lv.length,false⟩:=by
 have hb:∀i,bit (2 ^ t.lv.length) i↔i=t.lv.length:=fun i=>by
  rw[bit,Nat.testBit_two_pow];simp[eq_comm]
 have hfo:∀i,t.lv.length≤i→(t.fo++[0]).getD i 0=0:=fun i hi=>by
  by_cases h:i=t.lv.length
  ·subst h;rw[znd _ _ _ (by omega)];simp[ht]
  ·exact zh0 (by simp;omega)
 refine⟨⟨⟨[rs],rfl⟩,by simp[ht],fun i hi=>zuv _ _ _ (by omega),fun i j hi hf=>?_⟩,fun i hi=>?_,fun i hi=>?_,fun w=>?_⟩
 ·unfold FoR at hf
  simp only at hf
  rw[hfo i hi]at hf;simp at hf
 ·rw[hb]at hi;subst hi;simp
 ·rw[hb]at hi;subst hi;simp
 ·have hA:∀c,AcR ok ⟨t.lv++[rs],t.fo++[0]⟩ t.lv.length c↔ok c rs=true:=fun c=>by
   unfold AcR
   simp only
   rw[znd _ _ _ (zAj _)];simp
  have hT:∀w,Tl (FoR ⟨t.lv++[rs],t.fo++[0]⟩) (AcR ok ⟨t.lv++[rs],t.fo++[0]⟩) (bit (2 ^ t.lv.length)) t.lv.length w↔w=[]:=fun w=>by
   cases w with
   | nil=>exact⟨fun _=>rfl,fun _=>(hb _).2 rfl⟩
   | cons c w =>
    constructor
    ·rintro⟨j,h1,_⟩
     unfold FoR at h1
     simp only at h1
     rw[hfo _ (zAj _)]at h1;simp at h1
    ·intro h;simp at h
  cases w with
  | nil =>
   constructor
   ·intro h;simp[Lg]at h
   ·rintro⟨c,h,_⟩;simp at h
  | cons c w =>
   constructor
   ·rintro⟨j,h1,h2,h3⟩
    rw[hb]at h1;subst h1
    rw[(hT w).1 h3]
    exact⟨c,rfl,(hA c).1 h2⟩
   ·rintro⟨d,h1,h2⟩
    simp only[List.cons.injEq]at h1
    obtain⟨rfl,rfl⟩:=h1
    exact⟨t.lv.length,(hb _).2 rfl,(hA c).2 h2,(hT []).2 rfl⟩
theorem y6a(ok:Int→List (Int × Int)→Bool):(∀e:Rx,vns e=true→Kid ok (L ok e) (pn e) (bd e)) ∧
 ∀l:List Rx,zev l=true →
  (∀(t0 t:Tb) (p:Pt) (Z:Lan),Bl ok Z t0 t p→Bl ok (cat Z (LC ok l)) t0 (bdC l t p).1 (bdC l t p).2∧((bdC l t p).1.lv.length=t.lv.length→p.nu=true→(bdC l t p).2.nu=true)∧((bdC l t p).1.lv.length:Int)≤t.lv.length+pnL l∧t.lv.length≤(bdC l t p).1.lv.length) ∧
  (∀(t0 t:Tb) (p:Pt) (Z:Lan),Bl ok Z t0 t p→Bl ok (fun w=>Z w∨LU ok l w) t0 (bdU l t p).1 (bdU l t p).2∧((bdU l t p).1.lv.length=t.lv.length→l≠[]∨p.nu=true→(bdU l t p).2.nu=true)∧((bdU l t p).1.lv.length:Int)≤t.lv.length+pnL l∧t.lv.length≤(bdU l t p).1.lv.length) ∧
  (∀k,l=[k]→Kid ok (L1 ok l) (pnL l) fun t=>bd1 l t):=by
 refine Rx.ind (fun op mn mx rs ks ih h=>?_) (fun _=>?_) fun k ks hk ih h=>?_
 ·rw[vns,zA7]at h
  obtain⟨iC,iU,i1⟩:=ih h.2
  rcases z5z h.1 with⟨rfl,rfl,rfl,rfl,_⟩|⟨rfl,rfl,rfl,rfl,_,_⟩|⟨rfl,rfl,rfl,rfl,hk,_⟩|⟨rfl,rfl,⟨k,rfl⟩,h1,h2,h3⟩
  ·have e:∀t,bd (.mk 1 0 0 rs []) t=(⟨t.lv++[rs],t.fo++[0]⟩,⟨2 ^ t.lv.length,2 ^ t.lv.length,false⟩):=fun t=>by rw[bd,zAz rfl]
   refine⟨fun t ht=>?_,fun t ht hl=>?_,fun t ht=>?_⟩
   ·rw[e]
    refine(zrw ok rs t ht).iff fun w=>?_
    rw[L];dsimp only;rw[zAz rfl]
   ·rw[e]at hl;simp at hl
   ·rw[e,pn,zAz rfl];simp
  ·have e:∀t,bd (.mk 2 0 0 [] ks) t=bdC ks t ptE:=fun t=>by rw[bd,zAy (by decide),zAz rfl]
   have ep:pn (.mk 2 0 0 [] ks)=pnL ks:=by rw[pn,zAy (by decide),zAy (by decide)]
   refine⟨fun t ht=>?_,fun t ht hl=>?_,fun t ht=>?_⟩
   ·rw[e]
    refine(iC t t ptE _ (Bl.eps (Ex.refl ht))).1.iff fun w=>?_
    rw[L];dsimp only;rw[zAy (by decide),zAz rfl];exact zlb _ w
   ·rw[e]at hl⊢;exact(iC t t ptE _ (Bl.eps (ok:=ok) (Ex.refl ht))).2.1 hl rfl
   ·rw[e,ep];exact(iC t t ptE _ (Bl.eps (ok:=ok) (Ex.refl ht))).2.2.1
  ·have e:∀t,bd (.mk 3 0 0 [] ks) t=bdU ks t ptN:=fun t=>by rw[bd,zAy (by decide),zAy (by decide),zAz rfl]
   have ep:pn (.mk 3 0 0 [] ks)=pnL ks:=by rw[pn,zAy (by decide),zAy (by decide)]
   refine⟨fun t ht=>?_,fun t ht hl=>?_,fun t ht=>?_⟩
   ·rw[e]
    refine(iU t t ptN _ (Bl.none (Ex.refl ht))).1.iff fun w=>?_
    rw[L];dsimp only;rw[zAy (by decide),zAy (by decide),zAz rfl];exact⟨fun h=>h.elim False.elim id,.inr⟩
   ·rw[e]at hl⊢
    exact(iU t t ptN _ (Bl.none (ok:=ok) (Ex.refl ht))).2.1 hl (.inl (by intro h;subst h;simp at hk))
   ·rw[e,ep];exact(iU t t ptN _ (Bl.none (ok:=ok) (Ex.refl ht))).2.2.1
  ·have e:bd (.mk 4 mn mx [] [k])=rp (fun t=>bd1 [k] t) mn mx:=by funext t;rw[bd,zAy (by decide),zAy (by decide),zAy (by decide)]
   have ep:pn (.mk 4 mn mx [] [k])=rep mn mx (pnL [k]):=by rw[pn,zAy (by decide),zAz rfl]
   have hl:∀w,(∃n:Nat,mn≤n∧(mx=-1∨(n:Int)≤mx)∧pow (L1 ok [k]) n w)↔L ok (.mk 4 mn mx [] [k]) w:=fun w=>by
    rw[L];dsimp only;rw[zAy (by decide),zAy (by decide),zAy (by decide)]
   have:=y59 (i1 k rfl) (zf7.2 _ h.2) h1 (by omega:mx=-1∨mn≤mx)
   rw[e,ep]
   exact⟨fun t ht=>(this.bl t ht).iff hl,this.nol,this.few⟩
 ·refine⟨fun t0 t p Z hz=>?_,fun t0 t p Z hz=>?_,fun k hk=>by simp at hk⟩
  ·rw[bdC,LC,pnL]
   exact⟨hz.iff fun w=>(zhf Z w).symm,fun _ h=>h,by simp,zAj _⟩
  ·rw[bdU,pnL]
   exact⟨hz.iff fun w=>⟨.inl,fun h=>h.elim id fun h=>by simp[LU]at h⟩,fun _ h=>h.elim (fun h=>absurd rfl h) id,by simp,zAj _⟩
 ·rw[zev,zA7]at h
  obtain⟨iC,iU,_⟩:=ih h.2
  have ik:=hk h.1
  refine⟨fun t0 t p Z hz=>?_,fun t0 t p Z hz=>?_,fun k' hk'=>?_⟩
  ·have h1:=ik.bl t hz.ex.len
   have h2:=ik.few t hz.ex.len
   obtain⟨j1,j2,j3,j4⟩:=iC t0 _ _ _ (hz.cat h1)
   have hlv:(z8q p (bd k t).2 (bd k t).1).1.lv=(bd k t).1.lv:=rfl
   rw[hlv]at j2 j3 j4
   have hle:=h1.ex.le
   rw[bdC,pnL]
   refine⟨j1.iff fun w=>?_,fun hl hp=>?_,by omega,by omega⟩
   ·rw[LC];exact(z9y Z _ _ w)
   ·refine j2 (by omega) ?_
    show(_&&_)=true
    rw[hp,ik.nol t hz.ex.len (by omega)];rfl
  ·have h1:=ik.bl t hz.ex.len
   have h2:=ik.few t hz.ex.len
   obtain⟨j1,j2,j3,j4⟩:=iU t0 _ _ _ (hz.or h1)
   have hle:=h1.ex.le
   rw[bdU,pnL]
   refine⟨j1.iff fun w=>?_,fun hl hp=>?_,by omega,by omega⟩
   ·rw[LU];exact or_assoc
   ·refine j2 (by omega) (.inr ?_)
    show(_||_)=true
    rw[ik.nol t hz.ex.len (by omega),Bool.or_true]
  ·simp only[List.cons.injEq]at hk'
   obtain⟨rfl,rfl⟩:=hk'
   have e:(fun t=>bd1 [k] t)=bd k:=by funext t;rw[bd1]
   rw[e,pnL,pnL,Int.add_zero,L1]
   exact ik
def nxF(S:Nat):Nat→Nat→List Nat→Nat
 | _,acc,[]=>acc
 | i,acc,x::r=>nxF S (i+1) (if S.testBit i=true then acc ||| x else acc) r
def rdF(ok:Int→List (Int × Int)→Bool)(c:Int)(S:Nat):Nat→Nat→List (List (Int × Int))→Nat
 | _,acc,[]=>acc
 | i,acc,l::r=>rdF ok c S (i+1) (if S.testBit i=true∧ok c l=true then acc ||| 2 ^ i else acc) r
def y6z(ok:Int→List (Int × Int)→Bool)(t:Tb)(last:Nat):Nat→List Int→Bool
 | S,[]=>decide (S &&& last≠0)
 | S,c::w=>if rdF ok c (nxF S 0 0 t.fo) 0 0 t.lv=0 then false else y6z ok t last (rdF ok c (nxF S 0 0 t.fo) 0 0 t.lv) w
def mtF(ok:Int→List (Int × Int)→Bool)(t:Tb)(p:Pt):List Int→Bool
 | []=>p.nu
 | c::w=>if rdF ok c p.f 0 0 t.lv=0 then false else y6z ok t p.l (rdF ok c p.f 0 0 t.lv) w
theorem zi7(ok:Int→List (Int × Int)→Bool)(c:Int)(S:Nat):∀(l:List (List (Int × Int))) (i acc j:Nat),bit (rdF ok c S i acc l) j↔bit acc j∨∃k,k<l.length∧j=i+k∧bit S j∧ok c (l.getD k [])=true
 | [],i,acc,j=>by simp[rdF]
 | x::l,i,acc,j=>by
  rw[rdF,zi7 ok c S l (i+1)]
  have h0:bit (if S.testBit i=true∧ok c x=true then acc ||| 2 ^ i else acc) j↔bit acc j∨j=i∧bit S i∧ok c x=true:=by
   by_cases h:S.testBit i=true∧ok c x=true
   ·rw[zAz h,bit,Nat.testBit_or,Nat.testBit_two_pow,zAu,zA3]
    exact⟨fun h2=>h2.elim .inl fun h2=>.inr ⟨h2.symm,h.1,h.2⟩,fun h2=>h2.elim .inl fun h2=>.inr h2.1.symm⟩
   ·rw[zAy h];simp only[bit];exact⟨.inl,fun h2=>h2.elim id fun h2=>absurd h2.2 h⟩
  rw[h0]
  constructor
  ·rintro((h|⟨rfl,h2,h3⟩)|⟨k,h1,h2,h3,h4⟩)
   ·exact .inl h
   ·exact .inr ⟨0,by simp,by simp,h2,by simpa using h3⟩
   ·exact .inr ⟨k+1,by simpa using h1,by omega,h3,by simpa using h4⟩
  ·rintro(h|⟨k,h1,h2,h3,h4⟩)
   ·exact .inl (.inl h)
   ·cases k with
    | zero =>
     obtain rfl:j=i:=by omega
     exact .inl (.inr ⟨rfl,h3,by simpa using h4⟩)
    | succ k=>exact .inr ⟨k,by simpa using h1,by omega,h3,by simpa using h4⟩
section
variable{ok:Int→List (Int × Int)→Bool}{t:Tb}
end
def mt(ok:Int→List (Int × Int)→Bool)(e:Rx)(w:List Int):Bool:=mtF ok (bd e ⟨[],[]⟩).1 (bd e ⟨[],[]⟩).2 w
open Go
set_option maxRecDepth 100000
theorem z8r(s:ByteArray)(i:Nat)(h:i<s.size):1≤(Utf8.decode s i).2∧i+(Utf8.decode s i).2≤s.size:=by
 unfold Utf8.decode
 simp only[zA7,zA3]
 repeat' split
 all_goals simp only
 all_goals omega
theorem zpp{c:Nat}(h:Utf8.valid c=true):c≤1114111:=by
 unfold Utf8.valid at h
 rw[zAu,zA7,zA7,zA3,zA3,zA3,zA3]at h
 omega
theorem zg7(s:ByteArray)(i:Nat):(Utf8.decode s i).1≤1114111:=by
 unfold Utf8.decode
 dsimp only
 repeat' split
 all_goals first
  | (show(65533:Nat)≤1114111;decide)
  | (rename_i h;rw[zA7]at h;exact zpp h.2)
  | (simp only;omega)
theorem y5c(s:ByteArray)(i k:Nat):(s.extract i s.size).get! k=s.get! (i+k):=by
 show(s.extract i s.size).data[k]! =s.data[i+k]!
 rw[ByteArray.data_extract,getElem!_def,getElem!_def,Array.getElem?_extract]
 have:s.data.size=s.size:=rfl
 by_cases hk:i+k<s.size
 ·rw[zAz (by omega)]
 ·rw[zAy (by omega),Array.getElem?_eq_none (by omega)]
theorem y56(s:ByteArray)(i:Nat):Utf8.decode (s.extract i s.size) 0=Utf8.decode s i:=by
 unfold Utf8.decode
 have hs:(s.extract i s.size).size=s.size-i:=by simp
 have hc:∀k,decide (k<(s.extract i s.size).size)=decide (i+k<s.size):=fun k=>by
  rw[hs,decide_eq_decide];omega
 simp only[Nat.zero_add,y5c]
 simp only[hc]
theorem yax(s:ByteArray)(i:Nat)(h:i<s.size):Lib.decodeGo (s.extract i s.size)=Utf8.decode s i:=by
 have hs:(s.extract i s.size).size=s.size-i:=by simp
 unfold Lib.decodeGo
 rw[zAy (by omega),y56]
def uB(s:ByteArray):Nat→Nat→List U
 | 0,_=>[]
 | f+1,i=>if i<s.size then⟨((Utf8.decode s i).1:Nat),(Utf8.decode s i).2⟩::uB s f (i+(Utf8.decode s i).2)else []
def rst(s:ByteArray)(i:Nat):List U:=uB s (s.size-i) i
theorem zvw(s:ByteArray):∀(f g i:Nat),s.size-i≤f→s.size-i≤g→uB s f i=uB s g i
 | 0,0,i,_,_=>rfl
 | 0,g+1,i,h,_=>by rw[uB,uB,zAy (by omega)]
 | f+1,0,i,_,h=>by rw[uB,uB,zAy (by omega)]
 | f+1,g+1,i,h1,h2=>by
  rw[uB,uB]
  by_cases hi:i<s.size
  ·rw[zAz hi,zAz hi]
   have:=z8r s i hi
   rw[zvw s f g _ (by omega) (by omega)]
  ·rw[zAy hi,zAy hi]
theorem z5y{s:ByteArray}{i:Nat}(h:i<s.size):rst s i=⟨((Utf8.decode s i).1:Nat),(Utf8.decode s i).2⟩::rst s (i+(Utf8.decode s i).2):=by
 have:=z8r s i h
 rw[rst,show s.size-i=(s.size-i-1)+1 by omega,uB,zAz h]
 congr 1
 exact zvw s _ _ _ (by omega) (zAj _)
theorem z3i{s:ByteArray}{i:Nat}(h:s.size≤i):rst s i=[]:=by
 rw[rst,show s.size-i=0 by omega];rfl
theorem y4h{s:ByteArray}{i:Nat}(hi:i≤s.size):rst s i=[]↔i=s.size:=by
 constructor
 ·intro h
  false_or_by_contra
  rw[z5y (by omega)]at h;simp at h
 ·intro h;exact z3i (by omega)
theorem y21{s:ByteArray}{i:Nat}(h:i<s.size):nx (rst s i)=((Utf8.decode s i).1:Nat):=by rw[z5y h];rfl
theorem zhm(s:ByteArray):∀(f i:Nat),s.size-i≤f→(rst s i).length≤s.size-i
 | 0,i,h=>by rw[z3i (by omega)];simp
 | f+1,i,h=>by
  by_cases hl:i<s.size
  ·have:=z8r s i hl
   rw[z5y hl,zAk]
   have:=zhm s f (i+(Utf8.decode s i).2) (by omega)
   omega
  ·rw[z3i (by omega)];simp
def y6c(r:Int):Prop:=(65≤r∧r≤90)∨(192≤r∧r≤222∧r≠215)∨(913≤r∧r≤937∧r≠930)∨(1040≤r∧r≤1071)
instance(r:Int):Decidable (y6c r):=inferInstanceAs (Decidable (_∨_))
def z97(r:Int):Int:=if y6c r then r+32 else if 1024≤r∧r≤1039 then r+80 else r
theorem zbp(r:Int):z97 r=r∨(65≤r∧r≤90∧z97 r=r+32)∨(192≤r∧r≤1071∧224≤z97 r∧z97 r≤1119∧(z97 r=r+32∨z97 r=r+80)):=by
 unfold z97
 by_cases h:y6c r
 ·rw[zAz h]
  unfold y6c at h
  omega
 ·rw[zAy h]
  by_cases h2:1024≤r∧r≤1039
  ·rw[zAz h2];omega
  ·rw[zAy h2];exact .inl rfl
def c1:List Nat→Bool
 | x::_=>x / 64 == 2
 | []=>false
def dc(b:Nat)(r:List Nat):Nat × Nat :=
 if b<128 then(b,1)
 else if b / 32 == 6&&c1 r then(if(b % 32)*64+r.getD 0 0 % 64≥128 then((b % 32)*64+r.getD 0 0 % 64,2)else(65533,1))
 else if b / 16 == 14&&c1 r&&c1 r.tail then(if decide ((b % 16)*4096+(r.getD 0 0 % 64)*64+r.getD 1 0 % 64≥2048)&&Utf8.valid (((b % 16)*4096+(r.getD 0 0 % 64)*64+r.getD 1 0 % 64:Nat):Int)then((b % 16)*4096+(r.getD 0 0 % 64)*64+r.getD 1 0 % 64,3)else(65533,1))
 else if b / 8 == 30&&c1 r&&c1 r.tail&&c1 r.tail.tail then(if decide ((b % 8)*262144+(r.getD 0 0 % 64)*4096+(r.getD 1 0 % 64)*64+r.getD 2 0 % 64≥65536)&&Utf8.valid (((b % 8)*262144+(r.getD 0 0 % 64)*4096+(r.getD 1 0 % 64)*64+r.getD 2 0 % 64:Nat):Int)then((b % 8)*262144+(r.getD 0 0 % 64)*4096+(r.getD 1 0 % 64)*64+r.getD 2 0 % 64,4)else(65533,1))
 else(65533,1)
theorem zfh{r:List Nat}(h:c1 r=true):∃x r',r=x::r'∧x / 64=2:=by
 cases r with
 | nil=>simp[c1]at h
 | cons x r=>exact⟨x,r,rfl,by simpa[c1]using h⟩
inductive Dc(b:Nat)(r:List Nat):Nat × Nat→Prop where
 | one (h:b<128):Dc b r (b,1)
 | two (x:Nat) (r':List Nat) (hr:r=x::r') (hx:x / 64=2) (hb:b / 32=6) (h:(b % 32)*64+x % 64≥128):Dc b r ((b % 32)*64+x % 64,2)
 | three (x y:Nat) (r':List Nat) (hr:r=x::y::r') (hx:x / 64=2) (hy:y / 64=2) (hb:b / 16=14) (h:(b % 16)*4096+(x % 64)*64+y % 64≥2048):Dc b r ((b % 16)*4096+(x % 64)*64+y % 64,3)
 | four (x y z:Nat) (r':List Nat) (hr:r=x::y::z::r') (hx:x / 64=2) (hy:y / 64=2) (hz:z / 64=2) (hb:b / 8=30) (h:(b % 8)*262144+(x % 64)*4096+(y % 64)*64+z % 64≥65536):Dc b r ((b % 8)*262144+(x % 64)*4096+(y % 64)*64+z % 64,4)
 | bad (h:128≤b):Dc b r (65533,1)
theorem zn9(b:Nat)(r:List Nat):Dc b r (dc b r):=by
 unfold dc
 by_cases h0:b<128
 ·rw[zAz h0];exact .one h0
 rw[zAy h0]
 by_cases h1:(b / 32 == 6&&c1 r)=true
 ·rw[zAz h1]
  rw[zA7,beq_iff_eq]at h1
  obtain⟨x,r',rfl,hx⟩:=zfh h1.2
  simp only[List.getD_cons_zero]
  split
  ·rename_i h;exact .two x r' rfl hx h1.1 h
  ·exact .bad (by omega)
 rw[zAy h1]
 by_cases h2:(b / 16 == 14&&c1 r&&c1 r.tail)=true
 ·rw[zAz h2]
  simp only[zA7,beq_iff_eq]at h2
  obtain⟨x,r',rfl,hx⟩:=zfh h2.1.2
  obtain⟨y,r',rfl,hy⟩:=zfh h2.2
  simp only[List.getD_cons_zero,List.getD_cons_succ]
  split
  ·rename_i h;simp only[zA7,zA3]at h;exact .three x y r' rfl hx hy h2.1.1 h.1
  ·exact .bad (by omega)
 rw[zAy h2]
 by_cases h3:(b / 8 == 30&&c1 r&&c1 r.tail&&c1 r.tail.tail)=true
 ·rw[zAz h3]
  simp only[zA7,beq_iff_eq]at h3
  obtain⟨x,r',rfl,hx⟩:=zfh h3.1.1.2
  obtain⟨y,r',rfl,hy⟩:=zfh h3.1.2
  obtain⟨z,r',rfl,hz⟩:=zfh h3.2
  simp only[List.getD_cons_zero,List.getD_cons_succ]
  split
  ·rename_i h;simp only[zA7,zA3]at h;exact .four x y z r' rfl hx hy hz h3.1.1.1 h.1
  ·exact .bad (by omega)
 rw[zAy h3];exact .bad (by omega)
def dcL:List Nat→Nat × Nat
 | []=>(65533,1)
 | b::r=>dc b r
theorem y03{l:List Nat}(h:l≠[]):1≤(dcL l).2∧(dcL l).2≤l.length:=by
 cases l with
 | nil=>exact absurd rfl h
 | cons b r =>
  show 1≤(dc b r).2∧(dc b r).2≤_
  have hd:=zn9 b r
  generalize dc b r=q at hd
  cases hd with
  | one h=>simp
  | two x r' hr hx hb h=>subst hr;simp
  | three x y r' hr hx hy hb h=>subst hr;simp
  | four x y z r' hr hx hy hz hb h=>subst hr;simp
  | bad h=>simp
def ec2(c:Nat):List Nat:=if c<128 then [c]else [192+c / 64,128+c % 64]
def zse(c:Nat):Nat:=(z97 (c:Int)).toNat
theorem zhp(c:Nat):((zse c:Nat):Int)=z97 c:=by
 unfold zse
 rcases zbp (c:Int)with h|⟨h1,h2,h3⟩|⟨h1,h2,h3,h4,h5⟩ <;> omega
theorem zao(c:Nat):zse c=c∨(65≤c∧c≤90∧zse c=c+32)∨(192≤c∧c≤1071∧224≤zse c∧zse c≤1119):=by
 have:=zhp c
 rcases zbp (c:Int)with h|⟨h1,h2,h3⟩|⟨h1,h2,h3,h4,h5⟩ <;> omega
def pcL(l:List Nat):List Nat:=if zse (dcL l).1=(dcL l).1 then l.take (dcL l).2 else ec2 (zse (dcL l).1)
def fdL:Nat→List Nat→List Nat
 | 0,_=>[]
 | f+1,[]=>[]
 | f+1,b::r=>pcL (b::r)++fdL f ((b::r).drop (dcL (b::r)).2)
theorem zvt(f:Nat):fdL f []=[]:=by cases f <;> rfl
theorem zmu:∀(f g:Nat) (l:List Nat),l.length≤f→l.length≤g→fdL f l=fdL g l
 | f,g,[],_,_=>by rw[zvt,zvt]
 | 0,g,b::r,h,_=>by simp at h
 | f+1,0,b::r,_,h=>by simp at h
 | f+1,g+1,b::r,h1,h2=>by
  have hw:=y03 (l:=b::r) (by simp)
  rw[fdL,fdL,zmu f g _ (by rw[List.length_drop];omega) (by rw[List.length_drop];omega)]
def fd(l:List Nat):List Nat:=fdL l.length l
theorem zl9{l:List Nat}(h:l≠[]):fd l=pcL l++fd (l.drop (dcL l).2):=by
 cases l with
 | nil=>exact absurd rfl h
 | cons b r =>
  have hw:=y03 (l:=b::r) (by simp)
  rw[fd,zAk,fdL,fd]
  congr 1
  refine zmu _ _ _ ?_ (zAj _)
  rw[List.length_drop,zAk];omega
def unL:Nat→List Nat→List U
 | 0,_=>[]
 | f+1,[]=>[]
 | f+1,b::r=>⟨((dcL (b::r)).1:Nat),(dcL (b::r)).2⟩::unL f ((b::r).drop (dcL (b::r)).2)
theorem zhv(f:Nat):unL f []=[]:=by cases f <;> rfl
def btN(s:ByteArray):List Nat:=s.data.toList.map UInt8.toNat
theorem z3r(s:ByteArray):(btN s).length=s.size:=by rw[btN,zA4,zAe];rfl
theorem y5o(s:ByteArray)(k:Nat):(btN s).getD k 0=(s.get! k).toNat:=by
 show _=(s.data[k]!).toNat
 rw[btN,getElem!_def,List.getD,zAd,Array.getElem?_toList]
 cases s.data[k]? <;> rfl
theorem zh1(s:ByteArray)(i:Nat)(h:i<s.size):Utf8.decode s i=dcL ((btN s).drop i):=by
 have hl:=z3r s
 have g:∀k,((btN s).drop i).getD k 0=(s.get! (i+k)).toNat:=fun k=>by rw[←y5o,List.getD,List.getD,List.getElem?_drop]
 have hlen:((btN s).drop i).length=s.size-i:=by rw[List.length_drop,hl]
 have c:∀k,c1 (((btN s).drop i).drop k)=(decide (i+k<s.size)&&(s.get! (i+k)).toNat / 64 == 2):=fun k=>by
  rw[←g k]
  by_cases hk:i+k<s.size
  ·have:k<((btN s).drop i).length:=by omega
   rw[List.drop_eq_getElem_cons this,c1,zAi hk,Bool.true_and,List.getD,zA0 this];rfl
  ·rw[List.drop_eq_nil_of_le (by omega),zAo hk];rfl
 cases hd:(btN s).drop i with
 | nil=>rw[hd]at hlen;simp at hlen;omega
 | cons b r =>
  rw[hd]at g c
  have g0:=g 0
  have g1:=g 1
  have g2:=g 2
  have g3:=g 3
  have k1:=c 1
  have k2:=c 2
  have k3:=c 3
  simp only[List.getD_cons_zero,List.getD_cons_succ,List.drop_succ_cons,List.drop_zero,Nat.add_zero]at g0 g1 g2 g3 k1 k2 k3
  show _=dc b r
  unfold Utf8.decode dc Utf8.runeError
  simp only[Nat.add_zero,←g0,←g1,←g2,←g3]
  have t1:r.tail=r.drop 1:=by cases r <;> rfl
  have t2:r.tail.tail=r.drop 2:=by cases r with|nil=>rfl|cons a r=>cases r <;> rfl
  rw[t2,t1,k1,k2,k3]
  simp only[←g1,←g2,←g3]
theorem zhz(s:ByteArray):∀(f i:Nat),s.size-i≤f→rst s i=unL f ((btN s).drop i)
 | 0,i,h=>by rw[z3i (by omega)];rfl
 | f+1,i,h=>by
  by_cases hi:i<s.size
  ·have hw:=z8r s i hi
   have hd:=zh1 s i hi
   have hl:=z3r s
   have e:(btN s).drop i=(btN s)[i]'(by omega)::(btN s).drop (i+1):=List.drop_eq_getElem_cons (by omega)
   rw[z5y hi,zhz s f _ (by omega),e,unL,←e,←hd,List.drop_drop]
  ·rw[z3i (by omega),List.drop_eq_nil_of_le (by rw[z3r];omega),zhv]
def y6d(l:List Nat):ByteArray:=⟨(l.map UInt8.ofNat).toArray⟩
theorem zmz{l:List Nat}(h:∀x∈l,x<256):btN (y6d l)=l:=by
 rw[btN,y6d]
 simp only[List.map_map]
 conv=>rhs;rw[←List.map_id l]
 refine List.map_congr_left fun x hx=>?_
 show(UInt8.ofNat x).toNat=x
 rw[UInt8.toNat_ofNat']
 exact Nat.mod_eq_of_lt (h x hx)
theorem znw(s:ByteArray):y6d (btN s)=s:=by
 have:(btN s).map UInt8.ofNat=s.data.toList:=by
  rw[btN,List.map_map]
  conv=>rhs;rw[←List.map_id s.data.toList]
  exact List.map_congr_left fun x hx=>by simp
 rw[y6d,this]
theorem y2o(s:ByteArray):∀x∈btN s,x<256:=fun x hx=>by
 rw[btN,List.mem_map]at hx
 obtain⟨b,_,rfl⟩:=hx
 exact b.toNat_lt
theorem zgb{a b:ByteArray}(h:btN a=btN b):a=b:=by rw[←znw a,h,znw]
theorem y90:∀(f:Nat) (l:List Nat),l.length≤f→(∀x∈l,x<256)→∀x∈fd l,x<256
 | f,[],_,_,x,h=>by simp[fd,fdL]at h
 | 0,b::r,h,_,_,_=>by simp at h
 | f+1,b::r,h,hl,x,hx=>by
  have hw:=y03 (l:=b::r) (by simp)
  have hlen:(b::r).length=r.length+1:=rfl
  rw[zl9 (by simp),zAt]at hx
  rcases hx with hx|hx
  ·rw[pcL]at hx
   split at hx
   ·exact hl x (List.mem_of_mem_take hx)
   ·rename_i hne
    rcases zao (dcL (b::r)).1 with e2|e2|e2
    ·exact absurd e2 hne
    ·rw[ec2,zAz (by omega)]at hx;simp at hx;omega
    ·rw[ec2,zAy (by omega)]at hx;simp at hx;omega
  ·exact y90 f _ (by rw[List.length_drop];omega) (fun y hy=>hl y (List.mem_of_mem_drop hy)) x hx
def zb7(s:ByteArray):ByteArray:=y6d (fd (btN s))
theorem zyu(s:ByteArray):btN (zb7 s)=fd (btN s):=zmz (y90 _ _ (zAj _) (y2o s))
theorem z3b{c:Int}:Utf8.valid c=true↔(0≤c∧c<55296)∨(57344≤c∧c≤1114111):=by
 unfold Utf8.valid
 rw[zAu,zA7,zA7,zA3,zA3,zA3,zA3]
theorem ze1(s:ByteArray)(i:Nat)(h:i<s.size):Utf8.valid (((Utf8.decode s i).1:Nat):Int)=true:=by
 rw[zh1 s i h]
 cases hl:(btN s).drop i with
 | nil=>exact z3b.2 (by simp[dcL])
 | cons b r =>
  show Utf8.valid (((dc b r).1:Nat):Int)=true
  unfold dc
  repeat' split
  all_goals first
   | (rename_i h2;rw[zA7]at h2;exact h2.2)
   | (rw[z3b];simp only;omega)
theorem z2h(x:Nat)(h:x<256):(UInt8.ofNat x).toNat=x:=by rw[UInt8.toNat_ofNat'];exact Nat.mod_eq_of_lt h
def ecL(c:Nat):List Nat:=if c<128 then [c]else if c<2048 then [192+c / 64,128+c % 64]else if c<65536 then [224+c / 4096,128+c / 64 % 64,128+c % 64]else [240+c / 262144,128+c / 4096 % 64,128+c / 64 % 64,128+c % 64]
def zbl(c:Int):Nat:=if Utf8.valid c=true then c.toNat else 65533
theorem z5h(c:Int):Utf8.valid ((zbl c:Nat):Int)=true:=by
 unfold zbl
 split
 ·rename_i h
  have:=z3b.1 h
  rw[z3b];omega
 ·rw[z3b];omega
theorem z81{c:Int}(h:Utf8.valid c=true):((zbl c:Nat):Int)=c:=by
 have:=z3b.1 h
 rw[zbl,zAz h];omega
theorem z6o(c:Int):btN (Utf8.encode c)=ecL (zbl c):=by
 have hv:=z3b.1 (z5h c)
 have e:(if Utf8.valid c=true then c.toNat else Utf8.runeError)=zbl c:=rfl
 unfold Utf8.encode
 simp only[e]
 obtain⟨k,hk⟩:∃k,zbl c=k:=⟨_,rfl⟩
 rw[hk]at hv⊢
 unfold ecL btN
 by_cases h1:k<128
 ·rw[zAz h1,zAz h1]
  simp only[List.map_cons,List.map_nil]
  rw[z2h _ (by omega)]
 rw[zAy h1,zAy h1]
 by_cases h2:k<2048
 ·rw[zAz h2,zAz h2]
  simp only[List.map_cons,List.map_nil]
  rw[z2h _ (by omega),z2h _ (by omega)]
 rw[zAy h2,zAy h2]
 by_cases h3:k<65536
 ·rw[zAz h3,zAz h3]
  simp only[List.map_cons,List.map_nil]
  rw[z2h _ (by omega),z2h _ (by omega),z2h _ (by omega)]
 rw[zAy h3,zAy h3]
 simp only[List.map_cons,List.map_nil]
 rw[z2h _ (by omega),z2h _ (by omega),z2h _ (by omega),z2h _ (by omega)]
theorem zjn{k:Nat}(hv:Utf8.valid (k:Int)=true)(q:List Nat):dcL (ecL k++q)=(k,(ecL k).length):=by
 have hv':=z3b.1 hv
 unfold ecL
 by_cases h1:k<128
 ·rw[zAz h1]
  show dc k _=_
  unfold dc;rw[zAz h1];rfl
 rw[zAy h1]
 by_cases h2:k<2048
 ·rw[zAz h2]
  show dc (192+k / 64) ((128+k % 64)::q)=_
  unfold dc
  rw[zAy (by omega),zAz (by rw[zA7,beq_iff_eq];refine⟨by omega,?_⟩;simp only[c1,beq_iff_eq];omega),List.getD_cons_zero,zAz (by omega)]
  exact Prod.ext (by simp only;omega) rfl
 rw[zAy h2]
 by_cases h3:k<65536
 ·rw[zAz h3]
  show dc (224+k / 4096) ((128+k / 64 % 64)::(128+k % 64)::q)=_
  have e:(224+k / 4096) % 16*4096+(128+k / 64 % 64) % 64*64+(128+k % 64) % 64=k:=by omega
  unfold dc
  rw[zAy (by omega),zAy (by rw[zA7,beq_iff_eq];omega),zAz (by
   simp only[List.tail_cons,c1,zA7,beq_iff_eq];omega)]
  exact zD129
 rw[zAy h3]
 show dc (240+k / 262144) ((128+k / 4096 % 64)::(128+k / 64 % 64)::(128+k % 64)::q)=_
 have e:(240+k / 262144) % 8*262144+(128+k / 4096 % 64) % 64*4096+(128+k / 64 % 64) % 64*64+(128+k % 64) % 64=k:=by omega
 unfold dc
 rw[zAy (by omega),zAy (by rw[zA7,beq_iff_eq];omega),zAy (by simp only[zA7,beq_iff_eq];omega),zAz (by
    simp only[List.tail_cons,c1,zA7,beq_iff_eq];omega)]
 exact zD129
theorem zmx(k:Nat):ecL k≠[]:=by unfold ecL;repeat' split
                                all_goals simp
theorem zab{k:Nat}(h:k<2048):ecL k=ec2 k:=by
 unfold ecL ec2
 by_cases h1:k<128
 ·rw[zAz h1,zAz h1]
 ·rw[zAy h1,zAy h1,zAz h]
theorem y45(c:Int):rst (Utf8.encode c) 0=[⟨((zbl c:Nat):Int),(Utf8.encode c).size⟩]:=by
 have hl:=z3r (Utf8.encode c)
 have hd:=zjn (z5h c) []
 rw[z6o]at hl
 rw[List.append_nil]at hd
 have hne:=zmx (zbl c)
 rw[zhz _ (Utf8.encode c).size 0 (by omega),List.drop_zero,z6o]
 cases h:ecL (zbl c)with
 | nil=>exact absurd h hne
 | cons b r =>
  rw[h]at hl hd
  rw[←hl,zAk,unL,hd]
  simp only
  rw[zAk,List.drop_succ_cons,zAs,zhv]
theorem zdh{c:Int}(h:Utf8.valid c=true):Utf8.valid (z97 c)=true:=by
 rw[z3b]at h⊢
 rcases zbp c with e|⟨h1,h2,h3⟩|⟨h1,h2,h3,h4,h5⟩ <;> omega
theorem zxw(c:Int):zb7 (Utf8.encode c)=Utf8.encode (z97 ((zbl c:Nat):Int)):=by
 have hv:=z5h c
 have hvl:=zdh hv
 obtain⟨k,hk⟩:∃k,zbl c=k:=⟨_,rfl⟩
 refine zgb ?_
 rw[zyu,z6o,z6o]
 rw[hk]at hv hvl⊢
 have hf:zbl (z97 (k:Int))=zse k:=by
  have:=z81 hvl
  have:=zhp k
  omega
 rw[hf]
 have hd:=zjn hv []
 rw[List.append_nil]at hd
 rw[zl9 (zmx k),pcL,hd]
 simp only
 rw[zAs,List.take_length,show fd []=[]from rfl,List.append_nil]
 by_cases h:zse k=k
 ·rw[zAz h,h]
 ·rw[zAy h]
  rcases zao k with e|e|e
  ·exact absurd e h
  ·rw[zab (by omega)]
  ·rw[zab (by omega)]
theorem zf2{c:Int}(h:Utf8.valid c=true):zb7 (Utf8.encode c)=Utf8.encode (z97 c):=by rw[zxw,z81 h]
def zkv(c:Int):List Int:=[z97 c,z97 c-32,z97 c-80].filter fun v=>decide (0≤v)&&decide (zb7 (Utf8.encode v)=zb7 (Utf8.encode c))
def inR(l:List (Int × Int))(c:Int):Bool:=l.any fun r=>decide (r.1≤c)&&decide (c≤r.2)
def okV(vs:Int→List Int)(c:Int)(l:List (Int × Int)):Bool:=(vs c).any (inR l)
def zuk(u:U):Bool:=!decide (u.r=65533)||decide (u.n=3)
def zcs(s:ByteArray):Bool:=(rst s 0).all zuk
def z30(s:ByteArray):List Int:=(rst s 0).map (·.r)
def mtS(vs:Int→List Int)(e:Rx)(s:ByteArray):Bool:=decide (val e=0)&&zcs s&&mt (okV vs) e (z30 s)
theorem zgt(s:ByteArray):∀(f i:Nat),s.size-i≤f→∀u∈rst s i,Utf8.valid u.r=true
 | 0,i,h,u,hu=>by rw[z3i (by omega)]at hu;simp at hu
 | f+1,i,h,u,hu=>by
  by_cases hi:i<s.size
  ·have hw:=z8r s i hi
   rw[z5y hi,zAc]at hu
   rcases hu with rfl|hu
   ·exact ze1 s i hi
   ·exact zgt s f _ (by omega) u hu
  ·rw[z3i (by omega)]at hu;simp at hu
theorem zmt{e:Rx}(h:val e=0):vns e=true:=by
 rw[val]at h
 split at h
 ·simp at h
 split at h
 ·simp at h
 ·rename_i h2;simpa using h2
end Go.Rx
namespace Go.Rx
structure Sm(t:Tb):Prop where
 len:t.fo.length=t.lv.length
 sm:∀x∈t.fo,x<2 ^ 64
theorem yb8{x n:Nat}(hn:n≤64)(h:∀i,bit x i→i<n):x<2 ^ 64:=by
 refine Nat.lt_pow_two_of_testBit x fun i hi=>?_
 cases hb:x.testBit i with
 | false=>rfl
 | true=>have:=h i hb;omega
section
variable{ok:Int→List (Int × Int)→Bool}{X:Lan}{t t':Tb}{p:Pt}
theorem Bl.sm(h:Bl ok X t t' p)(ht:Sm t)(hl:t'.lv.length≤64):Sm t'∧p.f<2 ^ 64∧p.l<2 ^ 64:=by
 refine⟨⟨h.ex.len,fun x hx=>?_⟩,yb8 hl fun i hi=>(h.fst i hi).2,yb8 hl fun i hi=>(h.lst i hi).2⟩
 obtain⟨i,hi,hx⟩:=List.mem_iff_getElem.1 hx
 have hg:t'.fo.getD i 0=x:=by simp only[List.getD,zA0 hi];exact hx
 by_cases hlt:i<t.lv.length
 ·have:=h.ex.old i hlt
  rw[hg]at this
  have hlt':i<t.fo.length:=by rw[ht.len];exact hlt
  have hm:=ht.sm (t.fo[i]) (List.getElem_mem hlt')
  have e:t.fo.getD i 0=t.fo[i]:=by simp[List.getD,zA0 hlt']
  rw[this,e];exact hm
 ·refine yb8 hl fun j hj=>(h.ex.row i j (by omega) ?_).2
  unfold FoR;rw[hg];exact hj
end
abbrev O1:Int→List (Int × Int)→Bool:=fun _ _=>true
theorem y11{e:Rx}(h:vns e=true):Kid O1 (L O1 e) (pn e) (bd e):=(y6a O1).1 e h
mutual
def y70(Q:List (Int × Int)→Prop):Rx→Prop|.mk _ _ _ rs ks=>Q rs∧zkg Q ks
def zkg(Q:List (Int × Int)→Prop):List Rx→Prop|[]=>True|k::ks=>y70 Q k∧zkg Q ks
end
theorem y1p{Q:List (Int × Int)→Prop}{b:Tb→Tb × Pt}(hb:∀t,(∀l∈t.lv,Q l)→∀l∈(b t).1.lv,Q l)(pl:Bool):∀(n:Nat) (t:Tb) (p:Pt),(∀l∈t.lv,Q l)→∀l∈(rpl b pl n t p).1.lv,Q l
 | 0,t,p,h=>h
 | n+1,t,p,h=>by
  rw[rpl]
  split
  ·exact hb t h
  ·refine y1p hb pl n _ _ ?_
   show ∀l∈(if(pl&&decide (n=0))=true then link (b t).1 (b t).2.l (b t).2.f else(b t).1).lv,Q l
   split
   ·exact hb t h
   ·exact hb t h
theorem y2w{Q:List (Int × Int)→Prop}{b:Tb→Tb × Pt}(hb:∀t,(∀l∈t.lv,Q l)→∀l∈(b t).1.lv,Q l):∀(n:Nat) (t:Tb),(∀l∈t.lv,Q l)→∀l∈(opt b n t).1.lv,Q l
 | 0,t,h=>h
 | n+1,t,h=>by
  rw[opt]
  split
  ·exact hb t h
  ·exact y2w hb n _ (hb t h)
theorem yd7{Q:List (Int × Int)→Prop}{b:Tb→Tb × Pt}(hb:∀t,(∀l∈t.lv,Q l)→∀l∈(b t).1.lv,Q l)(mn mx:Int)(t:Tb)(h:∀l∈t.lv,Q l):∀l∈(rp b mn mx t).1.lv,Q l:=by
 have hr:=y1p hb (decide (mx<0)) mn.toNat t ptE h
 rw[rp]
 split
 ·exact hr
 split
 ·exact hb _ hr
 split
 ·exact y2w hb _ _ hr
 ·exact hr
theorem y7v{Q:List (Int × Int)→Prop}:(∀e:Rx,y70 Q e→∀t,(∀l∈t.lv,Q l)→∀l∈(bd e t).1.lv,Q l)∧∀ks:List Rx,zkg Q ks →
 (∀t p,(∀l∈t.lv,Q l)→∀l∈(bdC ks t p).1.lv,Q l)∧(∀t p,(∀l∈t.lv,Q l)→∀l∈(bdU ks t p).1.lv,Q l)∧(∀t,(∀l∈t.lv,Q l)→∀l∈(bd1 ks t).1.lv,Q l):=by
 refine Rx.ind (fun op mn mx rs ks ih h t ht=>?_) (fun _=>⟨fun t p h=>h,fun t p h=>h,fun t h=>h⟩) fun k ks hk ih h=>?_
 ·rw[y70]at h
  obtain⟨i1,i2,i3⟩:=ih h.2
  rw[bd]
  split
  ·intro l hl
   simp only[zAt,zAq]at hl
   rcases hl with hl|rfl
   ·exact ht l hl
   ·exact h.1
  split
  ·exact i1 t _ ht
  split
  ·exact i2 t _ ht
  ·exact yd7 i3 mn mx t ht
 ·rw[zkg]at h
  obtain⟨i1,i2,i3⟩:=ih h.2
  refine⟨fun t p ht=>?_,fun t p ht=>?_,fun t ht=>?_⟩
  ·rw[bdC];exact i1 _ _ (hk h.1 t ht)
  ·rw[bdU];exact i2 _ _ (hk h.1 t ht)
  ·rw[bd1];exact hk h.1 t ht
def rdV(N:Nat)(lv:List (List (Int × Int))):List Int→Nat→Nat
 | [],a=>a
 | v::r,a=>rdV N lv r (rdF (fun c l=>inR l c) v N 0 a lv)
theorem zw5(N:Nat)(lv:List (List (Int × Int))):∀(vs:List Int) (a j:Nat),bit (rdV N lv vs a) j↔bit a j∨∃k,k<lv.length∧j=0+k∧bit N j∧vs.any (inR (lv.getD k []))=true
 | [],a,j=>by simp[rdV]
 | v::r,a,j=>by
  rw[rdV,zw5 N lv r,zi7]
  constructor
  ·rintro((h|⟨k,h1,h2,h3,h4⟩)|⟨k,h1,h2,h3,h4⟩)
   ·exact .inl h
   ·exact .inr ⟨k,h1,h2,h3,by rw[List.any_cons,h4,Bool.true_or]⟩
   ·exact .inr ⟨k,h1,h2,h3,by rw[List.any_cons,h4,Bool.or_true]⟩
  ·rintro(h|⟨k,h1,h2,h3,h4⟩)
   ·exact .inl (.inl h)
   ·rw[List.any_cons,zAu]at h4
    rcases h4 with h4|h4
    ·exact .inl (.inr ⟨k,h1,h2,h3,h4⟩)
    ·exact .inr ⟨k,h1,h2,h3,h4⟩
theorem y7f(vs:Int→List Int)(c:Int)(N:Nat)(lv:List (List (Int × Int))):rdV N lv (vs c) 0=rdF (okV vs) c N 0 0 lv :=
 Nat.eq_of_testBit_eq fun j=>by
  have h1:=zw5 N lv (vs c) 0 j
  have h2:=zi7 (okV vs) c N lv 0 0 j
  rw[Bool.eq_iff_iff]
  exact h1.trans h2.symm
theorem zrg(ok:Int→List (Int × Int)→Bool)(c:Int)(N:Nat){lv:List (List (Int × Int))}(hl:lv.length≤64){a:Nat}(ha:a<2 ^ 64):rdF ok c N 0 a lv<2 ^ 64:=by
 refine yb8 (zAj 64) fun j hj=>?_
 rcases(zi7 ok c N lv 0 a j).1 hj with h|⟨k,h1,h2,_⟩
 ·false_or_by_contra
  rename_i hlt
  have h3:a<2 ^ j:=zAx ha (Nat.pow_le_pow_right (by omega) (by omega))
  have:=Nat.testBit_lt_two_pow h3
  rw[bit,this]at h;cases h
 ·omega
theorem zng(ok:Int→List (Int × Int)→Bool)(c:Int)(N:Nat){lv:List (List (Int × Int))}{k:Nat}{l:List (Int × Int)}(hl:lv[k]? =some l)(a:Nat) :
 rdF ok c N k a (lv.drop k)=rdF ok c N (k+1) (if N.testBit k=true∧ok c l=true then a ||| 2 ^ k else a) (lv.drop (k+1)):=by
 obtain⟨h1,h2⟩:=zA1.1 hl
 rw[List.drop_eq_getElem_cons h1,h2,rdF]
open Go
def pcS(s:ByteArray)(r i n:Int):ByteArray:=if z97 r=r then s.extract i.toNat (i+n).toNat else Utf8.encode (z97 r)
theorem ze3(s:ByteArray)(a b:Nat):btN (s.extract a b)=((btN s).drop a).take (b-a):=by
 rw[btN,btN,ByteArray.data_extract,Array.toList_extract,List.extract_eq_take_drop,List.map_take,List.map_drop]
theorem y5l(s:ByteArray)(i:Nat)(h:i<s.size):btN (pcS s ((Utf8.decode s i).1:Nat) (i:Nat) ((Utf8.decode s i).2:Nat))=pcL ((btN s).drop i):=by
 have hd:=zh1 s i h
 have hv:=ze1 s i h
 rw[pcS,pcL,←hd]
 obtain⟨c,hc⟩:∃c,(Utf8.decode s i).1=c:=⟨_,rfl⟩
 obtain⟨w,hw⟩:∃w,(Utf8.decode s i).2=w:=⟨_,rfl⟩
 rw[hc,hw]
 rw[hc]at hv
 have hn:=zhp c
 by_cases hl:z97 (c:Int)=c
 ·rw[zAz hl,zAz (by omega),ze3,zA9,show(((i:Nat):Int)+((w:Nat):Int)).toNat-i=w by omega]
 ·rw[zAy hl,zAy (by omega),z6o]
  have hf:=z81 (zdh hv)
  have:zbl (z97 (c:Int))=zse c:=by omega
  rw[this]
  rcases zao c with e|e|e
  ·omega
  ·exact zab (by omega)
  ·exact zab (by omega)
theorem zn2(s:ByteArray)(r i n:Int)(h0:0≤i)(h1:1≤n)(h2:i+n≤s.size):((pcS s r i n).size:Int)≤4*n:=by
 rw[pcS]
 split
 ·have:=z3r (s.extract i.toNat (i+n).toNat)
  rw[ze3,zAm,List.length_drop,z3r]at this
  omega
 ·have:=z3r (Utf8.encode (z97 r))
  rw[z6o]at this
  have h4:(ecL (zbl (z97 r))).length≤4:=by
   unfold ecL
   repeat' split
   all_goals simp
  omega
end Go.Rx
