/- A part of the proof: RX1 to RX18. -/
import Derived.Test.YthdfkabdoidjfaaGreatDoorU0
import Derived.Laws.RangeAny
import Derived.Shelf.Unicode.DecodeSlow
set_option linter.all false
namespace Go.Rx
inductive Rx where
 | mk (op mn mx:Int) (rs:List (Int × Int)) (ks:List Rx)
def Rx.op:Rx→Int|.mk o _ _ _ _=>o
def Rx.mn:Rx→Int|.mk _ o _ _ _=>o
def Rx.mx:Rx→Int|.mk _ _ o _ _=>o
def Rx.rs:Rx→List (Int × Int)|.mk _ _ _ o _=>o
def Rx.ks:Rx→List Rx|.mk _ _ _ _ o=>o
theorem Rx.ind {p:Rx→Prop} {q:List Rx→Prop} (h1:∀ op mn mx rs ks,q ks→p (.mk op mn mx rs ks)) (h2:q []) (h3:∀ k ks,p k→q ks→q (k::ks)):(∀ e,p e)∧∀ l,q l :=
 ⟨fun e=>Rx.rec (motive_1:=p) (motive_2:=q) h1 h2 h3 e,fun l=>Rx.rec_1 (motive_1:=p) (motive_2:=q) h1 h2 h3 l⟩
theorem Rx.ind' {p:Rx→Prop} (h:∀ op mn mx rs ks,(∀ k∈ks,p k)→p (.mk op mn mx rs ks)):∀ e,p e :=
 (Rx.ind (q:=fun l=>∀ k∈l,p k) (fun op mn mx rs ks hq=>h op mn mx rs ks hq) (by simp) (fun k ks hk hq x hx=>by
   rw[zAc] at hx
   rcases hx with rfl|hx
   · exact hk
   · exact hq x hx)).1
mutual
def sz:Rx→Nat|.mk _ _ _ _ ks=>1+szL ks
def szL:List Rx→Nat|[]=>0|k::ks=>sz k+szL ks
end
mutual
def dp:Rx→Nat|.mk _ _ _ _ ks=>1+dpL ks
def dpL:List Rx→Nat|[]=>0|k::ks=>max (dp k) (dpL ks)
end
def smB (d n:Int):Bool:=decide (d>40)||decide (n>200)
mutual
def sm:Rx→Int→Int→Bool × Int
 | .mk _ _ _ _ ks,d,n=>if smB d (n+1)=true then (false,n+1) else smL ks (d+1) (n+1)
def smL:List Rx→Int→Int→Bool × Int
 | [],_,n=>(true,n)
 | k::ks,d,n=>if (sm k d n).1=true then smL ks d (sm k d n).2 else (false,(sm k d n).2)
end
theorem zp5:(∀ (e:Rx) (d n:Int),1≤d→0≤n→n≤200→if d+dp e≤41∧n+sz e≤200 then sm e d n=(true,n+sz e) else (sm e d n).1=false) ∧
 ∀ (l:List Rx) (d n:Int),1≤d→0≤n→n≤200→if (l=[]∨d+dpL l≤41)∧n+szL l≤200 then smL l d n=(true,n+szL l) else (smL l d n).1=false:=by
 refine Rx.ind (fun op mn mx rs ks ih d n hd h0 h1=>?_) (fun d n hd h0 h1=>?_) (fun k ks ihk ih d n hd h0 h1=>?_)
 · rw[sm,dp,sz]
   by_cases hb:smB d (n+1)=true
   · rw[zAz hb]
     simp only[smB,zAu,zA3] at hb
     rw[zAy (by omega)]
   · rw[zAy hb]
     simp only[smB,zAu,zA3,not_or] at hb
     have:=ih (d+1) (n+1) (by omega) (by omega) (by omega)
     have e0:ks=[]→dpL ks=0∧szL ks=0:=fun h=>by subst h;exact⟨rfl,rfl⟩
     by_cases hc:d+((1+dpL ks:Nat):Int)≤41∧n+((1+szL ks:Nat):Int)≤200
     · rw[zAz hc]
       rw[zAz ⟨.inr (by omega),by omega⟩] at this
       rw[this]
       congr 1;omega
     · rw[zAy hc]
       rw[zAy (by
        rintro⟨h|h,h'⟩
        · have:=e0 h;omega
        · omega)] at this
       exact this
 · rw[smL,szL,zAz ⟨.inl rfl,by omega⟩]
   simp
 · rw[smL,dpL,szL]
   have hk:=ihk d n hd h0 h1
   by_cases hc:d+(dp k:Int)≤41∧n+(sz k:Int)≤200
   · rw[zAz hc] at hk
     rw[hk]
     simp only[if_true]
     have hr:=ih d (n+sz k) hd (by omega) hc.2
     by_cases hc2:(ks=[]∨d+(dpL ks:Int)≤41)∧n+sz k+(szL ks:Int)≤200
     · rw[zAz hc2] at hr
       have:ks=[]→dpL ks=0:=fun h=>by subst h;rfl
       rw[zAz ⟨.inr (by rcases hc2.1 with h|h <;> first|(have:=this h;omega)|omega),by omega⟩,hr]
       congr 1;omega
     · rw[zAy hc2] at hr
       rw[zAy (fun h=>hc2 ⟨.inr (by rcases h.1 with h|h <;> first|(simp at h;done)|omega),by omega⟩)]
       exact hr
   · rw[zAy hc] at hk
     rw[zAy (by
      rintro⟨h|h,h'⟩
      · simp at h
      · omega),hk,zAy (by simp)]
def zdm:Int→List (Int × Int)→Bool
 | _,[]=>true
 | least,r::rs=>decide (least≤r.1)&&decide (r.1≤r.2)&&decide (r.2≤1114111)&&zdm (r.2+2) rs
def zos (l:List (Int × Int)):Bool:=zdm 0 l&&decide (0<l.length)
def z6k (op:Int) (ks:List Rx):Bool:=ks.all fun k=>!decide (k.op=op)
def vn:Rx→Bool
 | .mk op mn mx rs ks =>
  if op=1 then decide (mn=0)&&decide (mx=0)&&decide (ks.length=0)&&zos rs
  else if op=2 then decide (mn=0)&&decide (mx=0)&&decide (rs.length=0)&&!decide (ks.length=1)&&z6k op ks
  else if op=3 then decide (mn=0)&&decide (mx=0)&&decide (rs.length=0)&&decide (1<ks.length)&&z6k op ks
  else if op=4 then decide (rs.length=0)&&decide (ks.length=1)&&decide (0≤mn)&&decide (mn≤16)&&(decide (mx=-1)||(decide (mn≤mx)&&decide (mx≤16)))
  else false
mutual
def vns:Rx→Bool|.mk op mn mx rs ks=>vn (.mk op mn mx rs ks)&&zk5 ks
def zk5:List Rx→Bool|[]=>true|k::ks=>vns k&&zk5 ks
end
theorem z96:∀ {l:List Rx},zk5 l=true→∀ k∈l,vns k=true
 | [],_,k,hk=>by simp at hk
 | x::l,h,k,hk=>by
  rw[zk5,zA7] at h
  rw[zAc] at hk
  rcases hk with rfl|hk
  · exact h.1
  · exact z96 h.2 k hk
def rep (mn mx n:Int):Int:=if mx=-1 then n*max mn 1 else n*mx
mutual
def ps (C:Int):Rx→Int
 | .mk op mn mx rs ks=>if op=1 then 1 else if op=4 then min (rep mn mx (psL C ks 0)) C else min (psL C ks 0) C
def psL (C:Int):List Rx→Int→Int
 | [],n=>n
 | k::ks,n=>psL C ks (min (n+ps C k) C)
end
mutual
def pn:Rx→Int
 | .mk op mn mx rs ks=>if op=1 then 1 else if op=4 then rep mn mx (pnL ks) else pnL ks
def pnL:List Rx→Int
 | []=>0
 | k::ks=>pn k+pnL ks
end
def val (e:Rx):Int:=if 200<sz e∨40<dp e then 2 else if vns e=false then 1 else if 64<pn e then 2 else 0
theorem z65 {op mn mx:Int} {rs:List (Int × Int)} {ks:List Rx} (h:vn (.mk op mn mx rs ks)=true) :
 (op=1∧mn=0∧mx=0∧ks=[]∧zos rs=true)∨(op=2∧mn=0∧mx=0∧rs=[]∧ks.length≠1∧z6k 2 ks=true)∨(op=3∧mn=0∧mx=0∧rs=[]∧1<ks.length∧z6k 3 ks=true) ∨
 (op=4∧rs=[]∧(∃ k,ks=[k])∧0≤mn∧mn≤16∧(mx=-1∨mn≤mx∧mx≤16)):=by
 rw[vn] at h
 split at h
 · rename_i h1
   simp only[zA7,zA3] at h
   exact .inl ⟨h1,h.1.1.1,h.1.1.2,List.eq_nil_of_length_eq_zero h.1.2,h.2⟩
 split at h
 · rename_i h1
   simp only[zA7,zA3,zA6,zA5] at h
   exact .inr (.inl ⟨h1,h.1.1.1.1,h.1.1.1.2,List.eq_nil_of_length_eq_zero h.1.1.2,h.1.2,h1▸h.2⟩)
 split at h
 · rename_i h1
   simp only[zA7,zA3] at h
   exact .inr (.inr (.inl ⟨h1,h.1.1.1.1,h.1.1.1.2,List.eq_nil_of_length_eq_zero h.1.1.2,h.1.2,h1▸h.2⟩))
 split at h
 · rename_i h1
   simp only[zA7,zAu,zA3] at h
   refine .inr (.inr (.inr ⟨h1,List.eq_nil_of_length_eq_zero h.1.1.1.1,?_,h.1.1.2,h.1.2,h.2⟩))
   match ks,h.1.1.1.2 with
   | [k],_=>exact⟨k,rfl⟩
 · cases h
theorem zve:(∀ e:Rx,vns e=true→0≤pn e)∧∀ l:List Rx,zk5 l=true→0≤pnL l:=by
 refine Rx.ind (fun op mn mx rs ks ih h=>?_) (fun _=>by simp[pnL]) (fun k ks hk ih h=>?_)
 · rw[vns,zA7] at h
   have:=ih h.2
   rw[pn]
   split
   · decide
   split
   · rename_i h4
     rcases z65 h.1 with h1|h1|h1|h1 <;> try omega
     rw[rep]
     split
     · exact Int.mul_nonneg this (by omega)
     · exact Int.mul_nonneg this (by omega)
   · exact this
 · rw[zk5,zA7] at h
   have h1:=hk h.1
   have h2:=ih h.2
   rw[pnL];omega
theorem zrz {C P m:Int} (hC:1≤C) (hP:0≤P) (hm:0≤m):min (min P C*m) C=min (P*m) C:=by
 by_cases h:P≤C
 · rw[Int.min_eq_left h]
 · rw[Int.min_eq_right (show C≤P by omega)]
   by_cases h0:m=0
   · subst h0;rw[Int.mul_zero,Int.mul_zero]
   have h1:C*1≤C*m:=Int.mul_le_mul_of_nonneg_left (by omega) (by omega)
   have h2:P*1≤P*m:=Int.mul_le_mul_of_nonneg_left (by omega) (by omega)
   rw[Int.min_eq_right (show C≤C*m by omega),Int.min_eq_right (show C≤P*m by omega)]
theorem y65 {C:Int} (hC:1≤C):(∀ e:Rx,vns e=true→ps C e=min (pn e) C)∧∀ l:List Rx,zk5 l=true→∀ n,0≤n→n≤C→psL C l n=min (n+pnL l) C:=by
 refine Rx.ind (fun op mn mx rs ks ih h=>?_) (fun _ n h0 h1=>by rw[psL,pnL];omega) (fun k ks hk ih h n h0 h1=>?_)
 · rw[vns,zA7] at h
   have h0:=ih h.2 0 (by decide) (by omega)
   have hnn:=zve.2 ks h.2
   rw[Int.zero_add] at h0
   rw[ps,pn]
   by_cases h1:op=1
   · rw[zAz h1,zAz h1];omega
   rw[zAy h1,zAy h1]
   by_cases h4:op=4
   · rw[zAz h4,zAz h4,h0]
     rcases z65 h.1 with h1|h1|h1|h1 <;> try omega
     rw[rep,rep]
     split
     · exact zrz hC hnn (by omega)
     · exact zrz hC hnn (by omega)
   · rw[zAy h4,zAy h4,h0];omega
 · rw[zk5,zA7] at h
   have hp:=zve.1 k h.1
   have hq:=zve.2 ks h.2
   rw[psL,hk h.1,ih h.2 _ (by omega) (by omega),pnL];omega
theorem y4f (e:Rx):val e=if (sm e 1 0).1=false then 2 else if vns e=false then 1 else if 64<ps 65 e then 2 else 0:=by
 have h:=zp5.1 e 1 0 (by decide) (by decide) (by decide)
 rw[val]
 by_cases hc:(1:Int)+dp e≤41∧0+(sz e:Int)≤200
 · rw[zAz hc] at h
   have h1:(sm e 1 0).1=true:=by rw[h]
   rw[h1,zAy (show ¬ (200<sz e∨40<dp e) by omega)]
   cases hv:vns e with
   | false=>simp
   | true =>
    rw[(y65 (by decide)).1 e hv]
    simp only[Bool.true_eq_false,if_false]
    by_cases hp:64<pn e
    · rw[zAz hp,zAz (by omega)]
    · rw[zAy hp,zAy (by omega)]
 · rw[zAy hc] at h
   rw[zAz (by omega),zAz h]
structure U where
 r:Int
 n:Nat
inductive Rd (α:Type) where
 | ok (a:α) (rest:List U)
 | err (at_:List U) (e:Int)
 | out
def nx:List U→Int|[]=> -1|u::_=>u.r
def spA:List Int:=[92,46,91,93,40,41,123,125,124,42,43,63]
def spC:List Int:=[92,91,93,94,45]
def dgt (c:Int):Bool:=decide (48≤c)&&decide (c≤57)
def y1i (least:Int):List U→Rd Int
 | []=>.err [] 3
 | c::l =>
  if dgt c.r=false then .err (c::l) 3
  else if 0<c.r-48∧l=[] then .err [] 3
  else if 0<c.r-48∧dgt (nx l)=true then
   (if 16<10*(c.r-48)+(nx l-48)∨10*(c.r-48)+(nx l-48)<least then .err (c::l) 8 else .ok (10*(c.r-48)+(nx l-48)) l.tail)
  else if 16<c.r-48∨c.r-48<least then .err (c::l) 8 else .ok (c.r-48) l
def zvi (lo hi:Int) (l:List U):Rd (Int × Int):=if nx l=125 then .ok (lo,hi) l else .err l 3
def zye (l:List U):Rd (Int × Int):=match y1i 0 l with
 | .out=>.out
 | .err a e=>.err a e
 | .ok lo l1=>if nx l1=44 then
  (if nx l1.tail=125 then zvi lo (-1) l1.tail else match y1i lo l1.tail with
    | .out=>.out
    | .err a e=>.err a e
    | .ok hi l3=>zvi lo hi l3)
  else zvi lo lo l1
def y18 (sp:List Int):List U→Rd Int
 | []=>.err [] 3
 | c::l=>if c.r=92 then (match l with|[]=>.err [] 3|d::l2=>if sp.contains d.r=true then .ok d.r l2 else .err (d::l2) 3)
  else if sp.contains c.r=true then .err (c::l) 3 else .ok c.r l
theorem zh9 (sp:List Int) (c:U) (l:List U):y18 sp (c::l)=if c.r=92 then (match l with|[]=>.err [] 3|d::l2=>if sp.contains d.r=true then .ok d.r l2 else .err (d::l2) 3) else if sp.contains c.r=true then .err (c::l) 3 else .ok c.r l:=by
 cases l <;> rfl
theorem zi6 (c:Int) (n:Nat) (R:List U):nx (⟨c,n⟩::R)=c:=rfl
def y3n (l:List U):Rd (Int × Int):=match y18 spC l with
 | .out=>.out
 | .err a e=>.err a e
 | .ok a l1=>if nx l1=45 then (match y18 spC l1.tail with
  | .out=>.out
  | .err a e=>.err a e
  | .ok b l2=>if b<a then .err l 8 else .ok (a,b) l2)
  else .ok (a,a) l1
def zfd:Nat→List (Int × Int)→List U→Rd (List (Int × Int))
 | 0,_,_=>.out
 | n+1,acc,l=>if acc≠[]∧nx l=93 then .ok acc l.tail else match y3n l with
  | .out=>.out
  | .err a e=>.err a e
  | .ok r l1=>zfd n (acc++[r]) l1
def ztb (r:Int × Int):List (Int × Int)→List (Int × Int)
 | []=>[r]
 | x::l=>if r.1<x.1 then r::x::l else x::ztb r l
def y82 (l:List (Int × Int)):List (Int × Int):=l.foldl (fun a r=>ztb r a) []
def zn9:Int × Int→List (Int × Int)→List (Int × Int)
 | p,[]=>[p]
 | p,r::l=>if r.1≤p.2+1 then zn9 (p.1,max p.2 r.2) l else p::zn9 r l
def y1z:List (Int × Int)→List (Int × Int)|[]=>[]|r::l=>zn9 r l
def norm (l:List (Int × Int)):List (Int × Int):=y1z (y82 l)
def y7t:Int→List (Int × Int)→List (Int × Int)
 | from_,[]=>if from_≤1114111 then [(from_,1114111)] else []
 | from_,r::l=>if from_<r.1 then (from_,r.1-1)::y7t (r.2+1) l else y7t (r.2+1) l
def y8w (l:List (Int × Int)):List (Int × Int):=y7t 0 (norm l)
def y2l (l:List (Int × Int)):Rx:=.mk 1 0 0 l []
def one (a b:Int):Rx:=y2l [(a,b)]
def y92 (n:Nat) (l:List U):Rd Rx :=
 if nx l.tail=94 then (match zfd n [] l.tail.tail with
  | .out=>.out
  | .err a e=>.err a e
  | .ok rs l1=>if (y8w rs).length=0 then .err l 1 else .ok (y2l (y8w rs)) l1)
 else (match zfd n [] l.tail with
  | .out=>.out
  | .err a e=>.err a e
  | .ok rs l1=>.ok (y2l (norm rs)) l1)
def y2n (lo hi:Int) (e:Rx):Rx:=.mk 4 lo hi [] [e]
def flat (o:Int) (e:Rx):List Rx:=if e.op=o then e.ks else [e]
def fin (o:Int):List Rx→Rx
 | [e]=>e
 | l=>.mk o 0 0 [] l
mutual
def pU:Nat→List Rx→List U→Rd Rx
 | 0,_,_=>.out
 | n+1,acc,l=>match pC n [] l with
  | .out=>.out
  | .err a e=>.err a e
  | .ok e l1=>if nx l1=124 then pU n (acc++flat 3 e) l1.tail else .ok (fin 3 (acc++flat 3 e)) l1
def pC:Nat→List Rx→List U→Rd Rx
 | 0,_,_=>.out
 | n+1,acc,l=>if nx l<0∨nx l=124∨nx l=41 then .ok (fin 2 acc) l else match pR n l with
  | .out=>.out
  | .err a e=>.err a e
  | .ok e l1=>pC n (acc++flat 2 e) l1
def pR:Nat→List U→Rd Rx
 | 0,_=>.out
 | n+1,l=>match pA n l with
  | .out=>.out
  | .err a e=>.err a e
  | .ok e l1=>pQ n e l1
def pQ:Nat→Rx→List U→Rd Rx
 | 0,_,_=>.out
 | n+1,e,l=>if nx l=42 then pQ n (y2n 0 (-1) e) l.tail else if nx l=43 then pQ n (y2n 1 (-1) e) l.tail else if nx l=63 then pQ n (y2n 0 1 e) l.tail
  else if nx l=123 then (match zye l.tail with
   | .out=>.out
   | .err a e=>.err a e
   | .ok b l1=>pQ n (y2n b.1 b.2 e) l1.tail)
  else .ok e l
def pA:Nat→List U→Rd Rx
 | 0,_=>.out
 | n+1,l=>if nx l=40 then (match pU n [] l.tail with
  | .out=>.out
  | .err a e=>.err a e
  | .ok e l1=>if nx l1=41 then .ok e l1.tail else .err l1 3)
  else if nx l=46 then .ok (one 0 1114111) l.tail
  else if nx l=91 then y92 n l
  else match y18 spA l with
   | .out=>.out
   | .err a e=>.err a e
   | .ok c l1=>.ok (one c c) l1
end
abbrev Rg:=Int × Int
def inS (l:List Rg) (c:Int):Prop:=∃ r∈l,r.1≤c∧c≤r.2
def nrm:Int→List Rg→Prop
 | _,[]=>True
 | a,r::l=>a≤r.1∧r.1≤r.2∧nrm (r.2+2) l
theorem zkf:∀ {l:List Rg} {a b:Int},b≤a→nrm a l→nrm b l
 | [],_,_,_,_=>trivial
 | r::l,a,b,h,⟨h1,h2,h3⟩=>⟨by omega,h2,h3⟩
theorem zrc:∀ {l:List Rg} {a:Int},nrm a l→∀ c,inS l c→a≤c
 | [],_,_,c,⟨r,hr,_⟩=>by simp at hr
 | r::l,a,⟨h1,h2,h3⟩,c,⟨x,hx,h4,h5⟩=>by
  rw[zAc] at hx
  rcases hx with rfl|hx
  · omega
  · have:=zrc h3 c ⟨x,hx,h4,h5⟩;omega
theorem z1y (r:Rg) (l:List Rg) (c:Int):inS (r::l) c↔(r.1≤c∧c≤r.2)∨inS l c:=by
 constructor
 · rintro⟨x,hx,h⟩
   rw[zAc] at hx
   rcases hx with rfl|hx
   · exact .inl h
   · exact .inr ⟨x,hx,h⟩
 · rintro(h|⟨x,hx,h⟩)
   · exact⟨r,by simp,h⟩
   · exact⟨x,by simp[hx],h⟩
theorem zlc:∀ (l m:List Rg) (a:Int),nrm a l→nrm a m→(∀ c,inS l c↔inS m c)→l=m
 | [],[],_,_,_,_=>rfl
 | [],r::m,a,_,⟨h1,h2,h3⟩,h=>by
  obtain⟨x,hx,_⟩:=(h r.1).2 ⟨r,by simp,Int.le_refl _,h2⟩
  simp at hx
 | r::l,[],a,⟨h1,h2,h3⟩,_,h=>by
  obtain⟨x,hx,_⟩:=(h r.1).1 ⟨r,by simp,Int.le_refl _,h2⟩
  simp at hx
 | r::l,s::m,a,⟨h1,h2,h3⟩,⟨k1,k2,k3⟩,h=>by
  have g1:∀ c,inS l c→r.2+2≤c:=zrc h3
  have g2:∀ c,inS m c→s.2+2≤c:=zrc k3
  have e1:r.1=s.1:=by
   have q1:=(h r.1).1 ((z1y r l _).2 (.inl ⟨Int.le_refl _,h2⟩))
   have q2:=(h s.1).2 ((z1y s m _).2 (.inl ⟨Int.le_refl _,k2⟩))
   rw[z1y] at q1 q2
   rcases q1 with q1|q1 <;> rcases q2 with q2|q2
   · omega
   · have:=g1 _ q2;omega
   · have:=g2 _ q1;omega
   · have:=g2 _ q1;have:=g1 _ q2;omega
  have e2:r.2=s.2:=by
   false_or_by_contra
   rename_i hne
   by_cases hlt:r.2<s.2
   · have q:=(h (r.2+1)).2 ((z1y s m _).2 (.inl ⟨by omega,by omega⟩))
     rw[z1y] at q
     rcases q with q|q
     · omega
     · have:=g1 _ q;omega
   · have q:=(h (s.2+1)).1 ((z1y r l _).2 (.inl ⟨by omega,by omega⟩))
     rw[z1y] at q
     rcases q with q|q
     · omega
     · have:=g2 _ q;omega
  have e:r=s:=Prod.ext e1 e2
  subst e
  congr 1
  refine zlc l m (r.2+2) h3 k3 fun c=>?_
  constructor
  · intro hc
    have:=g1 c hc
    have q:=(h c).1 ((z1y r l c).2 (.inr hc))
    rw[z1y] at q
    rcases q with q|q
    · omega
    · exact q
  · intro hc
    have:=g2 c hc
    have q:=(h c).2 ((z1y r m c).2 (.inr hc))
    rw[z1y] at q
    rcases q with q|q
    · omega
    · exact q
def zyi:Int→List Rg→Prop
 | _,[]=>True
 | a,r::l=>a≤r.1∧r.1≤r.2∧zyi r.1 l
theorem z9w:∀ (l:List Rg) (p:Rg),p.1≤p.2→zyi p.1 l→nrm p.1 (zn9 p l)∧∀ c,inS (zn9 p l) c↔inS (p::l) c
 | [],p,hp,_=>⟨⟨Int.le_refl _,hp,trivial⟩,fun c=>Iff.rfl⟩
 | r::l,p,hp,⟨h1,h2,h3⟩=>by
  rw[zn9]
  by_cases h:r.1≤p.2+1
  · rw[zAz h]
    have ha:zyi p.1 l:=by
     cases l with
     | nil=>trivial
     | cons x l=>exact⟨by have:=h3.1;omega,h3.2⟩
    obtain⟨i1,i2⟩:=z9w l (p.1,max p.2 r.2) (by simp only;omega) ha
    refine⟨i1,fun c=>?_⟩
    rw[i2,z1y,z1y,z1y]
    simp only
    constructor
    · rintro(h|h)
      · by_cases hc:c≤p.2
        · exact .inl ⟨h.1,hc⟩
        · exact .inr (.inl ⟨by omega,by omega⟩)
      · exact .inr (.inr h)
    · rintro(h|h|h)
      · exact .inl ⟨h.1,by omega⟩
      · exact .inl ⟨by omega,by omega⟩
      · exact .inr h
  · rw[zAy h]
    obtain⟨i1,i2⟩:=z9w l r h2 h3
    refine⟨⟨Int.le_refl _,hp,nrm_mono' i1 (by omega)⟩,fun c=>?_⟩
    rw[z1y,i2,z1y p]
where
 nrm_mono' {l:List Rg} {a b:Int} (h:nrm b l) (hab:a≤b):nrm a l:=zkf hab h
theorem zlu (r:Rg):∀ (l:List Rg) (x:Rg),x∈ztb r l↔x=r∨x∈l
 | [],x=>by simp[ztb]
 | y::l,x=>by
  rw[ztb]
  split
  · simp
  · rw[zAc,zlu r l,zAc]
    constructor
    · rintro(h|h|h) <;> simp[h]
    · rintro(h|h|h) <;> simp[h]
theorem zlw (r:Rg) (hr:r.1≤r.2):∀ (l:List Rg) (a:Int),zyi a l→a≤r.1→zyi a (ztb r l)
 | [],a,_,h=>⟨h,hr,trivial⟩
 | x::l,a,⟨h1,h2,h3⟩,h=>by
  rw[ztb]
  split
  · exact⟨h,hr,by omega,h2,h3⟩
  · exact⟨h1,h2,zlw r hr l x.1 h3 (by omega)⟩
theorem zki:∀ (l acc:List Rg) (a:Int),(∀ r∈l,a≤r.1∧r.1≤r.2)→zyi a acc→zyi a (l.foldl (fun q r=>ztb r q) acc)∧∀ x,x∈l.foldl (fun q r=>ztb r q) acc↔x∈acc∨x∈l
 | [],acc,a,_,h=>⟨h,fun x=>by simp⟩
 | r::l,acc,a,h,ha=>by
  have hr:=h r (by simp)
  obtain⟨i1,i2⟩:=zki l (ztb r acc) a (fun x hx=>h x (by simp[hx])) (zlw r hr.2 acc a ha hr.1)
  refine⟨i1,fun x=>?_⟩
  rw[List.foldl_cons,i2,zlu,zAc]
  constructor
  · rintro((h|h)|h) <;> simp[h]
  · rintro(h|h|h) <;> simp[h]
theorem zn0 {l:List Rg} {a:Int} (h:zyi a l):nrm a (y1z l)∧∀ c,inS (y1z l) c↔inS l c:=by
 cases l with
 | nil=>exact⟨trivial,fun _=>Iff.rfl⟩
 | cons r l =>
  obtain⟨h1,h2,h3⟩:=h
  obtain⟨i1,i2⟩:=z9w l r h2 h3
  exact⟨zkf h1 i1,i2⟩
theorem zrr {l:List Rg} {a:Int} (h:∀ r∈l,a≤r.1∧r.1≤r.2):nrm a (norm l)∧∀ c,inS (norm l) c↔inS l c:=by
 obtain⟨h1,h2⟩:=zki l [] a h trivial
 obtain⟨i1,i2⟩:=zn0 h1
 refine⟨i1,fun c=>(i2 c).trans ?_⟩
 constructor
 · rintro⟨r,hr,hc⟩;exact⟨r,by simpa using (h2 r).1 hr,hc⟩
 · rintro⟨r,hr,hc⟩;exact⟨r,(h2 r).2 (.inr hr),hc⟩
theorem norm_eq {l m:List Rg} {a:Int} (h:∀ r∈l,a≤r.1∧r.1≤r.2) (hm:nrm a m) (he:∀ c,inS m c↔inS l c):m=norm l:=by
 obtain⟨j1,j2⟩:=zrr h
 exact zlc _ _ a hm j1 fun c=>(he c).trans (j2 c).symm
where
 zhr:∀ {l:List Rg} {a:Int},nrm a l→∀ r∈l,r.1≤r.2
 | [],_,_,r,hr=>by simp at hr
 | x::l,a,⟨_,h2,h3⟩,r,hr=>by
  rw[zAc] at hr
  rcases hr with rfl|hr
  · exact h2
  · exact zhr h3 r hr
theorem zck:∀ {l:List Rg} {a:Int},zdm a l=true→nrm a l∧∀ r∈l,r.2≤1114111
 | [],_,_=>⟨trivial,by simp⟩
 | r::l,a,h=>by
  rw[zdm] at h
  simp only[zA7,zA3] at h
  obtain⟨i1,i2⟩:=zck h.2
  refine⟨⟨h.1.1.1,h.1.1.2,i1⟩,fun x hx=>?_⟩
  rw[zAc] at hx
  rcases hx with rfl|hx
  · exact h.1.2
  · exact i2 x hx
end Go.Rx
namespace Go.Rx
def quo (sp:List Int) (c:Int):List Int:=if sp.contains c=true then [92,c] else [c]
def zds (r:Rg):List Int:=quo spC r.1++(if r.1+1<r.2 then [45] else [])++(if r.1<r.2 then quo spC r.2 else [])
def zjz:List Rg→List Int
 | []=>[]
 | r::l=>if r.1=0∧r.2=1114111 then [46] else if l.length=0∧r.1=r.2 then quo spA r.1 else [91]++(r::l).flatMap zds++[93]
def dgs (n:Int):List Int:=if n<10 then [48+n] else [48+n / 10,48+n % 10]
def zdl (lo hi:Int):List Int :=
 if lo=0∧hi=-1 then [42] else if lo=1∧hi=-1 then [43] else if lo=0∧hi=1 then [63]
 else if hi=-1 then [123]++dgs lo++[44,125] else if lo=hi then [123]++dgs lo++[125] else [123]++dgs lo++[44]++dgs hi++[125]
def brk (b:Bool) (l:List Int):List Int:=if b=true then [40]++l++[41] else l
mutual
def fm:Rx→Int→List Int
 | .mk op mn mx rs ks,w=>if op=1 then zjz rs else if op=2 then brk (decide (w=4)) (fmC ks) else if op=3 then brk (decide (w=4)||decide (w=2)) (fmU ks) else brk (decide (w=4)) (fm1 ks++zdl mn mx)
def fmC:List Rx→List Int
 | []=>[]
 | k::ks=>fm k 2++fmC ks
def fmU:List Rx→List Int
 | []=>[]
 | k::ks=>fm k 3++fmV ks
def fmV:List Rx→List Int
 | []=>[]
 | k::ks=>[124]++(fm k 3++fmV ks)
def fm1:List Rx→List Int
 | []=>[]
 | k::_=>fm k 4
end
def txl (r:Rg):Bool:=decide (r.1≤57343)&&decide (55296≤r.2)&&(decide (55295<r.1)||decide (r.2<57344))
mutual
def wrt:Rx→Bool|.mk _ _ _ rs ks=>!rs.any txl&&y6g ks
def y6g:List Rx→Bool|[]=>true|k::ks=>wrt k&&y6g ks
end
def mkU (z:Int→Nat) (l:List Int):List U:=l.map fun c=>⟨c,z c⟩
section
variable {z:Int→Nat}
theorem z3h (a b:List Int):mkU z (a++b)=mkU z a++mkU z b:=by simp[mkU]
theorem zir (l:List Int):(mkU z l).length=l.length:=by simp[mkU]
theorem zmk (sp:List Int) (c:Int) (R:List U):nx (mkU z (quo sp c)++R)=if sp.contains c=true then 92 else c:=by
 unfold quo;split <;> rfl
theorem z7v {sp:List Int} (hsp:sp.contains 92=true) (c:Int) (R:List U):y18 sp (mkU z (quo sp c)++R)=.ok c R:=by
 unfold quo
 by_cases h:sp.contains c=true
 · rw[zAz h]
   show y18 sp (⟨92,z 92⟩::⟨c,z c⟩::R)=_
   rw[zh9,zAz rfl]
   simp only
   rw[zAz h]
 · rw[zAy h]
   show y18 sp (⟨c,z c⟩::R)=_
   rw[zh9,zAy (show ¬ c=92 from fun e=>h (by rw[e];exact hsp)),zAy h]
theorem y4k {c d:Int} (h:spC.contains c=false) (hd:spC.contains d=true):c≠d:=fun e=>by rw[e,hd] at h;cases h
theorem zd8 (c:Int) (R:List U) {d:Int} (hd:spC.contains d=true) (h92:d≠92):nx (mkU z (quo spC c)++R)≠d:=by
 rw[zmk]
 split
 · exact fun e=>h92 e.symm
 · rename_i h
   exact y4k (by simpa using h) hd
def spl (r:Rg):List Rg:=if r.1+1=r.2 then [(r.1,r.1),(r.2,r.2)] else [r]
theorem zhy:∀ (rs:List Rg) (n:Nat) (acc:List Rg) (R:List U),(∀ r∈rs,r.1≤r.2)→acc≠[]∨rs≠[]→2*rs.length+1≤n→zfd n acc (mkU z (rs.flatMap zds++[93])++R)=.ok (acc++rs.flatMap spl) R
 | [],n,acc,R,_,h,hn=>by
  obtain⟨n,rfl⟩:∃ k,n=k+1:=⟨n-1,by omega⟩
  have ha:acc≠[]:=h.elim id fun h=>absurd rfl h
  rw[zfd,zAz ⟨ha,rfl⟩]
  simp[mkU]
 | r::rs,n,acc,R,hr,_,hn=>by
  simp only[zAk] at hn
  obtain⟨n,rfl⟩:∃ k,n=k+1:=⟨n-1,by omega⟩
  have hle:=hr r (by simp)
  have hT:∃ T,mkU z (rs.flatMap zds++[93])++R=T∧nx T≠45:=by
   refine⟨_,rfl,?_⟩
   cases rs with
   | nil=>simp[mkU,nx]
   | cons s rs =>
    exact zD124
  obtain⟨T,hT1,hT2⟩:=hT
  have ih:=fun (m:Nat) (acc':List Rg) (ha:acc'≠[]) (hm:2*rs.length+1≤m)=>zhy rs m acc' R (fun x hx=>hr x (by simp[hx])) (.inl ha) hm
  rw[hT1] at ih
  have e0:mkU z ((r::rs).flatMap zds++[93])++R=mkU z (zds r)++T:=by
   rw[← hT1,List.flatMap_cons,zAl,z3h,zAl]
  rw[e0]
  have hstop:∀ (T':List U) (a:List Rg),¬ (a≠[]∧nx (mkU z (quo spC r.1)++T')=93):=fun T' a h=>zd8 r.1 T' (d:=93) rfl (by decide) h.2
  by_cases h1:r.1+1<r.2
  · have ef:zds r=quo spC r.1++([45]++quo spC r.2):=by rw[zds,zAz h1,zAz (by omega),zAl]
    rw[ef,z3h,zAl,zfd,zAy (hstop _ _),y3n,z7v rfl]
    simp only
    rw[z3h]
    show (match (if nx (⟨45,z 45⟩::(mkU z (quo spC r.2)++T))=45 then _ else _:Rd (Int × Int)) with|.out=>_|.err a e=>_|.ok r l1=>_)=_
    rw[zAz (show nx (⟨45,z 45⟩::(mkU z (quo spC r.2)++T))=45 from rfl)]
    have:(⟨45,z 45⟩::(mkU z (quo spC r.2)++T):List U).tail=mkU z (quo spC r.2)++T:=rfl
    have e45:(mkU z [45]++mkU z (quo spC r.2)++T).tail=mkU z (quo spC r.2)++T:=rfl
    rw[e45,z7v rfl]
    simp only
    rw[zAy (by omega)]
    simp only
    rw[ih n _ (by simp) (by omega),List.flatMap_cons,spl,zAy (by omega)]
    simp
  · by_cases h2:r.1<r.2
    · have he:r.1+1=r.2:=by omega
      obtain⟨n,rfl⟩:∃ k,n=k+1:=⟨n-1,by omega⟩
      have ef:zds r=quo spC r.1++quo spC r.2:=by rw[zds,zAy h1,zAz h2];simp
      rw[ef,z3h,zAl,zfd,zAy (hstop _ _),y3n,z7v rfl]
      simp only
      rw[zAy (zd8 r.2 T (d:=45) rfl (by decide))]
      simp only
      rw[zfd,zAy (fun h=>zd8 r.2 T (d:=93) rfl (by decide) h.2),y3n,z7v rfl]
      simp only
      rw[zAy hT2]
      simp only
      rw[ih n _ (by simp) (by omega),List.flatMap_cons,spl,zAz he]
      simp
    · have ef:zds r=quo spC r.1:=by rw[zds,zAy h1,zAy h2];simp
      rw[ef,zfd,zAy (hstop _ _),y3n,z7v rfl]
      simp only
      rw[zAy hT2]
      simp only
      rw[ih n _ (by simp) (by omega),List.flatMap_cons,spl,zAy (by omega)]
      have:(r.1,r.1)=r:=Prod.ext rfl (by simp only;omega)
      rw[this];simp
theorem zxw:∀ (rs:List Rg),(∀ r∈rs,r.1≤r.2)→∀ c,inS rs c↔inS (rs.flatMap spl) c
 | [],_,c=>Iff.rfl
 | r::rs,h,c=>by
  have hr:=h r (by simp)
  have ih:=zxw rs (fun x hx=>h x (by simp[hx])) c
  rw[z1y,List.flatMap_cons,ih]
  have:inS (spl r++rs.flatMap spl) c↔inS (spl r) c∨inS (rs.flatMap spl) c:=by
   constructor
   · rintro⟨x,hx,hc⟩
     rw[zAt] at hx
     exact hx.elim (fun hx=>.inl ⟨x,hx,hc⟩) fun hx=>.inr ⟨x,hx,hc⟩
   · rintro(⟨x,hx,hc⟩|⟨x,hx,hc⟩)
     · exact⟨x,by simp[hx],hc⟩
     · exact⟨x,zAt.2 (.inr hx),hc⟩
  rw[this]
  refine or_congr ?_ Iff.rfl
  rw[spl]
  split
  · rename_i he
    rw[z1y,z1y]
    simp only
    constructor
    · intro h
      by_cases h1:c=r.1
      · exact .inl (by omega)
      · exact .inr (.inl (by omega))
    · rintro(h|h|⟨x,hx,_⟩)
      · omega
      · omega
      · simp at hx
  · rw[z1y]
    exact⟨.inl,fun h=>h.elim id fun ⟨x,hx,_⟩=>by simp at hx⟩
theorem y4o {rs:List Rg} {a:Int} (h:nrm a rs):∀ x∈rs.flatMap spl,a≤x.1∧x.1≤x.2:=by
 induction rs generalizing a with
 | nil=>simp
 | cons r rs ih =>
  obtain⟨h1,h2,h3⟩:=h
  intro x hx
  rw[List.flatMap_cons,zAt] at hx
  rcases hx with hx|hx
  · rw[spl] at hx
    split at hx
    · simp only[zAc,List.not_mem_nil,or_false] at hx
      rcases hx with rfl|rfl <;> simp only <;> omega
    · simp only[zAc,List.not_mem_nil,or_false] at hx
      subst hx;exact⟨h1,h2⟩
  · have:=ih h3 x hx;omega
theorem zhr:∀ {l:List Rg} {a:Int},nrm a l→∀ r∈l,r.1≤r.2
 | [],_,_,r,hr=>by simp at hr
 | x::l,a,⟨_,h2,h3⟩,r,hr=>by
  rw[zAc] at hr
  rcases hr with rfl|hr
  · exact h2
  · exact zhr h3 r hr
theorem zul (r:Rg):1≤(zds r).length:=by
 have:1≤(quo spC r.1).length:=by unfold quo;split <;> simp
 rw[zds,zAa,zAa];omega
theorem zw1 {rs:List Rg} (h:zos rs=true) (n:Nat) (R:List U) (hn:2*rs.length+2≤n):pA n (mkU z (zjz rs)++R)=.ok (y2l rs) R:=by
 rw[zos,zA7,zA3] at h
 obtain⟨hs,hb⟩:=zck h.1
 cases rs with
 | nil=>simp at h
 | cons r l =>
 obtain⟨n,rfl⟩:∃ k,n=k+1:=⟨n-1,by omega⟩
 simp only[zAk] at hn
 rw[zjz]
 by_cases h1:r.1=0∧r.2=1114111
 · rw[zAz h1]
   have hl:l=[]:=by
    exact zD131
   subst hl
   show pA (n+1) (⟨46,z 46⟩::R)=_
   rw[pA,zi6,zAy (by decide),zAz rfl]
   show Rd.ok (y2l [(0,1114111)]) R=_
   rw[show r=(0,1114111) from Prod.ext h1.1 h1.2]
 rw[zAy h1]
 by_cases h2:l.length=0∧r.1=r.2
 · rw[zAz h2]
   have hl:l=[]:=List.eq_nil_of_length_eq_zero h2.1
   subst hl
   have hne:∀ d:Int,spA.contains d=true→d≠92→nx (mkU z (quo spA r.1)++R)≠d:=fun d hd h92=>by
    exact zD123
   rw[pA,zAy (hne 40 rfl (by decide)),zAy (hne 46 rfl (by decide)),zAy (hne 91 rfl (by decide)),z7v rfl]
   simp only[one,y2l]
   rw[show r=(r.1,r.1) from Prod.ext rfl (by simp only;omega)]
 · rw[zAy h2,zAl,z3h,zAl]
   show pA (n+1) (⟨91,z 91⟩::(mkU z ((r::l).flatMap zds++[93])++R))=_
   rw[pA,zi6,zAy (by decide),zAy (by decide),zAz rfl,y92]
   have ht:(⟨91,z 91⟩::(mkU z ((r::l).flatMap zds++[93])++R):List U).tail=mkU z ((r::l).flatMap zds++[93])++R:=rfl
   rw[ht]
   have hnx:nx (mkU z ((r::l).flatMap zds++[93])++R)≠94:=by
    exact zD124
   rw[zAy hnx,zhy (r::l) n [] R (zhr hs) (.inr (by simp)) (by simp only[zAk];omega)]
   simp only[List.nil_append]
   rw[← norm_eq (y4o hs) hs (zxw _ (zhr hs))]
theorem zbs {k least:Int} (h0:0≤k) (h1:k≤16) (hl:least≤k) {R:List U} (hR:R≠[]) (hd:dgt (nx R)=false):y1i least (mkU z (dgs k)++R)=.ok k R:=by
 unfold dgs
 by_cases h:k<10
 · rw[zAz h]
   show y1i least (⟨48+k,z (48+k)⟩::R)=_
   rw[y1i,zAy (by simp[dgt];omega),zAy (fun h=>hR h.2),zAy (fun h=>by rw[hd] at h;simp at h),zAy (by show ¬ (16<48+k-48∨48+k-48<least);omega)]
   simp only
   congr 1;omega
 · rw[zAy h]
   show y1i least (⟨48+k / 10,z (48+k / 10)⟩::⟨48+k % 10,z (48+k % 10)⟩::R)=_
   rw[y1i,zAy (by simp[dgt];omega),zAy (by simp),zAz ⟨by show 0<48+k / 10-48;omega,by show (decide (48≤48+k % 10)&&decide (48+k % 10≤57))=true;rw[zA7,zA3,zA3];omega⟩,zAy (by show ¬ (16<10*(48+k / 10-48)+(48+k % 10-48)∨10*(48+k / 10-48)+(48+k % 10-48)<least);omega)]
   simp only[nx,List.tail_cons]
   congr 1;omega
theorem zuq {lo hi:Int} (h0:0≤lo) (h1:lo≤16) (h2:hi=-1∨lo≤hi∧hi≤16) (n:Nat) (e:Rx) (R:List U):pQ (n+1) e (mkU z (zdl lo hi)++R)=pQ n (y2n lo hi e) R:=by
 unfold zdl
 by_cases c1:lo=0∧hi=-1
 · rw[zAz c1,c1.1,c1.2]
   show pQ (n+1) e (⟨42,z 42⟩::R)=_
   rw[pQ,zi6,zAz rfl];rfl
 rw[zAy c1]
 by_cases c2:lo=1∧hi=-1
 · rw[zAz c2,c2.1,c2.2]
   show pQ (n+1) e (⟨43,z 43⟩::R)=_
   rw[pQ,zi6,zAy (by decide),zAz rfl];rfl
 rw[zAy c2]
 by_cases c3:lo=0∧hi=1
 · rw[zAz c3,c3.1,c3.2]
   show pQ (n+1) e (⟨63,z 63⟩::R)=_
   rw[pQ,zi6,zAy (by decide),zAy (by decide),zAz rfl];rfl
 rw[zAy c3]
 have step:∀ T:List U,zye T=.ok (lo,hi) (⟨125,z 125⟩::R)→pQ (n+1) e (⟨123,z 123⟩::T)=pQ n (y2n lo hi e) R:=fun T hT=>by
  rw[pQ,zi6,zAy (by decide),zAy (by decide),zAy (by decide),zAz rfl]
  show (match zye T with|.out=>_|.err a e=>_|.ok b l1=>_)=_
  rw[hT];rfl
 by_cases c4:hi=-1
 · rw[zAz c4,show mkU z ([123]++dgs lo++[44,125])++R=⟨123,z 123⟩::(mkU z (dgs lo)++(⟨44,z 44⟩::⟨125,z 125⟩::R)) by simp[mkU]]
   refine step _ ?_
   rw[zye,zbs h0 h1 h0 (by simp) rfl]
   simp only
   rw[zi6,zAz rfl]
   show (if nx (⟨125,z 125⟩::R)=125 then zvi lo (-1) (⟨125,z 125⟩::R) else _)=_
   rw[zi6,zAz rfl,zvi,zi6,zAz rfl,c4]
 rw[zAy c4]
 by_cases c5:lo=hi
 · rw[zAz c5,show mkU z ([123]++dgs lo++[125])++R=⟨123,z 123⟩::(mkU z (dgs lo)++(⟨125,z 125⟩::R)) by simp[mkU]]
   refine step _ ?_
   rw[zye,zbs h0 h1 h0 (by simp) rfl]
   simp only
   rw[zi6,zAy (by decide),zvi,zi6,zAz rfl,← c5]
 · rw[zAy c5,show mkU z ([123]++dgs lo++[44]++dgs hi++[125])++R=⟨123,z 123⟩::(mkU z (dgs lo)++(⟨44,z 44⟩::(mkU z (dgs hi)++(⟨125,z 125⟩::R)))) by simp[mkU]]
   refine step _ ?_
   rw[zye,zbs h0 h1 h0 (by simp) rfl]
   simp only
   rw[zi6,zAz rfl]
   have e2:(⟨44,z 44⟩::(mkU z (dgs hi)++(⟨125,z 125⟩::R)):List U).tail=mkU z (dgs hi)++(⟨125,z 125⟩::R):=rfl
   rw[e2]
   have hne:nx (mkU z (dgs hi)++(⟨125,z 125⟩::R))≠125:=by
    unfold dgs
    split
    · show 48+hi≠125;omega
    · show 48+hi / 10≠125;omega
   rw[zAy hne,zbs (by omega) (by omega) (by omega) (by simp) rfl]
   simp only
   rw[zvi,zi6,zAz rfl]
end
end Go.Rx
namespace Go.Rx
def noQ (R:List U):Prop:=nx R≠42∧nx R≠43∧nx R≠63∧nx R≠123
def z5a (R:List U):Prop:=nx R<0∨nx R=124∨nx R=41
def zjv (R:List U):Prop:=nx R<0∨nx R=41
theorem z5a.noQ {R:List U} (h:z5a R):noQ R:=by
 rcases h with h|h|h <;> exact⟨by omega,by omega,by omega,by omega⟩
theorem zjv.z5a {R:List U} (h:zjv R):z5a R:=h.elim .inl fun h=>.inr (.inr h)
section
variable (z:Int→Nat)
structure y6f (e:Rx):Prop where
 a:∀ (n:Nat) (R:List U),4*((fm e 4).length+R.length)+1≤n→pA n (mkU z (fm e 4)++R)=.ok e R
 b:e.op≠2→∀ (n:Nat) (R:List U),4*((fm e 2).length+R.length)+2≤n→noQ R→pR n (mkU z (fm e 2)++R)=.ok e R
 c:e.op≠3→∀ (n:Nat) (R:List U),4*((fm e 3).length+R.length)+3≤n→z5a R→pC n [] (mkU z (fm e 3)++R)=.ok e R
 d:∀ (n:Nat) (R:List U),4*((fm e 0).length+R.length)+4≤n→zjv R→pU n [] (mkU z (fm e 0)++R)=.ok e R
 f:e.op≠2→∀ R:List U,¬ z5a (mkU z (fm e 2)++R)∧noQ (mkU z (fm e 2)++R)∧1≤(fm e 2).length
end
section
variable {z:Int→Nat}
theorem zrn {n:Nat} {e:Rx} {R:List U} (h:noQ R):pQ (n+1) e R=.ok e R:=by
 obtain⟨h1,h2,h3,h4⟩:=h
 rw[pQ,zAy h1,zAy h2,zAy h3,zAy h4]
theorem zrf {n:Nat} {acc:List Rx} {R:List U} (h:z5a R):pC (n+1) acc R=.ok (fin 2 acc) R:=by
 rw[pC];exact zAz h
theorem zpq (l:List Int) (R:List U):mkU z ([40]++l++[41])++R=⟨40,z 40⟩::(mkU z l++(⟨41,z 41⟩::R)):=by
 rw[z3h,z3h];simp[mkU]
theorem zs8 {e:Rx} {l:List Int} (h:∀ (n:Nat) (R:List U),4*(l.length+R.length)+4≤n→zjv R→pU n [] (mkU z l++R)=.ok e R) (n:Nat) (R:List U) (hn:4*((([40]++l++[41]:List Int)).length+R.length)+1≤n) :
 pA n (mkU z ([40]++l++[41])++R)=.ok e R:=by
 obtain⟨n,rfl⟩:∃ k,n=k+1:=⟨n-1,by omega⟩
 rw[zpq,pA,zi6,zAz rfl]
 have ht:(⟨40,z 40⟩::(mkU z l++(⟨41,z 41⟩::R)):List U).tail=mkU z l++(⟨41,z 41⟩::R):=rfl
 rw[ht,h n (⟨41,z 41⟩::R) (by simp only[zAa,zAk,List.length_nil] at hn ⊢;omega) (.inr rfl)]
 simp only
 rw[zi6,zAz rfl];rfl
theorem zuw (l:List Int) (R:List U):¬ z5a (mkU z ([40]++l++[41])++R)∧noQ (mkU z ([40]++l++[41])++R)∧1≤([40]++l++[41]:List Int).length:=by
 rw[zpq]
 refine⟨?_,?_,by simp⟩
 · rintro(h|h|h) <;> simp[nx] at h
 · exact⟨by simp[nx],by simp[nx],by simp[nx],by simp[nx]⟩
theorem zxg {e:Rx} {l:List Int} (h:∀ (n:Nat) (R:List U),4*(l.length+R.length)+1≤n→pA n (mkU z l++R)=.ok e R) (n:Nat) (R:List U) (hn:4*(l.length+R.length)+2≤n) (hR:noQ R):pR n (mkU z l++R)=.ok e R:=by
 obtain⟨n,rfl⟩:∃ k,n=k+2:=⟨n-2,by omega⟩
 rw[pR,h (n+1) R (by omega)]
 simp only
 exact zrn hR
theorem zy7 {e:Rx} {l:List Int} (ho:e.op≠2) (h:∀ (n:Nat) (R:List U),4*(l.length+R.length)+2≤n→noQ R→pR n (mkU z l++R)=.ok e R) (hf:∀ R:List U,¬ z5a (mkU z l++R)∧noQ (mkU z l++R)∧1≤l.length)
 (n:Nat) (R:List U) (hn:4*(l.length+R.length)+3≤n) (hR:z5a R):pC n [] (mkU z l++R)=.ok e R:=by
 obtain⟨n,rfl⟩:∃ k,n=k+2:=⟨n-2,by omega⟩
 rw[pC,zAy (show ¬ (nx (mkU z l++R)<0∨nx (mkU z l++R)=124∨nx (mkU z l++R)=41) from (hf R).1),h (n+1) R (by omega) hR.noQ]
 simp only
 rw[zrf hR,flat,zAy ho];rfl
theorem zpz {e:Rx} {l:List Int} (ho:e.op≠3) (h:∀ (n:Nat) (R:List U),4*(l.length+R.length)+3≤n→z5a R→pC n [] (mkU z l++R)=.ok e R) (n:Nat) (R:List U) (hn:4*(l.length+R.length)+4≤n) (hR:zjv R):pU n [] (mkU z l++R)=.ok e R:=by
 obtain⟨n,rfl⟩:∃ k,n=k+1:=⟨n-1,by omega⟩
 rw[pU,h n R (by omega) hR.z5a]
 simp only
 rw[zAy (by rcases hR with h|h <;> omega),flat,zAy ho];rfl
theorem zsx {o:Int} {l:List Rx} (h:l.length≠1):fin o l=.mk o 0 0 [] l:=by
 unfold fin
 split
 · simp at h
 · rfl
theorem zrd:∀ (ks acc:List Rx) (n:Nat) (R:List U),(∀ k∈ks,y6f z k∧k.op≠2)→4*((fmC ks).length+R.length)+3≤n→z5a R→pC n acc (mkU z (fmC ks)++R)=.ok (fin 2 (acc++ks)) R
 | [],acc,n,R,_,hn,hR=>by
  obtain⟨n,rfl⟩:∃ k,n=k+1:=⟨n-1,by omega⟩
  rw[fmC,List.append_nil]
  exact zrf hR
 | k::ks,acc,n,R,h,hn,hR=>by
  obtain⟨n,rfl⟩:∃ k,n=k+1:=⟨n-1,by omega⟩
  obtain⟨hk,ho⟩:=h k (by simp)
  have hf:=hk.f ho (mkU z (fmC ks)++R)
  rw[fmC,zAa] at hn
  rw[fmC,z3h,zAl,pC,zAy (show ¬ (nx (mkU z (fm k 2)++(mkU z (fmC ks)++R))<0∨nx (mkU z (fm k 2)++(mkU z (fmC ks)++R))=124∨nx (mkU z (fm k 2)++(mkU z (fmC ks)++R))=41) from hf.1)]
  have hq:noQ (mkU z (fmC ks)++R):=by
   cases ks with
   | nil=>exact hR.noQ
   | cons k2 ks =>
    obtain⟨hk2,ho2⟩:=h k2 (by simp)
    rw[fmC,z3h,zAl]
    exact(hk2.f ho2 _).2.1
  rw[hk.b ho n _ (by rw[zAa,zir];omega) hq]
  simp only
  rw[flat,zAy ho,zrd ks (acc++[k]) n R (fun x hx=>h x (by simp[hx])) (by omega) hR,zAl];rfl
theorem zrw:∀ (ks:List Rx) (k:Rx) (acc:List Rx) (n:Nat) (R:List U),(∀ x∈k::ks,y6f z x∧x.op≠3)→4*((fm k 3++fmV ks).length+R.length)+4≤n→zjv R→pU n acc (mkU z (fm k 3++fmV ks)++R)=.ok (fin 3 (acc++k::ks)) R
 | [],k,acc,n,R,h,hn,hR=>by
  obtain⟨n,rfl⟩:∃ k,n=k+1:=⟨n-1,by omega⟩
  obtain⟨hk,ho⟩:=h k (by simp)
  rw[fmV,List.append_nil] at hn ⊢
  rw[pU,hk.c ho n R (by omega) hR.z5a]
  simp only
  rw[zAy (by rcases hR with h|h <;> omega),flat,zAy ho]
 | k2::ks,k,acc,n,R,h,hn,hR=>by
  obtain⟨n,rfl⟩:∃ k,n=k+1:=⟨n-1,by omega⟩
  obtain⟨hk,ho⟩:=h k (by simp)
  have e:mkU z (fm k 3++fmV (k2::ks))++R=mkU z (fm k 3)++(⟨124,z 124⟩::(mkU z (fm k2 3++fmV ks)++R)):=by
   rw[fmV,z3h,z3h,zAl,zAl];rfl
  rw[fmV,zAa,zAa,zAn] at hn
  rw[e,pU,hk.c ho n _ (by simp only[zAk,zAa,zir] at hn ⊢;omega) (.inr (.inl rfl))]
  simp only
  rw[zi6,zAz rfl,flat,zAy ho]
  have ht:(⟨124,z 124⟩::(mkU z (fm k2 3++fmV ks)++R):List U).tail=mkU z (fm k2 3++fmV ks)++R:=rfl
  rw[ht,zrw ks k2 (acc++[k]) n R (fun x hx=>h x (by simp[hx])) (by omega) hR,zAl];rfl
theorem ze4 {o:Int} {ks:List Rx} (h:z6k o ks=true):∀ k∈ks,k.op≠o:=fun k hk=>by
 have:=List.all_eq_true.1 h k hk
 simpa using this
theorem zlh:∀ {l:List Rx},y6g l=true→∀ k∈l,wrt k=true
 | [],_,k,hk=>by simp at hk
 | x::l,h,k,hk=>by
  rw[y6g,zA7] at h
  rw[zAc] at hk
  rcases hk with rfl|hk
  · exact h.1
  · exact zlh h.2 k hk
theorem zdx {rs:List Rg} (h:zos rs=true) (R:List U):¬ z5a (mkU z (zjz rs)++R)∧noQ (mkU z (zjz rs)++R)∧1≤(zjz rs).length∧2*rs.length≤2*(zjz rs).length:=by
 rw[zos,zA7,zA3] at h
 obtain⟨hs,hb⟩:=zck h.1
 cases rs with
 | nil=>simp at h
 | cons r l =>
 rw[zjz]
 have h0:0≤r.1:=hs.1
 by_cases h1:r.1=0∧r.2=1114111
 · rw[zAz h1]
   have hl:l=[]:=by
    exact zD131
   subst hl
   show ¬ z5a (⟨46,z 46⟩::R)∧noQ (⟨46,z 46⟩::R)∧_
   refine⟨?_,⟨by simp[nx],by simp[nx],by simp[nx],by simp[nx]⟩,by simp,by simp⟩
   rintro(h|h|h) <;> simp[nx] at h
 rw[zAy h1]
 by_cases h2:l.length=0∧r.1=r.2
 · rw[zAz h2]
   have hne:∀ d:Int,spA.contains d=true→d≠92→nx (mkU z (quo spA r.1)++R)≠d:=fun d hd h92=>by
    exact zD123
   have hq:1≤(quo spA r.1).length:=by unfold quo;split <;> simp
   refine⟨?_,⟨hne 42 rfl (by decide),hne 43 rfl (by decide),hne 63 rfl (by decide),hne 123 rfl (by decide)⟩,hq,by simp only[zAk];omega⟩
   rintro(h|h|h)
   · rw[zmk] at h;split at h <;> omega
   · exact hne 124 rfl (by decide) h
   · exact hne 41 rfl (by decide) h
 · rw[zAy h2,zAl,z3h,zAl]
   have hlen:∀ q:List Rg,q.length≤(q.flatMap zds).length:=fun q=>by
    induction q with
    | nil=>simp
    | cons x q ih=>rw[List.flatMap_cons,zAa,zAk];have:=zul x;omega
   have:=hlen (r::l)
   show ¬ z5a (⟨91,z 91⟩::_)∧noQ (⟨91,z 91⟩::_)∧_
   refine⟨?_,⟨by simp[nx],by simp[nx],by simp[nx],by simp[nx]⟩,by simp,by simp only[zAa,zAk,List.length_nil] at this ⊢;omega⟩
   rintro(h|h|h) <;> simp[nx] at h
theorem back:∀ e:Rx,vns e=true→wrt e=true→y6f z e:=by
 refine Rx.ind' fun op mn mx rs ks ih h hw=>?_
 rw[vns,zA7] at h
 rw[wrt,zA7] at hw
 have hk:∀ k∈ks,y6f z k:=fun k hk=>ih k hk (z96 h.2 k hk) (zlh hw.2 k hk)
 rcases z65 h.1 with ⟨rfl,rfl,rfl,rfl,hr⟩|⟨rfl,rfl,rfl,rfl,hl,ho⟩|⟨rfl,rfl,rfl,rfl,hl,ho⟩|⟨rfl,rfl,⟨k,rfl⟩,h1,h2,h3⟩
 · have e:∀ w,fm (.mk 1 0 0 rs []) w=zjz rs:=fun w=>by rw[fm,zAz rfl]
   have hff:=fun R=>zdx (z:=z) hr R
   have hA:∀ (n:Nat) (R:List U),4*((zjz rs).length+R.length)+1≤n→pA n (mkU z (zjz rs)++R)=.ok (.mk 1 0 0 rs []) R:=fun n R hn=>zw1 hr n R (by have:=hff R;omega)
   have hB:=zxg hA
   have hf:∀ R:List U,¬ z5a (mkU z (zjz rs)++R)∧noQ (mkU z (zjz rs)++R)∧1≤(zjz rs).length:=fun R=>⟨(hff R).1,(hff R).2.1,(hff R).2.2.1⟩
   have hC:=zy7 (e:=.mk 1 0 0 rs []) (show (1:Int)≠2 from by decide) hB hf
   refine⟨fun n R=>?_,fun _ n R=>?_,fun _ n R=>?_,fun n R=>?_,fun _ R=>?_⟩
   · rw[e];exact hA n R
   · rw[e];exact hB n R
   · rw[e];exact hC n R
   · rw[e];exact zpz (e:=.mk 1 0 0 rs []) (show (1:Int)≠3 from by decide) hC n R
   · rw[e];exact hf R
 · have e3:fm (.mk 2 0 0 [] ks) 3=fmC ks:=by rw[fm,zAy (by decide),zAz rfl];rfl
   have e0:fm (.mk 2 0 0 [] ks) 0=fmC ks:=by rw[fm,zAy (by decide),zAz rfl];rfl
   have e4:fm (.mk 2 0 0 [] ks) 4=[40]++fmC ks++[41]:=by rw[fm,zAy (by decide),zAz rfl];rfl
   have hC:∀ (n:Nat) (R:List U),4*((fmC ks).length+R.length)+3≤n→z5a R→pC n [] (mkU z (fmC ks)++R)=.ok (.mk 2 0 0 [] ks) R:=fun n R hn hR=>by
    rw[zrd ks [] n R (fun k hx=>⟨hk k hx,ze4 ho k hx⟩) hn hR,List.nil_append,zsx hl]
   have hD:=zpz (e:=.mk 2 0 0 [] ks) (show (2:Int)≠3 from by decide) hC
   refine⟨fun n R=>?_,fun h=>absurd rfl h,fun _ n R=>?_,fun n R=>?_,fun h=>absurd rfl h⟩
   · rw[e4];exact zs8 hD n R
   · rw[e3];exact hC n R
   · rw[e0];exact hD n R
 · have e2:fm (.mk 3 0 0 [] ks) 2=[40]++fmU ks++[41]:=by rw[fm,zAy (by decide),zAy (by decide),zAz rfl];rfl
   have e0:fm (.mk 3 0 0 [] ks) 0=fmU ks:=by rw[fm,zAy (by decide),zAy (by decide),zAz rfl];rfl
   have e4:fm (.mk 3 0 0 [] ks) 4=[40]++fmU ks++[41]:=by rw[fm,zAy (by decide),zAy (by decide),zAz rfl];rfl
   obtain⟨k,kr,rfl⟩:∃ k kr,ks=k::kr:=by
    cases ks with
    | nil=>simp at hl
    | cons k kr=>exact⟨k,kr,rfl⟩
   have hD:∀ (n:Nat) (R:List U),4*((fmU (k::kr)).length+R.length)+4≤n→zjv R→pU n [] (mkU z (fmU (k::kr))++R)=.ok (.mk 3 0 0 [] (k::kr)) R:=fun n R hn hR=>by
    rw[fmU] at hn ⊢
    rw[zrw kr k [] n R (fun x hx=>⟨hk x hx,ze4 ho x hx⟩) hn hR,List.nil_append,zsx (by omega)]
   have hA:=zs8 hD
   refine⟨fun n R=>?_,fun _ n R=>?_,fun h=>absurd rfl h,fun n R=>?_,fun _ R=>?_⟩
   · rw[e4];exact hA n R
   · rw[e2];exact zxg hA n R
   · rw[e0];exact hD n R
   · rw[e2];exact zuw _ R
 · have e2:fm (.mk 4 mn mx [] [k]) 2=fm k 4++zdl mn mx:=by rw[fm,zAy (by decide),zAy (by decide),zAy (by decide),fm1];rfl
   have e3:fm (.mk 4 mn mx [] [k]) 3=fm k 4++zdl mn mx:=by rw[fm,zAy (by decide),zAy (by decide),zAy (by decide),fm1];rfl
   have e0:fm (.mk 4 mn mx [] [k]) 0=fm k 4++zdl mn mx:=by rw[fm,zAy (by decide),zAy (by decide),zAy (by decide),fm1];rfl
   have e4:fm (.mk 4 mn mx [] [k]) 4=[40]++(fm k 4++zdl mn mx)++[41]:=by rw[fm,zAy (by decide),zAy (by decide),zAy (by decide),fm1];rfl
   have bk:=hk k (by simp)
   have hB:∀ (n:Nat) (R:List U),4*((fm k 4++zdl mn mx).length+R.length)+2≤n→noQ R→pR n (mkU z (fm k 4++zdl mn mx)++R)=.ok (.mk 4 mn mx [] [k]) R:=fun n R hn hR=>by
    obtain⟨n,rfl⟩:∃ k,n=k+3:=⟨n-3,by
     have:1≤(zdl mn mx).length:=by unfold zdl;repeat' split
                                   all_goals simp
     rw[zAa] at hn;omega⟩
    rw[zAa] at hn
    rw[z3h,zAl,pR,bk.a (n+2) _ (by rw[zAa,zir];omega)]
    simp only
    rw[zuq h1 h2 h3,zrn hR];rfl
   have hf:∀ R:List U,¬ z5a (mkU z (fm k 4++zdl mn mx)++R)∧noQ (mkU z (fm k 4++zdl mn mx)++R)∧1≤(fm k 4++zdl mn mx).length:=fun R=>by
    have hc:1≤(fm k 4++zdl mn mx).length:=by
     have:1≤(zdl mn mx).length:=by unfold zdl;repeat' split
                                   all_goals simp
     rw[zAa];omega
    have key:∃ l T,fm k 4=l∧¬ z5a (mkU z l++T)∧noQ (mkU z l++T)∧T=mkU z (zdl mn mx)++R:=by
     refine⟨_,mkU z (zdl mn mx)++R,rfl,?_,?_,rfl⟩
     · exact(fm4_f k (z96 h.2 k (by simp)) _).1
     · exact(fm4_f k (z96 h.2 k (by simp)) _).2
    obtain⟨l,T,rfl,q1,q2,rfl⟩:=key
    rw[z3h,zAl]
    exact⟨q1,q2,hc⟩
   have hC:=zy7 (e:=.mk 4 mn mx [] [k]) (show (4:Int)≠2 from by decide) hB hf
   have hD:=zpz (e:=.mk 4 mn mx [] [k]) (show (4:Int)≠3 from by decide) hC
   refine⟨fun n R=>?_,fun _ n R=>?_,fun _ n R=>?_,fun n R=>?_,fun _ R=>?_⟩
   · rw[e4];exact zs8 hD n R
   · rw[e2];exact hB n R
   · rw[e3];exact hC n R
   · rw[e0];exact hD n R
   · rw[e2];exact hf R
where
 fm4_f (k:Rx) (hv:vns k=true) (R:List U):¬ z5a (mkU z (fm k 4)++R)∧noQ (mkU z (fm k 4)++R):=by
  obtain⟨op,mn,mx,rs,ks⟩:=k
  rw[vns,zA7] at hv
  rcases z65 hv.1 with ⟨rfl,rfl,rfl,rfl,hr⟩|⟨rfl,rfl,rfl,rfl,_⟩|⟨rfl,rfl,rfl,rfl,_⟩|⟨rfl,rfl,⟨k,rfl⟩,_⟩
  · have e:fm (.mk 1 0 0 rs []) 4=zjz rs:=by rw[fm,zAz rfl]
    rw[e]
    have:=zdx (z:=z) hr R
    exact⟨this.1,this.2.1⟩
  · have e4:fm (.mk 2 0 0 [] ks) 4=[40]++fmC ks++[41]:=by rw[fm,zAy (by decide),zAz rfl];rfl
    rw[e4];have:=zuw (z:=z) (fmC ks) R;exact⟨this.1,this.2.1⟩
  · have e4:fm (.mk 3 0 0 [] ks) 4=[40]++fmU ks++[41]:=by rw[fm,zAy (by decide),zAy (by decide),zAz rfl];rfl
    rw[e4];have:=zuw (z:=z) (fmU ks) R;exact⟨this.1,this.2.1⟩
  · have e4:fm (.mk 4 mn mx [] [k]) 4=[40]++(fm1 [k]++zdl mn mx)++[41]:=by rw[fm,zAy (by decide),zAy (by decide),zAy (by decide)];rfl
    rw[e4];have:=zuw (z:=z) (fm1 [k]++zdl mn mx) R;exact⟨this.1,this.2.1⟩
end
end Go.Rx
namespace Go.Rx
abbrev Lan:=List Int→Prop
theorem zi2 {u v:List Int} (e:[]=u++v):u=[]∧v=[]:=List.append_eq_nil_iff.1 e.symm
def cat (a b:Lan):Lan:=fun w=>∃ u v,w=u++v∧a u∧b v
def eps:Lan:=fun w=>w=[]
def pow (a:Lan):Nat→Lan
 | 0=>eps
 | n+1=>cat a (pow a n)
theorem zsc {a a' b b':Lan} (h:∀ w,a w↔a' w) (h':∀ w,b w↔b' w) (w:List Int):cat a b w↔cat a' b' w:=by
 constructor
 · rintro⟨u,v,e,h1,h2⟩;exact⟨u,v,e,(h u).1 h1,(h' v).1 h2⟩
 · rintro⟨u,v,e,h1,h2⟩;exact⟨u,v,e,(h u).2 h1,(h' v).2 h2⟩
mutual
def L (ok:Int→List (Int × Int)→Bool):Rx→Lan
 | .mk op mn mx rs ks=>fun w=>if op=1 then ∃ c,w=[c]∧ok c rs=true else if op=2 then LC ok ks w else if op=3 then LU ok ks w
  else ∃ n:Nat,mn≤n∧(mx=-1∨(n:Int)≤mx)∧pow (L1 ok ks) n w
def LC (ok:Int→List (Int × Int)→Bool):List Rx→Lan
 | []=>eps
 | k::ks=>cat (L ok k) (LC ok ks)
def LU (ok:Int→List (Int × Int)→Bool):List Rx→Lan
 | []=>fun _=>False
 | k::ks=>fun w=>L ok k w∨LU ok ks w
def L1 (ok:Int→List (Int × Int)→Bool):List Rx→Lan
 | []=>eps
 | k::_=>L ok k
end
section
variable (F:Nat→Nat→Prop) (A:Nat→Int→Prop)
def Tl (last:Nat→Prop):Nat→List Int→Prop
 | i,[]=>last i
 | i,c::w=>∃ j,F i j∧A j c∧Tl last j w
def Lg (first last:Nat→Prop) (nul:Prop):Lan
 | []=>nul
 | c::w=>∃ j,first j∧A j c∧Tl F A last j w
end
theorem z7w {F F':Nat→Nat→Prop} {A A':Nat→Int→Prop} {last last':Nat→Prop} {R:Nat→Prop} (hF:∀ i j,R i→(F i j↔F' i j)) (hR:∀ i j,R i→F i j→R j) (hA:∀ i c,R i→(A i c↔A' i c)) (hl:∀ i,R i→(last i↔last' i)) :
 ∀ (w:List Int) (i:Nat),R i→(Tl F A last i w↔Tl F' A' last' i w)
 | [],i,hi=>hl i hi
 | c::w,i,hi=>by
  constructor
  · rintro⟨j,h1,h2,h3⟩
    have hj:=hR i j hi h1
    exact⟨j,(hF i j hi).1 h1,(hA j c hj).1 h2,(z7w hF hR hA hl w j hj).1 h3⟩
  · rintro⟨j,h1,h2,h3⟩
    have h1:=(hF i j hi).2 h1
    have hj:=hR i j hi h1
    exact⟨j,h1,(hA j c hj).2 h2,(z7w hF hR hA hl w j hj).2 h3⟩
theorem zez {F F':Nat→Nat→Prop} {A A':Nat→Int→Prop} {first first' last last':Nat→Prop} {nul nul':Prop} {R:Nat→Prop} (hF:∀ i j,R i→(F i j↔F' i j)) (hR:∀ i j,R i→F i j→R j) (hA:∀ i c,R i→(A i c↔A' i c)) (hl:∀ i,R i→(last i↔last' i))
 (hf:∀ i,first i↔first' i) (hfR:∀ i,first i→R i) (hn:nul↔nul'):∀ w,Lg F A first last nul w↔Lg F' A' first' last' nul' w
 | []=>hn
 | c::w=>by
  constructor
  · rintro⟨j,h1,h2,h3⟩
    have hj:=hfR j h1
    exact⟨j,(hf j).1 h1,(hA j c hj).1 h2,(z7w hF hR hA hl w j hj).1 h3⟩
  · rintro⟨j,h1,h2,h3⟩
    have h1:=(hf j).2 h1
    have hj:=hfR j h1
    exact⟨j,h1,(hA j c hj).2 h2,(z7w hF hR hA hl w j hj).2 h3⟩
section
variable {F:Nat→Nat→Prop} {A:Nat→Int→Prop} {Ra Rb fa la fb lb:Nat→Prop} {na nb:Prop}
theorem za6 (hab:∀ i,Ra i→Rb i→False) (hFb:∀ i j,Rb i→F i j→Rb j) (hla:∀ i,la i→Ra i) :
 ∀ (w:List Int) (i:Nat),Rb i→(Tl (fun i j=>F i j∨la i∧fb j) A (fun i=>lb i∨nb∧la i) i w↔Tl F A lb i w)
 | [],i,hi=>⟨fun h=>h.elim id fun h=>(hab i (hla i h.2) hi).elim,.inl⟩
 | c::w,i,hi=>by
  constructor
  · rintro⟨j,h1|h1,h2,h3⟩
    · have hj:=hFb i j hi h1
      exact⟨j,h1,h2,(za6 hab hFb hla w j hj).1 h3⟩
    · exact(hab i (hla i h1.1) hi).elim
  · rintro⟨j,h1,h2,h3⟩
    have hj:=hFb i j hi h1
    exact⟨j,.inl h1,h2,(za6 hab hFb hla w j hj).2 h3⟩
theorem zf5 (hab:∀ i,Ra i→Rb i→False) (hFa:∀ i j,Ra i→F i j→Ra j) (hFb:∀ i j,Rb i→F i j→Rb j) (hla:∀ i,la i→Ra i) (hlb:∀ i,lb i→Rb i) (hfb:∀ i,fb i→Rb i) :
 ∀ (w:List Int) (i:Nat),Ra i→(Tl (fun i j=>F i j∨la i∧fb j) A (fun i=>lb i∨nb∧la i) i w↔∃ u v,w=u++v∧Tl F A la i u∧Lg F A fb lb nb v)
 | [],i,hi=>by
  constructor
  · rintro(h|h)
    · exact(hab i hi (hlb i h)).elim
    · exact⟨[],[],rfl,h.2,h.1⟩
  · rintro⟨u,v,e,h1,h2⟩
    obtain⟨rfl,rfl⟩:=zi2 e
    exact .inr ⟨h2,h1⟩
 | c::w,i,hi=>by
  constructor
  · rintro⟨j,h1|h1,h2,h3⟩
    · obtain⟨u,v,rfl,h4,h5⟩:=(zf5 hab hFa hFb hla hlb hfb w j (hFa i j hi h1)).1 h3
      exact⟨c::u,v,rfl,⟨j,h1,h2,h4⟩,h5⟩
    · exact⟨[],c::w,rfl,h1.1,j,h1.2,h2,(za6 hab hFb hla w j (hfb j h1.2)).1 h3⟩
  · rintro⟨u,v,e,h1,h2⟩
    cases u with
    | nil =>
     exact zD110
    | cons d u =>
     simp only[List.cons_append,List.cons.injEq] at e
     obtain⟨rfl,rfl⟩:=e
     obtain⟨j,h3,h4,h5⟩:=h1
     exact⟨j,.inl h3,h4,(zf5 hab hFa hFb hla hlb hfb (u++v) j (hFa i j hi h3)).2 ⟨u,v,rfl,h5,h2⟩⟩
theorem y4p (hab:∀ i,Ra i→Rb i→False) (hFa:∀ i j,Ra i→F i j→Ra j) (hFb:∀ i j,Rb i→F i j→Rb j) (hla:∀ i,la i→Ra i) (hlb:∀ i,lb i→Rb i) (hfa:∀ i,fa i→Ra i) (hfb:∀ i,fb i→Rb i) (w:List Int) :
 Lg (fun i j=>F i j∨la i∧fb j) A (fun i=>fa i∨na∧fb i) (fun i=>lb i∨nb∧la i) (na∧nb) w↔cat (Lg F A fa la na) (Lg F A fb lb nb) w:=by
 cases w with
 | nil =>
  constructor
  · rintro⟨h1,h2⟩;exact⟨[],[],rfl,h1,h2⟩
  · rintro⟨u,v,e,h1,h2⟩
    obtain⟨rfl,rfl⟩:=zi2 e
    exact⟨h1,h2⟩
 | cons c w =>
  constructor
  · rintro⟨j,h1|h1,h2,h3⟩
    · obtain⟨u,v,rfl,h4,h5⟩:=(zf5 hab hFa hFb hla hlb hfb w j (hfa j h1)).1 h3
      exact⟨c::u,v,rfl,⟨j,h1,h2,h4⟩,h5⟩
    · exact⟨[],c::w,rfl,h1.1,j,h1.2,h2,(za6 hab hFb hla w j (hfb j h1.2)).1 h3⟩
  · rintro⟨u,v,e,h1,h2⟩
    cases u with
    | nil =>
     exact zD110
    | cons d u =>
     simp only[List.cons_append,List.cons.injEq] at e
     obtain⟨rfl,rfl⟩:=e
     obtain⟨j,h3,h4,h5⟩:=h1
     exact⟨j,.inl h3,h4,(zf5 hab hFa hFb hla hlb hfb (u++v) j (hfa j h3)).2 ⟨u,v,rfl,h5,h2⟩⟩
theorem y71 (w:List Int) (hab:∀ i,Ra i→Rb i→False) (hFa:∀ i j,Ra i→F i j→Ra j) (hFb:∀ i j,Rb i→F i j→Rb j) (hla:∀ i,la i→Ra i) (hlb:∀ i,lb i→Rb i) (hfa:∀ i,fa i→Ra i) (hfb:∀ i,fb i→Rb i) :
 Lg F A (fun i=>fa i∨fb i) (fun i=>la i∨lb i) (na∨nb) w↔Lg F A fa la na w∨Lg F A fb lb nb w:=by
 have ha:∀ w i,Ra i→(Tl F A (fun i=>la i∨lb i) i w↔Tl F A la i w):=fun w i hi=>z7w (R:=Ra) (fun _ _ _=>Iff.rfl) hFa (fun _ _ _=>Iff.rfl) (fun i hi=>⟨fun h=>h.elim id fun h=>(hab i hi (hlb i h)).elim,.inl⟩) w i hi
 have hb:∀ w i,Rb i→(Tl F A (fun i=>la i∨lb i) i w↔Tl F A lb i w):=fun w i hi=>z7w (R:=Rb) (fun _ _ _=>Iff.rfl) hFb (fun _ _ _=>Iff.rfl) (fun i hi=>⟨fun h=>h.elim (fun h=>(hab i (hla i h) hi).elim) id,.inr⟩) w i hi
 cases w with
 | nil=>exact Iff.rfl
 | cons c w =>
  constructor
  · rintro⟨j,h1|h1,h2,h3⟩
    · exact .inl ⟨j,h1,h2,(ha w j (hfa j h1)).1 h3⟩
    · exact .inr ⟨j,h1,h2,(hb w j (hfb j h1)).1 h3⟩
  · rintro(⟨j,h1,h2,h3⟩|⟨j,h1,h2,h3⟩)
    · exact⟨j,.inl h1,h2,(ha w j (hfa j h1)).2 h3⟩
    · exact⟨j,.inr h1,h2,(hb w j (hfb j h1)).2 h3⟩
end
end Go.Rx
namespace Go.Rx
theorem zrq {α:Type} {l:List α} {i:Nat} {d:α} (h:l.length≤i):l.getD i d=d:=by simp[List.getD,zAv h]
theorem zzt {α:Type} (a b:List α) (d:α) {i:Nat} (h:i<a.length):(a++b).getD i d=a.getD i d:=by simp[List.getD,zAb h]
structure Tb where
 lv:List (List (Int × Int))
 fo:List Nat
structure Pt where
 f:Nat
 l:Nat
 nu:Bool
def lnk (fr to:Nat):Nat→List Nat→List Nat
 | _,[]=>[]
 | i,x::r=>(if fr.testBit i=true then x ||| to else x)::lnk fr to (i+1) r
def link (t:Tb) (fr to:Nat):Tb:=⟨t.lv,lnk fr to 0 t.fo⟩
def zbl (a b:Pt) (t:Tb):Tb × Pt:=(link t a.l b.f,⟨if a.nu=true then a.f ||| b.f else a.f,if b.nu=true then b.l ||| a.l else b.l,a.nu&&b.nu⟩)
def ptE:Pt:=⟨0,0,true⟩
def ptN:Pt:=⟨0,0,false⟩
def por (a b:Pt):Pt:=⟨a.f ||| b.f,a.l ||| b.l,a.nu||b.nu⟩
def same (t:Tb) (r:Tb × Pt):Bool:=decide (r.1.lv.length=t.lv.length)
def rpl (b:Tb→Tb × Pt) (pl:Bool):Nat→Tb→Pt→Tb × Pt × Bool
 | 0,t,p=>(t,p,false)
 | n+1,t,p=>if same t (b t)=true then ((b t).1,ptE,true) else
  rpl b pl n (zbl p (b t).2 (if (pl&&decide (n=0))=true then link (b t).1 (b t).2.l (b t).2.f else (b t).1)).1 (zbl p (b t).2 (if (pl&&decide (n=0))=true then link (b t).1 (b t).2.l (b t).2.f else (b t).1)).2
def opt (b:Tb→Tb × Pt):Nat→Tb→Tb × Pt
 | 0,t=>(t,ptE)
 | n+1,t=>if same t (b t)=true then ((b t).1,ptE) else
  ((zbl (b t).2 (opt b n (b t).1).2 (opt b n (b t).1).1).1,⟨(zbl (b t).2 (opt b n (b t).1).2 (opt b n (b t).1).1).2.f,(zbl (b t).2 (opt b n (b t).1).2 (opt b n (b t).1).1).2.l,true⟩)
def rp (b:Tb→Tb × Pt) (mn mx:Int) (t:Tb):Tb × Pt :=
 let r:=rpl b (decide (mx<0)) mn.toNat t ptE
 if r.2.2=true then (r.1,r.2.1)
 else if mx<0∧mn=0 then (link (b r.1).1 (b r.1).2.l (b r.1).2.f,⟨(b r.1).2.f,(b r.1).2.l,true⟩)
 else if mn<mx then zbl r.2.1 (opt b (mx-mn).toNat r.1).2 (opt b (mx-mn).toNat r.1).1
 else (r.1,r.2.1)
mutual
def bd:Rx→Tb→Tb × Pt
 | .mk op mn mx rs ks,t=>if op=1 then (⟨t.lv++[rs],t.fo++[0]⟩,⟨2 ^ t.lv.length,2 ^ t.lv.length,false⟩) else if op=2 then bdC ks t ptE else if op=3 then bdU ks t ptN else rp (fun t=>bd1 ks t) mn mx t
def bdC:List Rx→Tb→Pt→Tb × Pt
 | [],t,p=>(t,p)
 | k::ks,t,p=>bdC ks (zbl p (bd k t).2 (bd k t).1).1 (zbl p (bd k t).2 (bd k t).1).2
def bdU:List Rx→Tb→Pt→Tb × Pt
 | [],t,p=>(t,p)
 | k::ks,t,p=>bdU ks (bd k t).1 (por p (bd k t).2)
def bd1:List Rx→Tb→Tb × Pt
 | [],t=>(t,ptE)
 | k::_,t=>bd k t
end
abbrev bit (x:Nat) (i:Nat):Prop:=x.testBit i=true
def FoR (t:Tb) (i j:Nat):Prop:=(t.fo.getD i 0).testBit j=true
def AcR (ok:Int→List (Int × Int)→Bool) (t:Tb) (j:Nat) (c:Int):Prop:=ok c (t.lv.getD j [])=true
theorem zah (fr to:Nat):∀ (l:List Nat) (i:Nat),(lnk fr to i l).length=l.length
 | [],_=>rfl
 | x::l,i=>by rw[lnk,zAk,zah fr to l,zAk]
theorem zaa (fr to:Nat):∀ (l:List Nat) (i k:Nat),k<l.length→(lnk fr to i l).getD k 0=if fr.testBit (i+k)=true then l.getD k 0 ||| to else l.getD k 0
 | [],_,k,h=>by simp at h
 | x::l,i,0,h=>by simp[lnk]
 | x::l,i,k+1,h=>by
  have:=zaa fr to l (i+1) k (by simpa using h)
  rw[lnk,List.getD_cons_succ,this,List.getD_cons_succ,show i+1+k=i+(k+1) by omega]
theorem zks {t:Tb} {fr to:Nat} (h:∀ i,bit fr i→i<t.fo.length) (i j:Nat):FoR (link t fr to) i j↔FoR t i j∨bit fr i∧bit to j:=by
 unfold FoR link
 simp only
 by_cases hi:i<t.fo.length
 · rw[zaa fr to t.fo 0 i hi,Nat.zero_add]
   by_cases hb:fr.testBit i=true
   · rw[zAz hb,Nat.testBit_or,zAu];simp only[bit,hb,true_and]
   · rw[zAy hb];exact⟨.inl,fun h=>h.elim id fun h=>absurd h.1 hb⟩
 · have h1:(lnk fr to 0 t.fo).getD i 0=0:=by
    exact zrq (by rw[zah];omega)
   have h2:t.fo.getD i 0=0:=by exact zrq (by omega)
   rw[h1,h2]
   simp only[Nat.zero_testBit,Bool.false_eq_true,false_or,false_iff,not_and]
   intro hb;exact absurd (h i hb) hi
structure Ex (t t':Tb):Prop where
 lv:∃ new,t'.lv=t.lv++new
 len:t'.fo.length=t'.lv.length
 old:∀ i,i<t.lv.length→t'.fo.getD i 0=t.fo.getD i 0
 row:∀ i j,t.lv.length≤i→FoR t' i j→t.lv.length≤j∧j<t'.lv.length
theorem Ex.le {t t':Tb} (h:Ex t t'):t.lv.length≤t'.lv.length:=by
 obtain⟨new,e⟩:=h.lv;rw[e,zAa];omega
theorem Ex.trans {t t1 t2:Tb} (h:Ex t t1) (k:Ex t1 t2):Ex t t2:=by
 refine⟨?_,k.len,fun i hi=>(k.old i (zAx hi h.le)).trans (h.old i hi),fun i j hi hf=>?_⟩
 · obtain⟨a,ha⟩:=h.lv;obtain⟨b,hb⟩:=k.lv;exact⟨a++b,by rw[hb,ha,zAl]⟩
 · by_cases hi1:i<t1.lv.length
   · have:FoR t1 i j:=by unfold FoR at hf ⊢;rw[← k.old i hi1];exact hf
     have h1:=h.row i j hi this
     exact⟨h1.1,zAx h1.2 k.le⟩
   · have h1:=k.row i j (by omega) hf
     exact⟨Nat.le_trans h.le h1.1,h1.2⟩
theorem Ex.link {t t1:Tb} (h:Ex t t1) {fr to:Nat} (hf:∀ i,bit fr i→t.lv.length≤i∧i<t1.lv.length) (ht:∀ i,bit to i→t.lv.length≤i∧i<t1.lv.length):Ex t (link t1 fr to):=by
 have hfo:∀ i,bit fr i→i<t1.fo.length:=fun i hi=>by rw[h.len];exact(hf i hi).2
 refine⟨h.lv,by show (lnk fr to 0 t1.fo).length=_;rw[zah];exact h.len,fun i hi=>?_,fun i j hi hfl=>?_⟩
 · show (lnk fr to 0 t1.fo).getD i 0=_
   have hlt:i<t1.fo.length:=by rw[h.len];exact zAx hi h.le
   rw[zaa fr to t1.fo 0 i hlt,Nat.zero_add,zAy,h.old i hi]
   intro hb
   have:=(hf i hb).1
   omega
 · rw[zks hfo] at hfl
   rcases hfl with h1|⟨h1,h2⟩
   · exact h.row i j hi h1
   · exact ht j h2
structure Bl (ok:Int→List (Int × Int)→Bool) (X:Lan) (t t':Tb) (p:Pt):Prop where
 ex:Ex t t'
 fst:∀ i,bit p.f i→t.lv.length≤i∧i<t'.lv.length
 lst:∀ i,bit p.l i→t.lv.length≤i∧i<t'.lv.length
 lan:∀ w,Lg (FoR t') (AcR ok t') (bit p.f) (bit p.l) (p.nu=true) w↔X w
section
variable {ok:Int→List (Int × Int)→Bool} {X Y:Lan} {t t1 t2:Tb} {a b p:Pt}
theorem zey {F:Nat→Nat→Prop} {A:Nat→Int→Prop} {last first:Nat→Prop} {nul:Prop} (h:∀ i,¬ first i) (w:List Int):Lg F A first last nul w↔w=[]∧nul:=by
 cases w with
 | nil=>exact⟨fun h=>⟨rfl,h⟩,fun h=>h.2⟩
 | cons c w=>exact⟨fun ⟨j,hj,_⟩=>(h j hj).elim,fun h=>by simp at h⟩
theorem y2m (i:Nat):¬ bit 0 i:=by simp[bit]
theorem Bl.eps (h:Ex t t1):Bl ok eps t t1 ptE:=⟨h,fun i hi=>(y2m i hi).elim,fun i hi=>(y2m i hi).elim,fun w=>(zey y2m w).trans ⟨fun h=>h.1,fun h=>⟨h,rfl⟩⟩⟩
theorem Bl.none (h:Ex t t1):Bl ok (fun _=>False) t t1 ptN:=⟨h,fun i hi=>(y2m i hi).elim,fun i hi=>(y2m i hi).elim,fun w=>(zey y2m w).trans ⟨fun h=>by simp[ptN] at h,fun h=>h.elim⟩⟩
theorem Bl.later (h:Bl ok X t t1 a) (k:Ex t1 t2) (w:List Int):Lg (FoR t2) (AcR ok t2) (bit a.f) (bit a.l) (a.nu=true) w↔X w:=by
 rw[← h.lan w]
 refine zez (R:=fun i=>t.lv.length≤i∧i<t1.lv.length) (fun i j hi=>?_) (fun i j hi hf=>?_) (fun i c hi=>?_) (fun _ _=>Iff.rfl) (fun _=>Iff.rfl) h.fst Iff.rfl w
 · unfold FoR;rw[k.old i hi.2]
 · have:FoR t1 i j:=by unfold FoR at hf ⊢;rw[← k.old i hi.2];exact hf
   exact h.ex.row i j hi.1 this
 · unfold AcR
   obtain⟨new,e⟩:=k.lv
   rw[e,zzt _ _ _ hi.2]
theorem zgp (h:Ex t t1) (k:Ex t1 t2) (i j:Nat) (hi:t.lv.length≤i∧i<t1.lv.length) (hf:FoR t2 i j):t.lv.length≤j∧j<t1.lv.length:=by
 have:FoR t1 i j:=by unfold FoR at hf ⊢;rw[← k.old i hi.2];exact hf
 exact h.row i j hi.1 this
theorem Bl.cat (h:Bl ok X t t1 a) (k:Bl ok Y t1 t2 b):Bl ok (cat X Y) t (zbl a b t2).1 (zbl a b t2).2:=by
 have l1:=h.ex.le;have l2:=k.ex.le
 have hfl:∀ i,bit a.l i→i<t2.fo.length:=fun i hi=>by rw[k.ex.len];have:=(h.lst i hi).2;omega
 have e1:∀ i,bit (zbl a b t2).2.f i↔bit a.f i∨a.nu=true∧bit b.f i:=fun i=>by
  simp only[zbl,bit]
  cases a.nu <;> simp[Nat.testBit_or]
 have e2:∀ i,bit (zbl a b t2).2.l i↔bit b.l i∨b.nu=true∧bit a.l i:=fun i=>by
  simp only[zbl,bit]
  cases b.nu <;> simp[Nat.testBit_or]
 have e3:((zbl a b t2).2.nu=true)↔(a.nu=true∧b.nu=true):=by simp[zbl]
 refine⟨(h.ex.trans k.ex).link (fun i hi=>⟨(h.lst i hi).1,zAx (h.lst i hi).2 l2⟩) (fun i hi=>⟨Nat.le_trans l1 (k.fst i hi).1,(k.fst i hi).2⟩),fun i hi=>?_,fun i hi=>?_,fun w=>?_⟩
 · rcases (e1 i).1 hi with h1|⟨_,h1⟩
   · exact⟨(h.fst i h1).1,zAx (h.fst i h1).2 l2⟩
   · exact⟨Nat.le_trans l1 (k.fst i h1).1,(k.fst i h1).2⟩
 · rcases (e2 i).1 hi with h1|⟨_,h1⟩
   · exact⟨Nat.le_trans l1 (k.lst i h1).1,(k.lst i h1).2⟩
   · exact⟨(h.lst i h1).1,zAx (h.lst i h1).2 l2⟩
 · have key:=y4p (F:=FoR t2) (A:=AcR ok t2) (Ra:=fun i=>t.lv.length≤i∧i<t1.lv.length) (Rb:=fun i=>t1.lv.length≤i∧i<t2.lv.length) (fa:=bit a.f) (la:=bit a.l) (fb:=bit b.f) (lb:=bit b.l) (na:=a.nu=true) (nb:=b.nu=true)
    (fun i h1 h2=>by omega) (fun i j hi hf=>zgp h.ex k.ex i j hi hf) (fun i j hi hf=>k.ex.row i j hi.1 hf) h.lst k.lst h.fst k.fst w
   have step:Lg (FoR (zbl a b t2).1) (AcR ok (zbl a b t2).1) (bit (zbl a b t2).2.f) (bit (zbl a b t2).2.l) ((zbl a b t2).2.nu=true) w ↔
    Lg (fun i j=>FoR t2 i j∨bit a.l i∧bit b.f j) (AcR ok t2) (fun i=>bit a.f i∨a.nu=true∧bit b.f i) (fun i=>bit b.l i∨b.nu=true∧bit a.l i) (a.nu=true∧b.nu=true) w :=
    zez (R:=fun _=>True) (fun i j _=>zks hfl i j) (fun _ _ _ _=>trivial) (fun _ _ _=>Iff.rfl) (fun i _=>e2 i) e1 (fun _ _=>trivial) e3 w
   exact(step.trans key).trans (zsc (h.later k.ex) k.lan w)
theorem Bl.or (h:Bl ok X t t1 a) (k:Bl ok Y t1 t2 b):Bl ok (fun w=>X w∨Y w) t t2 (por a b):=by
 have l1:=h.ex.le;have l2:=k.ex.le
 have e1:∀ i,bit (por a b).f i↔bit a.f i∨bit b.f i:=fun i=>by simp[por,bit,Nat.testBit_or]
 have e2:∀ i,bit (por a b).l i↔bit a.l i∨bit b.l i:=fun i=>by simp[por,bit,Nat.testBit_or]
 have e3:((por a b).nu=true)↔(a.nu=true∨b.nu=true):=by simp[por]
 refine⟨h.ex.trans k.ex,fun i hi=>?_,fun i hi=>?_,fun w=>?_⟩
 · rcases (e1 i).1 hi with h1|h1
   · exact⟨(h.fst i h1).1,zAx (h.fst i h1).2 l2⟩
   · exact⟨Nat.le_trans l1 (k.fst i h1).1,(k.fst i h1).2⟩
 · rcases (e2 i).1 hi with h1|h1
   · exact⟨(h.lst i h1).1,zAx (h.lst i h1).2 l2⟩
   · exact⟨Nat.le_trans l1 (k.lst i h1).1,(k.lst i h1).2⟩
 · have key:=y71 (F:=FoR t2) (A:=AcR ok t2) (Ra:=fun i=>t.lv.length≤i∧i<t1.lv.length) (Rb:=fun i=>t1.lv.length≤i∧i<t2.lv.length) (fa:=bit a.f) (la:=bit a.l) (fb:=bit b.f) (lb:=bit b.l) (na:=a.nu=true) (nb:=b.nu=true)
    w (fun i h1 h2=>by omega) (fun i j hi hf=>zgp h.ex k.ex i j hi hf) (fun i j hi hf=>k.ex.row i j hi.1 hf) h.lst k.lst h.fst k.fst
   have step:Lg (FoR t2) (AcR ok t2) (bit (por a b).f) (bit (por a b).l) ((por a b).nu=true) w ↔
    Lg (FoR t2) (AcR ok t2) (fun i=>bit a.f i∨bit b.f i) (fun i=>bit a.l i∨bit b.l i) (a.nu=true∨b.nu=true) w :=
    zez (R:=fun _=>True) (fun i j _=>Iff.rfl) (fun _ _ _ _=>trivial) (fun _ _ _=>Iff.rfl) (fun i _=>e2 i) e1 (fun _ _=>trivial) e3 w
   exact(step.trans key).trans (or_congr (h.later k.ex w) (k.lan w))
theorem Bl.nul (h:Bl ok X t t1 p):Bl ok (fun w=>w=[]∨X w) t t1 ⟨p.f,p.l,true⟩:=by
 refine⟨h.ex,h.fst,h.lst,fun w=>?_⟩
 cases w with
 | nil=>exact⟨fun _=>.inl rfl,fun _=>rfl⟩
 | cons c w =>
  constructor
  · intro hw;exact .inr ((h.lan (c::w)).1 hw)
  · rintro(hw|hw)
    · simp at hw
    · exact(h.lan (c::w)).2 hw
end
end Go.Rx
namespace Go.Rx
structure Kid (ok:Int→List (Int × Int)→Bool) (X:Lan) (P:Int) (b:Tb→Tb × Pt):Prop where
 bl:∀ t,t.fo.length=t.lv.length→Bl ok X t (b t).1 (b t).2
 nol:∀ t,t.fo.length=t.lv.length→(b t).1.lv.length=t.lv.length→(b t).2.nu=true
 few:∀ t,t.fo.length=t.lv.length→((b t).1.lv.length:Int)≤t.lv.length+P
section
variable {ok:Int→List (Int × Int)→Bool} {X:Lan} {P:Int} {b:Tb→Tb × Pt}
theorem Kid.eps (h:Kid ok X P b) {t:Tb} (ht:t.fo.length=t.lv.length) (hs:same t (b t)=true) (w:List Int):X w↔w=[]:=by
 rw[same,zA3] at hs
 have h1:=h.bl t ht
 rw[← h1.lan w,zey (fun i hi=>by have:=h1.fst i hi;omega)]
 exact⟨fun h=>h.1,fun h2=>⟨h2,h.nol t ht hs⟩⟩
end
def nxF (S:Nat):Nat→Nat→List Nat→Nat
 | _,acc,[]=>acc
 | i,acc,x::r=>nxF S (i+1) (if S.testBit i=true then acc ||| x else acc) r
def rdF (ok:Int→List (Int × Int)→Bool) (c:Int) (S:Nat):Nat→Nat→List (List (Int × Int))→Nat
 | _,acc,[]=>acc
 | i,acc,l::r=>rdF ok c S (i+1) (if S.testBit i=true∧ok c l=true then acc ||| 2 ^ i else acc) r
theorem zpf (ok:Int→List (Int × Int)→Bool) (c:Int) (S:Nat):∀ (l:List (List (Int × Int))) (i acc j:Nat),bit (rdF ok c S i acc l) j↔bit acc j∨∃ k,k<l.length∧j=i+k∧bit S j∧ok c (l.getD k [])=true
 | [],i,acc,j=>by simp[rdF]
 | x::l,i,acc,j=>by
  rw[rdF,zpf ok c S l (i+1)]
  have h0:bit (if S.testBit i=true∧ok c x=true then acc ||| 2 ^ i else acc) j↔bit acc j∨j=i∧bit S i∧ok c x=true:=by
   by_cases h:S.testBit i=true∧ok c x=true
   · rw[zAz h,bit,Nat.testBit_or,Nat.testBit_two_pow,zAu,zA3]
     exact⟨fun h2=>h2.elim .inl fun h2=>.inr ⟨h2.symm,h.1,h.2⟩,fun h2=>h2.elim .inl fun h2=>.inr h2.1.symm⟩
   · rw[zAy h];simp only[bit];exact⟨.inl,fun h2=>h2.elim id fun h2=>absurd h2.2 h⟩
  rw[h0]
  constructor
  · rintro((h|⟨rfl,h2,h3⟩)|⟨k,h1,h2,h3,h4⟩)
    · exact .inl h
    · exact .inr ⟨0,by simp,by simp,h2,by simpa using h3⟩
    · exact .inr ⟨k+1,by simpa using h1,by omega,h3,by simpa using h4⟩
  · rintro(h|⟨k,h1,h2,h3,h4⟩)
    · exact .inl (.inl h)
    · cases k with
      | zero =>
       obtain rfl:j=i:=by omega
       exact .inl (.inr ⟨rfl,h3,by simpa using h4⟩)
      | succ k=>exact .inr ⟨k,by simpa using h1,by omega,h3,by simpa using h4⟩
section
variable {ok:Int→List (Int × Int)→Bool} {t:Tb}
end
open Go
set_option maxRecDepth 100000
theorem zo5 (s:ByteArray) (i:Nat) (h:i<s.size):1≤(Utf8.decode s i).2∧i+(Utf8.decode s i).2≤s.size:=by
 unfold Utf8.decode
 simp only[zA7,zA3]
 repeat' split
 all_goals simp only
 all_goals omega
theorem zmq {c:Nat} (h:Utf8.valid c=true):c≤1114111:=by
 unfold Utf8.valid at h
 rw[zAu,zA7,zA7,zA3,zA3,zA3,zA3] at h
 omega
theorem zx7 (s:ByteArray) (i:Nat):(Utf8.decode s i).1≤1114111:=by
 unfold Utf8.decode
 dsimp only
 repeat' split
 all_goals first
  | (show (65533:Nat)≤1114111;decide)
  | (rename_i h;rw[zA7] at h;exact zmq h.2)
  | (simp only;omega)
theorem zzg (s:ByteArray) (i k:Nat):(s.extract i s.size).get! k=s.get! (i+k):=by
 show (s.extract i s.size).data[k]! =s.data[i+k]!
 rw[ByteArray.data_extract,getElem!_def,getElem!_def,Array.getElem?_extract]
 have:s.data.size=s.size:=rfl
 by_cases hk:i+k<s.size
 · rw[zAz (by omega)]
 · rw[zAy (by omega),Array.getElem?_eq_none (by omega)]
theorem y2j (s:ByteArray) (i:Nat):Utf8.decode (s.extract i s.size) 0=Utf8.decode s i:=by
 unfold Utf8.decode
 have hs:(s.extract i s.size).size=s.size-i:=by simp
 have hc:∀ k,decide (k<(s.extract i s.size).size)=decide (i+k<s.size):=fun k=>by
  rw[hs,decide_eq_decide];omega
 simp only[Nat.zero_add,zzg]
 simp only[hc]
theorem y5f (s:ByteArray) (i:Nat) (h:i<s.size):Lib.decodeGo (s.extract i s.size)=Utf8.decode s i:=by
 have hs:(s.extract i s.size).size=s.size-i:=by simp
 unfold Lib.decodeGo
 rw[zAy (by omega),y2j]
def uB (s:ByteArray):Nat→Nat→List U
 | 0,_=>[]
 | f+1,i=>if i<s.size then ⟨((Utf8.decode s i).1:Nat),(Utf8.decode s i).2⟩::uB s f (i+(Utf8.decode s i).2) else []
def rst (s:ByteArray) (i:Nat):List U:=uB s (s.size-i) i
theorem zs2 (s:ByteArray):∀ (f g i:Nat),s.size-i≤f→s.size-i≤g→uB s f i=uB s g i
 | 0,0,i,_,_=>rfl
 | 0,g+1,i,h,_=>by rw[uB,uB,zAy (by omega)]
 | f+1,0,i,_,h=>by rw[uB,uB,zAy (by omega)]
 | f+1,g+1,i,h1,h2=>by
  rw[uB,uB]
  by_cases hi:i<s.size
  · rw[zAz hi,zAz hi]
    have:=zo5 s i hi
    rw[zs2 s f g _ (by omega) (by omega)]
  · rw[zAy hi,zAy hi]
theorem zl6 {s:ByteArray} {i:Nat} (h:i<s.size):rst s i=⟨((Utf8.decode s i).1:Nat),(Utf8.decode s i).2⟩::rst s (i+(Utf8.decode s i).2):=by
 have:=zo5 s i h
 rw[rst,show s.size-i=(s.size-i-1)+1 by omega,uB,zAz h]
 congr 1
 exact zs2 s _ _ _ (by omega) (zAj _)
theorem zhz {s:ByteArray} {i:Nat} (h:s.size≤i):rst s i=[]:=by
 rw[rst,show s.size-i=0 by omega];rfl
theorem zs0 {s:ByteArray} {i:Nat} (h:i<s.size):nx (rst s i)=((Utf8.decode s i).1:Nat):=by rw[zl6 h];rfl
def y99 (r:Int):Prop:=(65≤r∧r≤90)∨(192≤r∧r≤222∧r≠215)∨(913≤r∧r≤937∧r≠930)∨(1040≤r∧r≤1071)
instance (r:Int):Decidable (y99 r):=inferInstanceAs (Decidable (_∨_))
def c1:List Nat→Bool
 | x::_=>x / 64 == 2
 | []=>false
def btN (s:ByteArray):List Nat:=s.data.toList.map UInt8.toNat
theorem y24 (s:ByteArray):(btN s).length=s.size:=by rw[btN,zA4,zAe];rfl
def y5b (l:List Nat):ByteArray:=⟨(l.map UInt8.ofNat).toArray⟩
theorem ztm {l:List Nat} (h:∀ x∈l,x<256):btN (y5b l)=l:=by
 rw[btN,y5b]
 simp only[List.map_map]
 conv=>rhs;rw[← List.map_id l]
 refine List.map_congr_left fun x hx=>?_
 show (UInt8.ofNat x).toNat=x
 rw[UInt8.toNat_ofNat']
 exact Nat.mod_eq_of_lt (h x hx)
theorem zm1 (s:ByteArray):y5b (btN s)=s:=by
 have:(btN s).map UInt8.ofNat=s.data.toList:=by
  rw[btN,List.map_map]
  conv=>rhs;rw[← List.map_id s.data.toList]
  exact List.map_congr_left fun x hx=>by simp
 rw[y5b,this]
theorem y5z (s:ByteArray):∀ x∈btN s,x<256:=fun x hx=>by
 rw[btN,List.mem_map] at hx
 obtain⟨b,_,rfl⟩:=hx
 exact b.toNat_lt
theorem zql {a b:ByteArray} (h:btN a=btN b):a=b:=by rw[← zm1 a,h,zm1]
theorem z8t {c:Int}:Utf8.valid c=true↔(0≤c∧c<55296)∨(57344≤c∧c≤1114111):=by
 unfold Utf8.valid
 rw[zAu,zA7,zA7,zA3,zA3,zA3,zA3]
theorem z29 (x:Nat) (h:x<256):(UInt8.ofNat x).toNat=x:=by rw[UInt8.toNat_ofNat'];exact Nat.mod_eq_of_lt h
def ecL (c:Nat):List Nat:=if c<128 then [c] else if c<2048 then [192+c / 64,128+c % 64] else if c<65536 then [224+c / 4096,128+c / 64 % 64,128+c % 64] else [240+c / 262144,128+c / 4096 % 64,128+c / 64 % 64,128+c % 64]
def zvy (c:Int):Nat:=if Utf8.valid c=true then c.toNat else 65533
theorem znp (c:Int):Utf8.valid ((zvy c:Nat):Int)=true:=by
 unfold zvy
 split
 · rename_i h
   have:=z8t.1 h
   rw[z8t];omega
 · rw[z8t];omega
theorem zqs (c:Int):btN (Utf8.encode c)=ecL (zvy c):=by
 have hv:=z8t.1 (znp c)
 have e:(if Utf8.valid c=true then c.toNat else Utf8.runeError)=zvy c:=rfl
 unfold Utf8.encode
 simp only[e]
 obtain⟨k,hk⟩:∃ k,zvy c=k:=⟨_,rfl⟩
 rw[hk] at hv ⊢
 unfold ecL btN
 by_cases h1:k<128
 · rw[zAz h1,zAz h1]
   simp only[List.map_cons,List.map_nil]
   rw[z29 _ (by omega)]
 rw[zAy h1,zAy h1]
 by_cases h2:k<2048
 · rw[zAz h2,zAz h2]
   simp only[List.map_cons,List.map_nil]
   rw[z29 _ (by omega),z29 _ (by omega)]
 rw[zAy h2,zAy h2]
 by_cases h3:k<65536
 · rw[zAz h3,zAz h3]
   simp only[List.map_cons,List.map_nil]
   rw[z29 _ (by omega),z29 _ (by omega),z29 _ (by omega)]
 rw[zAy h3,zAy h3]
 simp only[List.map_cons,List.map_nil]
 rw[z29 _ (by omega),z29 _ (by omega),z29 _ (by omega),z29 _ (by omega)]
def inR (l:List (Int × Int)) (c:Int):Bool:=l.any fun r=>decide (r.1≤c)&&decide (c≤r.2)
def y8g (u:U):Bool:=!decide (u.r=65533)||decide (u.n=3)
def y7r (s:ByteArray):Bool:=(rst s 0).all y8g
end Go.Rx
namespace Go.Rx
structure Sm (t:Tb):Prop where
 len:t.fo.length=t.lv.length
 sm:∀ x∈t.fo,x<2 ^ 64
theorem y9j {x n:Nat} (hn:n≤64) (h:∀ i,bit x i→i<n):x<2 ^ 64:=by
 refine Nat.lt_pow_two_of_testBit x fun i hi=>?_
 cases hb:x.testBit i with
 | false=>rfl
 | true=>have:=h i hb;omega
section
variable {ok:Int→List (Int × Int)→Bool} {X:Lan} {t t':Tb} {p:Pt}
end
theorem zxm (ok:Int→List (Int × Int)→Bool) (c:Int) (N:Nat) {lv:List (List (Int × Int))} (hl:lv.length≤64) {a:Nat} (ha:a<2 ^ 64):rdF ok c N 0 a lv<2 ^ 64:=by
 refine y9j (zAj 64) fun j hj=>?_
 rcases (zpf ok c N lv 0 a j).1 hj with h|⟨k,h1,h2,_⟩
 · false_or_by_contra
   rename_i hlt
   have h3:a<2 ^ j:=zAx ha (Nat.pow_le_pow_right (by omega) (by omega))
   have:=Nat.testBit_lt_two_pow h3
   rw[bit,this] at h;cases h
 · omega
theorem zw8 (ok:Int→List (Int × Int)→Bool) (c:Int) (N:Nat) {lv:List (List (Int × Int))} {k:Nat} {l:List (Int × Int)} (hl:lv[k]? =some l) (a:Nat) :
 rdF ok c N k a (lv.drop k)=rdF ok c N (k+1) (if N.testBit k=true∧ok c l=true then a ||| 2 ^ k else a) (lv.drop (k+1)):=by
 obtain⟨h1,h2⟩:=zA1.1 hl
 rw[List.drop_eq_getElem_cons h1,h2,rdF]
end Go.Rx
